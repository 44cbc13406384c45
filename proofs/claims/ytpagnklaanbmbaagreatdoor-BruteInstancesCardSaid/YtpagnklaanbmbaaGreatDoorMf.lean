/-
  Own library, part 6: an abstract reading of values and a calculus over it; contracts of functions; plain lemmas.
-/
import Derived.Test.YtpagnklaanbmbaaGreatDoorMe
set_option linter.unusedVariables false
set_option linter.unusedSimpArgs false
set_option maxRecDepth 100000
open Go.Proofs.Tryz renaming prog->qc
open Go.IntKind renaming i64->qi
open List renaming getElem?_eq_some_iff->qj,mem_map->qp,range->qt,mem_cons->qw,getElem?_append_left->qx,getElem_mem->qy,getElem?_eq_getElem->qz,all_eq_true->qH,not_mem_nil->qI,mem_singleton->qN,mem_cons_of_mem->qO,mem_cons_self->qU,getElem?_append_right->qV,length_append->qX,take_length->q8,map_append->zg,getElem?_set_self->zr,replicate->zt,length_cons->zu,drop_eq_getElem_cons->zG,take_of_length_le->zN,append_nil->zO,mem_range->yk,getElem?_eq_none->yF,drop_length->yH,take_succ_eq_append_getElem->jH,nil_append->vf,getElem_append_left->XG
open Option.some renaming injEq->qo
open Bool renaming and_eq_true->qr,eq_iff_iff->vL
open Nat renaming le_refl->qs,le_trans->zY,zero_add->yf
open Int renaming le_refl->jw,tmod_eq_emod_of_nonneg->u4
namespace Go.Proofs.YtpagnklaanbmbaaGreatDoor
open Go Go.Ev Go.Proofs Tryz
namespace PE
open P1 P2 Y1 Y2 Y3 Y9 Y10 Y14 YX YZ YA YB PA YC Q3 Q4 PB PC PD
section
variable {inn:Bool}{c c0:Ck}{es:List (ByteArray×Bool)}{s s':Scp}
theorem Vz{n:Nd}(h:n.op=1):exam c s inn n=yY c s n.name n.pos:=by
 rw[yy,Zk (by omega),h,show zQ 1=false from rfl,Bool.and_false,if_neg (by simp),if_pos rfl]
theorem qiB{n:Nd}{k:Option Kd}(h:exam c s true n = .ok k):exam c s inn n = .ok k:=by
 cases inn with
 |true=>exact h
 |false=>exact gT c (szN n) n s k (qs _) h
theorem W6{n:Nd}(i:WfN n)(h:n.op=1):n.kids=[]:=by
 have g:=i.shape;unfold shp at g;rw[if_pos (.inl h)]at g;simp only[qo]at g;exact List.map_eq_nil_iff.1 g.symm
theorem gY{L:Int}{n:Nd}(i:WfN n)(h:n.op=1)(j:tkn es n.name)(l:ownB n=true):jG es L n:=
 ⟨i,fun x g=>by
  rw[uU,W6 i h]at g;simp[zm]at g;subst g;exact⟨by omega,l,.inl j⟩⟩
theorem gZ{n:Nd}(g:ownB n=true)(h:uf n.op=true):yo n.name=true:=by
 unfold ownB at g;split at g
 .rename_i i;rw[<-i.1];exact h
 .cases g
theorem qiC{body:Bool}{env:IEnv}{n n':Nd}{z:Int}{st j:ISt}{P:Option Kd}(l:c.ts=c0.ts)(i:n.op=1)(I:WfN n)(R:tkn es n.name)(J:ownB n=true)(U:Rl c0 es st.last body s s' env)
  (e:wq env n st = .ok ((n',z),j)) (x:exam c s inn n = .ok P):Out c0 es s' inn n n' P st.last j.last:=by
 rw[Vz i,wu]at x;have g:=U.rel n.name R;unfold wq at e;cases hg:getK n.name env with
 |none =>
  rw[hg]at e g;cases e;cases o:zn n.name s with
  |some k =>
   rw[o]at g x;obtain⟨r,t,C⟩:=g;cases x;exact⟨⟨some r,by rw[Vz i,wu,t],fun _=>⟨_,_,rfl,rfl,C⟩⟩,gY I i R J,rfl,jw _⟩
  |none =>
   rw[o]at x;simp only at x;have T:zn n.name s'=none:=by
    cases T:zn n.name s' with
    |none=>rfl
    |some q =>
     have:=U.mean _ (Vy T);rw[l,this]at x;cases x
   refine⟨⟨P,by rw[Vz i,wu,T,<-l];exact x,fun _=>?_⟩,gY I i R J,rfl,jw _⟩;split at x
   .cases x
   .cases x;exact⟨_,_,rfl,rfl,Sub.refl _⟩
   .cases x
 |some iv =>
  obtain⟨a,p,to⟩:=iv;rw[hg]at e g;simp only at e;cases o:zn n.name s with
  |none=>rw[o]at g;exact g.elim
  |some k =>
   rw[o]at g x;cases x;cases a with
   |none =>
    cases e;obtain⟨⟨r,t,C⟩,e3⟩:=g;refine⟨⟨some r,by rw[Vz (n := .mk n.op to n.n n.kids n.pos) i,wu];show (match zn to s' with|some k=>_|none=>_)=_;rw[t],fun _=>⟨_,_,rfl,rfl,C⟩⟩,?_,rfl,jw _⟩;refine jG.node I rfl (fun k hk=>?_) (by omega) J (.inr ⟨e3,gZ J (by rw[i];rfl)⟩);rw[W6 I i]at hk;exact absurd hk qI
   |some a =>
    simp only at e;have g:ArgR c0 es st.last s' k a:=g;obtain⟨r,t,C⟩:=g.ex;split at e
    .cases e
     exact⟨⟨some r,qiB t,fun _=>⟨_,_,rfl,rfl,C⟩⟩,g.good,by rw[g.kd,i];rfl,jw _⟩
    .cases e
def OwnV(c0:Ck)(es:List (ByteArray×Bool))(L:Int)(s':Scp):Option Kd->Option IV->Prop
 |none,none=>True
 |some k,some ⟨some a,_,_⟩=>ArgR c0 es L s' k a
 |_,_=>False
theorem OwnV.mono{L L':Int}{g:Option Kd}{i:Option IV}(h:OwnV c0 es L s' g i)(j:L<=L'):OwnV c0 es L' s' g i:=by
 match g,i with
 |none,none=>exact h
 |none,some _=>exact h.elim
 |some k,none=>exact h.elim
 |some k,some ⟨some a,_,_⟩ =>
  have h:ArgR c0 es L s' k a:=h;exact(⟨h.ex,h.good.mono j,h.kd⟩:ArgR c0 es L' s' k a)
 |some k,some ⟨none,_,l⟩=>exact h.elim
theorem qiD{ns:Nat}{i:Int}{a:Kd}(h:okKd ns a)(g:a.ar=1)(p:wY i a=true):Sub a (kOf [i]):=⟨by rw[g];rfl,fun t j=>by
 obtain⟨l,rfl,o,_⟩:=h.ts t j;rw[g]at o
 match l,o with
 | [y],_ =>
  have:=qH.1 p _ j;simp[pad]at this;subst this;exact qN.2 rfl⟩
theorem g7{ns:Nat}{F:Nat}{body:Bool}{env:IEnv}{pos:Int}{E:Nd->ISt->XR (Nd×Int)}{R:Option Kd} :
  ∀{ks:List Nd} {ps:List (ByteArray×Int)} {own i:IEnv} {sc:Scp} {st g:ISt},
  (∀ k,k∈ks->∀ st n' z g R,StOk F st->Rl c0 es st.last body s s' env->E k st = .ok ((n',z),g)->exam c s true k = .ok R->Out c0 es s' true k n' R st.last g.last/\StOk F g) ->
  (∀ k,k∈ks->kd k.op=101)->(∀ k,k∈ks->∀ a,exam c s true k = .ok (some a)->okKd ns a)->StOk F st->Rl c0 es st.last body s s' env ->
  (∀ v,OwnV c0 es st.last s' (zn v sc) (getK v own))->ps.length=ks.length->ya c s pos ps ks = .ok R->y5 E ps ks own st = .ok (i,g) ->
  st.last<=g.last/\∀ v,OwnV c0 es g.last s' (zn v (ps.foldl (fun s p=>(p.1,kOf [p.2]) :: s) sc)) (getK v i)
 | [],[],own,i,sc,st,g,_,_,_,_,_,ho,_,_,e=>by
  cases e;exact⟨jw _,ho⟩
 |k :: ks,p :: ps,own,i,sc,st,g,hE,T,o,a0,hr,ho,r,x,e=>by
  simp only[ya]at x;simp only[y5]at e;cases t:exam c s true k with
  |error er=>rw[t]at x;cases x
  |ok ka =>
   cases ka with
   |none=>rw[t]at x;cases x
   |some a =>
    rw[t]at x;simp only at x;by_cases j:a.ar=1
    .rw [if_pos j]at x
     by_cases l:wY p.2 a=true
     .rw [if_pos l]at x
      split at e
      .cases e
      .rename_i k' m s1 h1
       obtain⟨out,C⟩:=hE k (qU ..) st k' m s1 _ a0 hr h1 t;obtain⟨a1,x1,x2⟩:=out.ex;have I:=T k (qU ..);obtain⟨q,q',y1,y2,y3⟩:=x2 I;cases y1;subst y2;have hs:=y3.trans (qiD (o k (qU ..) a t) j l);have J:ArgR c0 es s1.last s' (kOf [p.2]) k':=⟨⟨q',x1,hs⟩,out.good,by rw[out.kd];exact I⟩;have P:∀ v,OwnV c0 es s1.last s' (zn v ((p.1,kOf [p.2]) :: sc)) (getK v (setK p.1 ⟨some k',m,⟨#[]⟩⟩ own)):=fun v=>by
        rw[uV,uc];by_cases U:p.1=v
        .rw [if_pos U,if_pos U.symm]
         exact J
        .rw [if_neg U,if_neg (fun e=>U e.symm)]
         exact(ho v).mono out.le
       obtain⟨r1,r2⟩:=g7 (sc:=(p.1,kOf [p.2]) :: sc) (fun k T=>hE k (qO _ T)) (fun k h=>T k (qO _ h)) (fun k h=>o k (qO _ h)) C (hr.mono out.le) P (by simpa using r) x e;exact⟨by have:=out.le;omega,r2⟩
     .rw [if_neg l]at x;cases x
    .rw [if_neg j]at x;cases x
 | [],_ :: _,_,_,_,_,_,_,_,_,_,_,_,r,_,_=>by simp at r
 |_ :: _,[],_,_,_,_,_,_,_,_,_,_,_,r,_,_=>by simp at r
def W7(ts:TS)(es:List (ByteArray×Bool)):Prop:=∀(i:Nat) (j:i<ts.preds.length),(∃ g,exam (mkCk ts i) (yP ts.preds[i].params) false ts.preds[i].body = .ok g)/\30<=ts.preds[i].body.op/\WfN ts.preds[i].body/\Tk es ts.preds[i].body/\OwnT ts.preds[i].body
abbrev ckF(ts:TS):Ck:=mkCk ts ts.preds.length
def IHx(ts:TS)(es:List (ByteArray×Bool))(f:Nat):Prop:=∀(env:IEnv) (n:Nd) (i:Bool) (st:ISt) (l:Nd) (z:Int) (g:ISt) (s o:Scp) (j:Bool) (m:Nat) (p:Option Kd),
 m<=ts.preds.length->WfN n->Tk es n->OwnT n->ScOk ts.sorts.length s->StOk (qu ts es) st->qZ env->Rl (ckF ts) es st.last i s o env ->
 expI ts es f env n i st = .ok ((l,z),g)->exam (mkCk ts m) s j n = .ok p->Out (ckF ts) es o j n l p st.last g.last
theorem g8{n:Nd}(i:WfN n)(h:30<=n.op):kd n.op=102:=by
 have g:=i.shape;have:n.op<=51:=by
  by_cases j:n.op<=51
  .exact j
  .exfalso
   unfold shp at g;rw[if_neg (by omega),if_neg (by omega),if_neg (by omega),if_neg (by omega),if_neg (by omega),if_neg (by omega),if_neg (by omega),if_neg (by omega)]at g;cases g
 unfold kd;rw[if_neg (by omega),if_neg (by omega),if_pos ⟨h,this⟩]
theorem W8{n:Nd}(i:WfN n)(h:n.op=47):∀ k,k∈n.kids->kd k.op=101:=by
 have g:=i.shape;have e:shp n.op n.kids.length=some (zt (min n.kids.length 401) 101):=by
  unfold shp;rw[if_neg (by omega),if_neg (by omega),if_neg (by omega),if_neg (by omega),if_neg (by omega),if_neg (by omega),if_neg (by omega),if_pos h]
 rw[e]at g;simp only[qo]at g;intro k j;have:kd k.op∈n.kids.map fun k=>kd k.op:=qp.2 ⟨k,j,rfl⟩
 rw[<-g]at this;exact List.eq_of_mem_replicate this
theorem qiE(ts:TS)(h:okTS ts)(es:List (ByteArray×Bool))(hP:W7 ts es)(a3:Free ts es)(f:Nat)(ih:IHx ts es f)(env:IEnv)(n:Nd)(body:Bool)(st:ISt)(n':Nd)(z:Int)(l:ISt)(s s':Scp)(inn:Bool)(m:Nat)(ko:Option Kd)
  (hm:m<=ts.preds.length) (hw:WfN n) (ht:Tk es n) (ho:OwnT n) (hs:ScOk ts.sorts.length s) (r:StOk (qu ts es) st) (R:qZ env) (hr:Rl (ckF ts) es st.last body s s' env) (h47:n.op=47)
  (e:((match ts.preds.find? fun p=>decide (p.name=n.name) with
    |none=>Except.error (2,0)
    |some p=>w9 (y5 (fun k s=>expI ts es f env k body s) p.params n.kids [] st) fun own s'=>expI ts es f own p.body true s'):XR (Nd×Int)) = .ok ((n',z),l))
  (x:exam (mkCk ts m) s inn n = .ok ko):Out (ckF ts) es s' inn n n' ko st.last l.last:=by
 have hc:okCk (mkCk ts m):=uN h hm;rw[yy,if_neg (show ¬n.op=1 by omega),if_pos h47]at x;split at x
 .cases x
 rename_i I;split at x
 .cases g:zf (mkCk ts m) n.name with
  |none=>rw[g]at x;cases x
  |some i =>
   obtain⟨T,t⟩:=Qy hc g;have T:i<m:=T;have t:i<ts.preds.length:=t;rw[g]at x;simp only at x;have x:((match ts.preds[i]? with|none=>Except.error (45,n.pos)|some C=>if C.params.length=n.kids.length then ya (mkCk ts m) s n.pos C.params n.kids else .error (45,n.pos)):Res) = .ok ko:=x;rw[qz t]at x;simp only at x;have U:(ts.preds.find? fun p=>decide (p.name=n.name))=some ts.preds[i]:=by
    unfold zf at g;rw[List.findIdx?_eq_some_iff_getElem]at g;obtain⟨hi,a1,a2⟩:=g;rw[List.find?_eq_some_iff_getElem];refine⟨?_,i,t,rfl,fun j hj=>?_⟩
    .have:=a1
     simp only[List.getElem_take]at this;exact this
    .have:=a2 j hj
     simp only[List.getElem_take]at this;have h3:¬decide (ts.preds[j].name=n.name)=true:=this;simpa using h3
   rw[U]at e;simp only at e;obtain⟨⟨kb,hb⟩,a4,a5,ae,af⟩:=hP i t;have ag:=h.pl _ (qy t);generalize ah:ts.preds[i]=C at *
   by_cases J:C.params.length=n.kids.length
   .rw [if_pos J]at x
    obtain⟨own,s1,h1,e⟩:=Zh e;have a6:=W8 hw h47;have a7:∀ k,k∈n.kids->∀ st n' z l,StOk (qu ts es) st->expI ts es f env k body st = .ok ((n',z),l)->StOk (qu ts es) l:=fun k P st n' z l r e=>(j9 ts a3 f r R e).ok r
    obtain⟨g1,g2⟩:=g7 (c:=mkCk ts m) (c0:=ckF ts) (ns:=ts.sorts.length) (F:=qu ts es) (body:=body) (s:=s) (s':=s') (env:=env) (sc:=[]) (own:=[])
     (fun k P st n' z l ko r hr e x=>⟨ih env k body st n' z l s s' true m ko hm (hw.kid P) (ht.kid P) (ho.kid P) hs r R hr e x,a7 k P st n' z l r e⟩)
     a6 (fun k P a hx=>by
      obtain⟨q,e1,e2⟩:=uO hc (szN k) k s true _ (qs _) (hw.kid P) hs hx (a6 k P);cases e1;exact e2)
     r hr (fun v=>trivial) J x h1
    obtain⟨a8,ai⟩:=WQ (F:=qu ts es) (fun k n' z s s' _ hs hE=>j9 ts a3 f hs R hE) r .nil h1;have a9:=ai.ok r;have aj:Rl (ckF ts) es s1.last true (yP C.params) s' own:=⟨hr.mean,fun v hv=>by
     have:=g2 v;have:OwnV (ckF ts) es s1.last s' (zn v (yP C.params)) (getK v own):=this;generalize zn v (yP C.params)=lk at *
     generalize getK v own=iv at *
     match lk,iv with
     |none,none=>trivial
     |some k,some ⟨some a,_,_⟩=>exact this
     |none,some _=>exact this.elim
     |some k,none=>exact this.elim
     |some k,some ⟨none,_,_⟩=>exact this.elim,fun ak=>by cases ak⟩
    have aa:ScOk ts.sorts.length (yP C.params):=kU ⟨by omega,ag.2⟩;have al:exam (mkCk ts i) (yP C.params) inn C.body = .ok kb:=by
     cases ab:inn with
     |false=>exact hb
     |true =>
      rw[<-hb];refine gU _ (szN C.body) C.body _ _ _ (qs _) ?_;rw[ab]at I;have a0:zK (mkCk ts m) n.op n.name=false:=by simpa using I
      unfold zK at a0;rw[g,h47]at a0;have:=Vw ts i m T hm t;rw[ah]at this;rw[<-this];have ad:(zQ 47||(decide ((47:Int)=47)&&(tmsL ts m).getD i false))=false:=a0;simpa using (Bool.or_eq_false_iff.1 ad).2
    have out:=ih own C.body true s1 n' z l (yP C.params) s' inn i kb (by omega) a5 ae af aa a9 a8 aj e al;obtain⟨an,x1,_⟩:=out.ex;refine⟨⟨an,x1,fun P=>?_⟩,out.good,?_,by have:=out.le;omega⟩
    .rw [h47]at P;exact absurd P (by decide)
    .rw [out.kd,g8 a5 a4,h47];rfl
   .rw [if_neg J]at x;cases x
 .cases x
theorem na{n:Nd}(i:WfN n)(h:n.op=5\/n.op=11\/n.op=12\/n.op=13):(n.kids.map fun k=>kd k.op)=[101]:=by
 have g:=i.shape;unfold shp at g;rw[if_neg (by omega),if_pos (by omega)]at g;simp only[qo]at g;exact g.symm
theorem qiF{n:Nd}(i:WfN n)(h:n.op=6\/n.op=14\/n.op=7\/n.op=8\/n.op=32\/n.op=33\/n.op=9\/n.op=10):(n.kids.map fun k=>kd k.op)=[101,101]:=by
 have g:=i.shape;unfold shp at g;rw[if_neg (by omega),if_neg (by omega),if_pos (by omega)]at g;simp only[qo]at g;exact g.symm
theorem VA{n:Nd}(i:WfN n)(h:n.op=15\/n.op=45\/n.op=46):∃ a f,n.kids=[a,f]/\kd a.op=101:=by
 have g:=i.shape;unfold shp at g;rw[if_neg (by omega),if_neg (by omega),if_neg (by omega),if_pos (by omega)]at g;simp only[qo]at g
 match j:n.kids,g with
 | [a,f],g =>
  simp at g;exact⟨a,f,rfl,g.1.symm⟩
 | [],g=>simp at g
 | [_],g=>simp at g
 |_ :: _ :: _ :: _,g=>simp at g
theorem qiG(ts:TS)(h:okTS ts)(es:List (ByteArray×Bool))(a3:Free ts es)(f:Nat)(ih:IHx ts es f)(env:IEnv)(n:Nd)(body:Bool)(st:ISt)(R:ByteArray)(t:List Nd)(z:Int)(r:ISt)(s s':Scp)(inn:Bool)(m:Nat)(ko:Option Kd)
  (hm:m<=ts.preds.length) (P:WfN n) (ht:Tk es n) (ho:OwnT n) (hs:ScOk ts.sorts.length s) (p:StOk (qu ts es) st) (T:qZ env) (hr:Rl (ckF ts) es st.last body s s' env) (h47:n.op≠47) (h1:n.op≠1) (U:¬(n.op=15\/n.op=45\/n.op=46))
  (e:yR (fun env k s=>expI ts es f env k body s) (fun env nm s=>renI ts es env nm body s) (binB n.op) 0 env n.name n.kids st = .ok ((R,t,z),r))
  (x:exam (mkCk ts m) s inn n = .ok ko):Out (ckF ts) es s' inn n (.mk n.op R n.n t n.pos) ko st.last r.last:=by
 have hc:okCk (mkCk ts m):=uN h hm;have a4:binB n.op=false:=by
  unfold binB;simp only[not_or]at U;simp[U]
 rw[a4]at e;rw[yy,Zk h47,if_neg h1,if_neg h47,if_neg U]at x;split at x
 .cases x
 rename_i C;have j:=x;clear x;generalize hB:(inn||decide (n.op=12)||decide (n.op=13))=B at j;cases hl:qS (mkCk ts m) s B n.kids with
 |error er=>rw[hl]at j;cases j
 |ok l =>
  rw[hl]at j;simp only at j;obtain⟨rfl,a5,l',a6,I⟩:=gX (c:=mkCk ts m) (c0:=ckF ts) (F:=qu ts es) (body:=body) (s:=s) (s':=s') (env:=env)
   (fun k hk st n' z r ko p hr e x=>⟨ih env k body st n' z r s s' B m ko hm (P.kid hk) (ht.kid hk) (ho.kid hk) hs p T hr e x,(j9 ts a3 f p T e).ok p⟩) p hr e hl
  obtain⟨a0,J⟩:=I.spec;have a1:=J4 hl;obtain⟨a7,y1,y2⟩:=qh2 (ns:=ts.sorts.length) h.ns (op:=n.op) (num:=n.n) (pos:=n.pos) (l:=l) (l':=l') h1 (fun e=>U (.inl e)) (fun g=>by
    obtain⟨a,a',rfl,rfl,e3⟩:=I.one (na P g);refine⟨a,a',rfl,rfl,e3,?_⟩;have i:=na P g
    match a2:n.kids,i with
    | [k],i =>
     rw[a2]at a1;have hx:=a1.2 0 k (some a) rfl rfl;obtain⟨q,e1,e2⟩:=uO hc (szN k) k s B _ (qs _) (P.kid (by rw[a2];simp)) hs hx (by simpa using i);cases e1;exact e2
    | [],i=>simp at i
    |_ :: _ :: _,i=>simp at i)
   (fun g=>I.two (qiF P g)) j
  refine⟨⟨a7,?_,y2⟩,jG.node P a0 J h47 (ho n (vA n)) (.inl ⟨rfl,ht n (vA n)⟩),rfl,a5⟩;rw[yy];show (if (inn&&zK (ckF ts) n.op n.name)=true then _ else if n.op=1 then _ else if n.op=47 then _ else if n.op=15\/n.op=45\/n.op=46 then _ else match qS (ckF ts) s' (inn||decide (n.op=12)||decide (n.op=13)) t with | .error e=>_ | .ok l=>zL ts.sorts.length n.op n.n n.pos l)=_;rw[Zk h47,if_neg C,if_neg h1,if_neg h47,if_neg U,hB,a6];exact y1
theorem qiH(ts:TS)(h:okTS ts)(es:List (ByteArray×Bool))(hF:qu ts es<=200000)(I:Free ts es)(f:Nat)(ih:IHx ts es f)(env:IEnv)(n:Nd)(body:Bool)(st:ISt)(o:ByteArray)(a2:List Nd)(z:Int)(T:ISt)(s s':Scp)(inn:Bool)(m:Nat)(ko:Option Kd)
  (hm:m<=ts.preds.length) (hw:WfN n) (ht:Tk es n) (ho:OwnT n) (hs:ScOk ts.sorts.length s) (U:StOk (qu ts es) st) (ag:(qu ts es:Nat)<=pot (qu ts es) st) (J:qZ env) (hr:Rl (ckF ts) es st.last body s s' env) (hb:n.op=15\/n.op=45\/n.op=46)
  (e:yR (fun env k s=>expI ts es f env k body s) (fun env nm s=>renI ts es env nm body s) (binB n.op) 0 env n.name n.kids st = .ok ((o,a2,z),T))
  (x:exam (mkCk ts m) s inn n = .ok ko):Out (ckF ts) es s' inn n (.mk n.op o n.n a2 n.pos) ko st.last T.last:=by
 have hc:okCk (mkCk ts m):=uN h hm;have a8:binB n.op=true:=by
  unfold binB;rcases hb with h|h|h<;>simp[h]
 have h47:n.op≠47:=by omega
 have h1:n.op≠1:=by omega
 rw[a8]at e;rw[yy,Zk h47,if_neg h1,if_neg h47,if_pos hb]at x;split at x
 .cases x
 rename_i a0;obtain⟨a,g,P,a3⟩:=VA hw hb;have ma:a∈n.kids:=by rw[P];simp
 have mg:g∈n.kids:=by rw[P];simp
 rw[P]at e x;generalize hB:(inn||decide (n.op=15))=B at x;simp only[zM,qS]at x;simp only[yR,yf,true_and,Nat.zero_ne_one,if_false,if_true]at e;cases r:exam (mkCk ts m) s B a with
 |error er=>rw[r]at x;cases x
 |ok ka =>
  cases ka with
  |none=>rw[r]at x;cases x
  |some k =>
   rw[r]at x;simp only at x;by_cases R:k.ar=1
   .rw [if_pos R]at x
    split at e
    .cases e
    .rename_i a' m1 s1 e1
     have out:=ih env a body st a' m1 s1 s s' B m _ hm (hw.kid ma) (ht.kid ma) (ho.kid ma) hs U J hr e1 r;have a4:=j9 ts I f U J e1;have i:=a4.ok U;obtain⟨ai,x1,x2⟩:=out.ex;obtain⟨q,k',y1,y2,y3⟩:=x2 a3;cases y1;subst y2;obtain⟨q,y4,a9⟩:=uO hc (szN a) a s B _ (qs _) (hw.kid ma) hs r a3;cases y4;have l:=Vm I (env:=env) (nm:=n.name) (body:=body) i.l0;have a5:=Vl (ts:=ts) (es:=es) (nm:=n.name) (body:=body) (s:=s1) J;have aa:=i.last;obtain⟨w1,w2,C⟩:=Rl.bind (c0:=ckF ts) (st:=s1) (nm:=n.name) (k:=k) (k':=k') I J.nd (hr.mono out.le) i.l0 (by show s1.last+(qu ts es:Nat)<_;omega) (ht n (vA n)) y3;have w1:Rl (ckF ts) es (renI ts es env n.name body s1).2.last body ((n.name,k) :: s) (((renI ts es env n.name body s1).1.2,k') :: s') (renI ts es env n.name body s1).1.1:=w1;have w2:s1.last<=(renI ts es env n.name body s1).2.last:=w2;have C:tkn es (renI ts es env n.name body s1).1.2\/vLe es (renI ts es env n.name body s1).2.last (renI ts es env n.name body s1).1.2:=C;have w4:(renI ts es env n.name body s1).1.2=n.name\/vLe es (renI ts es env n.name body s1).2.last (renI ts es env n.name body s1).1.2:=by
      rcases C with C|C
      .left
       unfold renI at C⊢;split
       .rename_i ab
        rw[if_pos ab]at C;exfalso;have ad:=I s1.last i.l0;have t:=W5 ad;simp only[y0,qr,decide_eq_true_eq]at t;exact t.1 C
       .rfl
      .exact .inr C
     generalize ah:renI ts es env n.name body s1=ae at *
     obtain⟨⟨a6,aj⟩,s2⟩:=ae;simp only at l a5 w1 w2 C w4 e;have a7:StOk (qu ts es) s2:=⟨l.1,by rw[l.2.2];exact i.c0,by rw[l.2.2];exact i.c1,by
      have:=a4.p;have h3:=l.2.1;have h4:=l.2.2;unfold pot at *
      rw[h4];omega⟩
     split at e
     .cases e
     .rename_i ak al m3 s3 e3
      split at e3
      .cases e3
      .rename_i g' m2 s4 e2
       cases e3;cases e;cases a1:exam (mkCk ts m) ((n.name,k) :: s) B g with
       |error er=>rw[a1]at x;cases x
       |ok kg =>
        rw[a1]at x;cases x;have af:ScOk ts.sorts.length ((n.name,k) :: s):=fun v hv=>by
         rcases qw.1 hv with rfl|hv
         .exact ⟨a9,R⟩
         .exact hs v hv
        have j:=ih a6 g body s2 g' m2 T ((n.name,k) :: s) ((o,k') :: s') B m _ hm (hw.kid mg) (ht.kid mg) (ho.kid mg) af a7 a5 w1 e2 a1;obtain⟨an,z1,_⟩:=j.ex;refine⟨⟨some k',?_,fun _=>⟨k,k',rfl,rfl,y3⟩⟩,?_,rfl,by have:=out.le;have:=j.le;omega⟩
        .rw [yy]
         show (if (inn&&zK (ckF ts) n.op o)=true then _ else if n.op=1 then _ else if n.op=47 then _ else if n.op=15\/n.op=45\/n.op=46 then zM (ckF ts) s' (inn||decide (n.op=15)) o n.pos [a',g'] else _)=_;rw[Zk h47,if_neg a0,if_neg h1,if_neg h47,if_pos hb,hB];simp only[zM,qS];rw[x1];simp only;rw[if_pos (by rw[y3.1];exact R),z1]
        .refine jG.node hw (by rw[P];simp[out.kd,j.kd]) (fun y hy=>?_) h47 (ho n (vA n)) ?_
         .rcases qw.1 hy with rfl|hy
          .exact out.good.mono (by have:=j.le;omega)
          .rw [qN]at hy;subst hy;exact j.good
         .rcases w4 with w4|w4
          .exact .inl ⟨w4,by rw[w4];exact ht n (vA n)⟩
          .exact .inr ⟨w4.mono j.le,gZ (ho n (vA n)) (by unfold uf;rcases hb with h|h|h<;>simp[h])⟩
   .rw [if_neg R]at x;cases x
theorem ne(ts:TS)(h:okTS ts)(es:List (ByteArray×Bool))(hP:W7 ts es)(hF:qu ts es<=200000)(i:Free ts es):∀ f:Nat,IHx ts es f
 | 0=>fun env n body st n' z j s s' inn m I _ _ _ _ _ _ _ _ e _=>by cases e
 |f+1=>fun env n body st n' z j s s' inn m I T J P R U o r hr e x=>by
  have ih:=ne ts h es hP hF i f;simp only[expI]at e;split at e
  .rename_i hc
   have hp:=Qa o (n:=1) (by omega) hc;have g:=hp.ok o;have l:Rl (ckF ts) es (payS 1 st).last body s s' env:=hr;have a0:st.last=(payS 1 st).last:=rfl;rw[a0];split at e
   .rename_i h1
    exact qiC (c:=mkCk ts m) (c0:=ckF ts) rfl h1 J (P n (vA n)) (R n (vA n)) l e x
   .rename_i h1
    split at e
    .rename_i h47
     exact qiE ts h es hP i f ih env n body (payS 1 st) n' z j s s' inn m I T J P R U g r l h47 e x
    .rename_i h47
     obtain⟨⟨t,C,z'⟩,s1,e1,e2⟩:=Zh e;cases e2;by_cases hb:n.op=15\/n.op=45\/n.op=46
     .refine qiH ts h es hF i f ih env n body (payS 1 st) t C z' j s s' inn m I T J P R U g ?_ r l hb e1 x
      rw[Zi];have:=o.p;omega
     .exact qiG ts h es i f ih env n body (payS 1 st) t C z' j s s' inn m I T J P R U g r l h47 h1 hb e1 x
  .cases e
end
end PE
namespace ED
end ED
namespace EG
end EG
namespace PG
open Y1 Y2 P1 P2 Y9 YZ
section
variable {nm:ByteArray}
theorem qiI{ns:Nat}{op n pos:Int}{l:List (Option Kd)}{e:Dg}(h:zL ns op n pos l = .error e):40<=e.1:=by
 unfold zL at h
 repeat' split at h
 all_goals first
  | (cases h;done)
  | (cases h;simp)
theorem qiJ{c:Ck}{s:Scp}{pos:Int}{e:Dg}(h:yY c s nm pos = .error e):40<=e.1:=by
 unfold yY at h
 repeat' split at h
 all_goals first
  | (cases h;done)
  | (cases h;simp)
section
variable {c:Ck}
theorem W9{inn:Bool}:∀{ks:List Nd} {s:Scp} {e:Dg},(∀ k,k∈ks->∀ s e,exam c s inn k = .error e->40<=e.1)->qS c s inn ks = .error e->40<=e.1
 | [],s,e,_,h=>by simp only[qS]at h;cases h
 |k :: ks,s,e,i,h=>by
  simp only[qS]at h;split at h
  .rename_i j g
   cases h;exact i k (qU ..) s _ g
  .split at h
   .rename_i j g
    cases h;exact W9 (fun k l=>i k (qO _ l)) g
   .cases h
theorem ng{pos:Int}:∀{ks:List Nd} {ps:List (ByteArray×Int)} {s:Scp} {e:Dg},(∀ k,k∈ks->∀ s e,exam c s true k = .error e->40<=e.1)->ya c s pos ps ks = .error e->40<=e.1
 | [],ps,s,e,_,h=>by cases ps<;>(simp only[ya]at h;cases h)
 |k :: ks,[],s,e,_,h=>by simp only[ya]at h;cases h
 |k :: ks,p :: ps,s,e,g,h=>by
  simp only[ya]at h;split at h
  .rename_i l i
   cases h;exact g k (qU ..) s _ i
  .cases h;simp
  .split at h
   .split at h
    .exact ng (fun k j=>g k (qO _ j)) h
    .cases h;simp
   .cases h;simp
theorem qiK{inn:Bool}{pos:Int}:∀{ks:List Nd} {s:Scp} {e:Dg},(∀ k,k∈ks->∀ s e,exam c s inn k = .error e->40<=e.1)->zM c s inn nm pos ks = .error e->40<=e.1
 | [],s,e,_,h=>by simp only[zM]at h;cases h
 |k :: ks,s,e,i,h=>by
  simp only[zM]at h;split at h
  .rename_i j g
   cases h;exact i k (qU ..) s _ g
  .cases h;simp
  .split at h
   .split at h
    .rename_i j g
     cases h;exact W9 (fun k l=>i k (qO _ l)) g
    .cases h
   .cases h;simp
theorem Ys(c:Ck):∀(m:Nat) (n:Nd) (s:Scp) (inn:Bool) (e:Dg),szN n<=m->exam c s inn n = .error e->40<=e.1
 | 0,n,_,_,_,j,_=>by obtain⟨op,nm,i,ks,p⟩:=n;simp[szN]at j
 |m+1,n,s,inn,e,j,h=>by
  have g:∀ inn k,k∈n.kids->∀ s e,exam c s inn k = .error e->40<=e.1:=fun inn k l s e h=>Ys c m k s inn e (by have:=yx l;omega) h
  rw[yy]at h;split at h
  .cases h;simp
  split at h
  .exact qiJ h
  split at h
  .split at h
   .split at h
    .cases h;simp
    .split at h
     .cases h;simp
     .split at h
      .exact ng (g true) h
      .cases h;simp
   .cases h;simp
  split at h
  .exact qiK (g _) h
  .split at h
   .rename_i r o
    cases h;exact W9 (g _) o
   .exact qiI h
end
end
theorem nh{ks:List Nd}{k:Nd}(h:k∈ks):depN k<=yc ks:=by
 induction ks with
 |nil=>simp at h
 |cons a l g =>
  simp only[yc];rcases qw.1 h with rfl|h
  .omega
  .have:=g h;omega
theorem nj(n:Nd):1<=depN n:=by
 rw[Zg];have:∀ ks:List Nd,0<=yc ks:=by
  intro ks;induction ks with
  |nil=>simp[yc]
  |cons a l g=>simp only[yc];omega
 have:=this n.kids;omega
end PG
namespace PF
open P1 P2 Y1 Y2 Y9 Y16 YZ YB YC YE YG Q2 Q4 Q6 PC PE PG
mutual
theorem Xa:∀(n:Nd) (left:Int),cntT n<=left->cntN n left=cntT n
 | .mk op t i ks p,left,h=>by
  simp only[cntT,cntN]at h⊢;exact nn ks left 1 h
theorem nn:∀(ks:List Nd) (left sum:Int),sum+yr ks<=left->yh ks left sum=sum+yr ks
 | [],left,sum,h=>by simp only[yr,yh];omega
 |k :: ks,left,sum,h=>by
  simp only[yr,yh]at h⊢;have g:=WT k;have i:=Vo ks;rw[if_pos (by omega),Xa k (left-sum) (by omega),nn ks left _ (by omega)];omega
end
mutual
theorem nq:∀(n:Nd) (left:Int),cntN n left<=left->cntT n<=left
 | .mk op t i ks p,left,h=>by
  simp only[cntT,cntN]at h⊢;exact nr ks left 1 h
theorem nr:∀(ks:List Nd) (left sum:Int),yh ks left sum<=left->sum+yr ks<=left
 | [],left,sum,h=>by simp only[yr,yh]at h⊢;omega
 |k :: ks,left,sum,h=>by
  simp only[yr,yh]at h⊢;split at h
  .have i:=(Wh ks left (sum+cntN k (left-sum))).1
   have g:cntN k (left-sum)<=left-sum:=by omega
   have j:=Xa k (left-sum) (nq k _ g);have l:=nr ks left _ h;omega
  .omega
end
section
variable {c:Ck}
theorem qiL{ks:List Nd}{d:Int}(j:0<=d)(h:∀ k,k∈ks->depN k<=d):yc ks<=d:=by
 induction ks with
 |nil=>simp only[yc];omega
 |cons a l g =>
  simp only[yc];have o:=h a (qU ..);have p:=g fun k i=>h k (qO _ i)
  omega
theorem qiM{ks:List Nd}{g:Int}(h:∀ k,k∈ks->forN k g=true):vu ks g=true:=by
 induction ks with
 |nil=>rfl
 |cons a l i =>
  simp only[vu,qr];exact⟨h a (qU ..),i fun k j=>h k (qO _ j)⟩
theorem nt:∀(m:Nat) (n:Nd) (g:Int),szN n<=m->WfN n->OwnT n->depN n<=g->forN n g=true
 | 0,n,_,l,_,_,_=>by obtain⟨op,nm,i,ks,p⟩:=n;simp[szN]at l
 |m+1,n,g,l,o,r,t=>by
  have C:=nj n;rw[J9,if_neg (by omega),r n (vA n),Bool.true_and,qr];refine⟨?_,qiM fun k j=>nt m k (g-1) (by have:=yx j;omega) (o.kid j) (r.kid j) ?_⟩
  .unfold fitB
   rw[decide_eq_true_eq];exact o.shape
  .have:=nh j
   rw[Zg]at t;omega
theorem nu:∀(m:Nat) (n:Nd) (l:Int),szN n<=m->forN n l=true->OwnT n/\depN n<=l
 | 0,n,_,o,_=>by obtain⟨op,nm,i,ks,p⟩:=n;simp[szN]at o
 |m+1,n,l,o,h=>by
  rw[J9]at h;split at h
  .cases h
  .rename_i I
   simp only[qr]at h;obtain⟨t,J,C⟩:=h;have r:=fun k (g:k∈n.kids)=>nu m k (l-1) (by have:=yx g;omega) (pa C k g)
   refine⟨fun x j=>?_,?_⟩
   .rw [uU]at j
    rcases qw.1 j with rfl|j
    .exact t
    .obtain ⟨k,g,j⟩:=Vx j
     exact(r k g).1 x j
   .rw [Zg]
    have:=qiL (ks:=n.kids) (d:=l-1) (by omega) fun k g=>(r k g).2
    omega
theorem ul{n:Nd}:zb n=true↔WfN n/\OwnT n/\cntT n<=400/\depN n<=24:=by
 constructor
 .intro h
  have i:=ug h;simp only[zb,qr,decide_eq_true_eq]at h;obtain⟨a,b⟩:=nu (szN n) n 24 (qs _) h.2;exact⟨i,a,nq n 400 h.1,b⟩
 .rintro ⟨j,l,g,o⟩
  simp only[zb,qr,decide_eq_true_eq];exact⟨by rw[Xa n 400 g];exact g,nt (szN n) n 24 (qs _) j l o⟩
theorem nv{nm:ByteArray}{i:Nat}(h:zf c nm=some i)(g:i<c.ts.preds.length):(c.ts.preds.find? fun p=>decide (p.name=nm))=some c.ts.preds[i]:=by
 unfold zf at h;rw[List.findIdx?_eq_some_iff_getElem]at h;obtain⟨t,l,o⟩:=h;rw[List.find?_eq_some_iff_getElem];refine⟨?_,i,g,rfl,fun j r=>?_⟩
 .have:=l
  simp only[List.getElem_take]at this;exact this
 .have:=o j r
  simp only[List.getElem_take]at this;simpa using this
theorem ny{s:Scp}{pos:Int}:∀{ks:List Nd} {ps:List (ByteArray×Int)} {l:Option Kd},ps.length=ks.length->ya c s pos ps ks = .ok l->∀ k,k∈ks->∃ a,exam c s true k = .ok a
 | [],_,_,_,_,k,g=>absurd g qI
 |k :: ks,[],_,i,_,_,_=>by simp at i
 |k :: ks,p :: ps,l,i,h,x,j=>by
  simp only[ya]at h;split at h
  .cases h
  .cases h
  .rename_i a g
   split at h
   .split at h
    .rcases qw.1 j with rfl|j
     .exact ⟨_,g⟩
     .exact ny (by simpa using i) h x j
    .cases h
   .cases h
theorem Xb{s:Scp}{inn:Bool}:∀{ks:List Nd} {l:List (Option Kd)},qS c s inn ks = .ok l->∀ k,k∈ks->∃ a,exam c s inn k = .ok a
 | [],_,_,k,g=>absurd g qI
 |k :: ks,l,h,x,i=>by
  simp only[qS]at h;split at h
  .cases h
  .rename_i a g
   split at h
   .cases h
   .rename_i o j
    rcases qw.1 i with rfl|i
    .exact ⟨_,g⟩
    .exact Xb j x i
theorem Xc(hc:okCk c):∀(m:Nat) (n:Nd) (s:Scp) (inn:Bool) (o:Option Kd),szN n<=m->exam c s inn n = .ok o->WfN n->jt c.ts n
 | 0,n,_,_,_,hm,_,_=>by obtain⟨op,nm,i,ks,p⟩:=n;simp[szN]at hm
 |m+1,n,s,inn,o,hm,h,hw=>fun x j ho=>by
  have ih:∀ k,k∈n.kids->∀ s inn o,exam c s inn k = .ok o->jt c.ts k:=fun k t s inn o h=>Xc hc m k s inn o (by have:=yx t;omega) h (hw.kid t)
  rw[yy]at h;rw[uU]at j;split at h
  .cases h
  by_cases h1:n.op=1
  .rw [W6 hw h1]at j
   rcases qw.1 j with rfl|j
   .omega
   .simp [zm]at j
  rw[if_neg h1]at h;have C:∀(s:Nd->Scp) (inn:Nd->Bool),(∀ k,k∈n.kids->∃ o,exam c (s k) (inn k) k = .ok o)->x∈zm n.kids->∃ p,(c.ts.preds.find? fun p=>decide (p.name=x.name))=some p/\p.params.length=x.kids.length:=fun s inn t j=>by
   obtain⟨k,P,j⟩:=Vx j;obtain⟨o,a0⟩:=t k P;exact ih k P _ _ _ a0 x j ho
  by_cases h47:n.op=47
  .rw [if_pos h47]at h
   split at h
   .split at h
    .cases h
    .rename_i i I
     obtain⟨_,R⟩:=Qy hc I;rw[qz R]at h;simp only at h;split at h
     .rename_i J
      rcases qw.1 j with rfl|j
      .exact ⟨_,nv I R,J⟩
      .exact C (fun _=>s) (fun _=>true) (ny J h) j
     .cases h
   .cases h
  rw[if_neg h47]at h;have j:x∈zm n.kids:=by
   rcases qw.1 j with rfl|j
   .exact absurd ho h47
   .exact j
  by_cases T:n.op=15\/n.op=45\/n.op=46
  .rw [if_pos T]at h
   obtain⟨a,g,r,_⟩:=VA hw T;rw[r]at h;simp only[zM]at h;split at h
   .cases h
   .cases h
   .rename_i k t
    split at h
    .split at h
     .cases h
     .rename_i l hl
      obtain⟨y,U,j⟩:=Vx j;rw[r]at U;rcases qw.1 U with rfl|U
      .exact ih y (by rw[r];simp) _ _ _ t x j ho
      .rw [qN]at U
       subst U;obtain⟨b,T⟩:=Xb hl y (by simp);exact ih y (by rw[r];simp) _ _ _ T x j ho
    .cases h
  .rw [if_neg T]at h
   split at h
   .cases h
   .rename_i l hl
    exact C (fun _=>s) (fun _=>_) (fun k t=>Xb hl k t) j
theorem VB{env:List (ByteArray×Int)}{n:Nd}(h:(jP c env n).1=0):30<=n.op/\∃ g,exam c (yP env) false n = .ok g:=by
 unfold jP at h;split at h
 .rename_i i
  refine⟨i,?_⟩;cases j:exam c (yP env) false n with
  |ok g=>exact⟨g,rfl⟩
  |error e =>
   rw[j]at h;have:=PG.Ys c (szN n) n _ _ e (qs _) j;have h:e.1=0:=h;omega
 .have h:(43:Int)=0:=h
  omega
theorem nz{ts:TS}(h:yZ ts=[])(i:Nat)(g:i<ts.preds.length):(jP (mkCk ts i) ts.preds[i].params ts.preds[i].body).1=0:=by
 unfold yZ at h;simp only[List.append_eq_nil_iff]at h;have:=h.2.2.1;rw[List.flatMap_eq_nil_iff]at this;have:=this i (yk.2 g);unfold jR at this;rw[qz g]at this;simp only[List.append_eq_nil_iff]at this;have:=this.2.2;unfold rp at this;split at this
 .assumption
 .cases this
theorem Xd(l:List Nd):∀(es:List (ByteArray×Bool)) (nm:ByteArray),(getK nm es=some true\/∃ x,x∈l/\x.name=nm)->getK nm (putN es l)=some true:=by
 induction l with
 |nil =>
  intro es nm h;rcases h with h|⟨x,g,_⟩
  .exact h
  .exact absurd g qI
 |cons a l j =>
  intro es nm h;refine j _ nm ?_;rw[uc];by_cases e:nm=a.name
  .rw [if_pos e];exact .inl rfl
  .rw [if_neg e]
   rcases h with h|⟨x,g,i⟩
   .exact .inl h
   .rcases qw.1 g with rfl|g
    .exact absurd i.symm e
    .exact .inr ⟨x,g,i⟩
theorem qiN(ts:TS)(n:Nd):Tk (yS ts n) n/\∀ p,p∈ts.preds->Tk (yS ts n) p.body:=by
 have j:∀(l:List Pd) (T:List (ByteArray×Bool)) (t:ByteArray),(getK t T=some true\/∃ p,p∈l/\∃ x,x∈preN p.body/\x.name=t)->getK t (l.foldl (fun T p=>putN T (preN p.body)) T)=some true:=by
  intro l;induction l with
  |nil =>
   intro T t h;rcases h with h|⟨p,g,_⟩
   .exact h
   .exact absurd g qI
  |cons a l o =>
   intro T t h;refine o _ t ?_;rcases h with h|⟨p,g,i⟩
   .exact .inl (Xd _ _ _ (.inl h))
   .rcases qw.1 g with rfl|g
    .exact .inl (Xd _ _ _ (.inr i))
    .exact .inr ⟨p,g,i⟩
 refine⟨fun x i=>j _ _ _ (.inl (Xd _ _ _ (.inr ⟨x,i,rfl⟩))),fun p g x i=>j _ _ _ (.inr ⟨p,g,x,i,rfl⟩)⟩
theorem nA(l:List Nd):∀ es:List (ByteArray×Bool),(putN es l).length<=es.length+l.length:=by
 have i:∀(es:List (ByteArray×Bool)) (k:ByteArray),(setK k true es).length<=es.length+1:=by
  intro es k;induction es with
  |nil=>simp[setK]
  |cons a es g=>unfold setK;split<;>simp<;>omega
 induction l with
 |nil=>intro es;simp[putN]
 |cons a l g =>
  intro es;have:=g (setK a.name true es);have:=i es a.name;show (putN (setK a.name true es) l).length<=_;simp only[zu];omega
mutual
theorem Yt:∀ n:Nd,((preN n).length:Int)=cntT n
 | .mk op nm i ks p=>by simp only[preN,cntT,zu];have:=nB ks;omega
theorem nB:∀ ks:List Nd,((zm ks).length:Int)=yr ks
 | []=>rfl
 |k :: ks=>by simp only[zm,yr,qX];have:=Yt k;have:=nB ks;omega
end
end
theorem nD{ts:TS}(h:okTS ts)(j:∀ p,p∈ts.preds->zb p.body=true){n:Nd}(o:zb n=true):qu ts (yS ts n)<=200000:=by
 have r:∀(l:List Pd) (T:List (ByteArray×Bool)),(∀ p,p∈l->zb p.body=true)->(l.foldl (fun T p=>putN T (preN p.body)) T).length<=T.length+400*l.length:=by
  intro l;induction l with
  |nil=>intro T _;simp
  |cons a l t =>
   intro T g;have C:=t (putN T (preN a.body)) fun p I=>g p (qO _ I)
   have i:=nA (preN a.body) T;have J:=Yt a.body;have P:=(ul.1 (g a (qU ..))).2.2.1;rw[List.foldl_cons];simp only[zu];omega
 have C:=r ts.preds (putN [] (preN n)) j;have i:=nA (preN n) [];have J:=Yt n;have P:=(ul.1 o).2.2.1;have:=h.np;have:=h.nf;have:=h.ns;unfold qu yS;simp only[List.length_nil]at i;omega
theorem qiO{ts:TS}(h:okTS ts)(U:∀ p,p∈ts.preds->zb p.body=true)(hk:yZ ts=[]){n x:Nd}(hn:zb n=true)(hc:(yg ts [] n).1=0)(r:anyN (fun n=>decide (n.op=47)) n=true)(o:yB ts n=(x,0)) :
  zb x=true/\anyN (fun n=>decide (n.op=47)) x=false/\yg ts [] x=(0,0)/\yB ts x=(x,0):=by
 have hw:=ug hn;have a0:=(ul.1 hn).2.1;have hF:=nD h U hn;obtain⟨t1,t2⟩:=qiN ts n;generalize a1:yS ts n=T at *
 have hP:W7 ts T:=fun i o=>by
  have hm:=qy o;obtain⟨a,b⟩:=VB (nz hk i o);exact⟨b,a,ug (U _ hm),t2 _ hm,(ul.1 (U _ hm)).2.1⟩
 unfold yB at o;rw[if_neg (by simpa using hc),if_neg (by simp[r]),a1]at o;unfold outI at o;split at o
 .rename_i d hd
  exfalso;have h1:=qg6 hd;have h2:d.1=0:=congrArg Prod.snd o;omega
 .rename_i l j
  have e:l=x:=congrArg Prod.fst o;subst e;split at j
  .cases j
  .rename_i n2 z a2 he
   split at j
   .rename_i hz
    cases j;obtain⟨a3,ko,C⟩:=VB (c:=mkCk ts ts.preds.length) (env:=[]) hc;have a4:StOk (qu ts T) ⟨0,0⟩:=⟨by simp,by simp,by simp,by simp[pot]⟩;have out:=ne ts h T hP hF (gL ts T) 4001 [] n false ⟨0,0⟩ l z a2 [] [] false ts.preds.length ko (qs _) hw t1 a0 (fun v I=>absurd I qI) a4 .nil
     ⟨fun v I=>absurd I qI,fun v _=>trivial,fun _ v iv e=>by cases e⟩ he C
    obtain⟨a6,a7⟩:=Yo ts (fun p hp=>ug (U p hp)) T 4001 (env:=[]) (fun e he=>absurd he qI) hw he;have I:zb l=true:=ul.2 ⟨out.good.wf,fun x C=>(out.good.all x C).own,by omega,hz.2⟩;have J:anyN (fun n=>decide (n.op=47)) l=false:=by
     rw[WV _ (szN l) l (qs _),List.any_eq_false];intro x C;have:=(out.good.all x C).nc;simpa using this
    have g:kd l.op=102:=by rw[out.kd];exact g8 hw a3
    have P:30<=l.op:=by
     unfold kd at g;split at g
     .omega
     .split at g
      .omega
      .split at g<;>omega
    obtain⟨a5,t,_⟩:=out.ex;have R:yg ts [] l=(0,0):=by
     unfold yg jP;rw[if_pos P];have t:exam (mkCk ts ts.preds.length) (yP []) false l = .ok a5:=t;rw[t];rfl
    refine⟨I,J,R,?_⟩;unfold yB;rw[R,if_neg (by simp),if_pos J]
   .cases j
end PF
namespace EH
end EH
namespace FJ
end FJ
namespace IA
end IA
namespace QC
end QC
namespace QD
open YF P1 Y1 Y2
section
variable {nm:ByteArray}{x:ByteArray×Bool}{c:List AV}{i:Nat}
def atF(a:Int):List Int->Int
 | []=>a
 |x :: l=>atF (qi.wrap (qi.wrap (4*a)+x)) l
def zs:List AV:=zt 64 (aB false)
def oneC(l:List Int):List AV:=aI l.length :: (if 0<=atF 0 l/\atF 0 l<64 then zs.set (atF 0 l).toNat (aB true) else zs)
structure SetC (c:List AV):Prop where
 len:c.length=65
 sc:∀ x,x∈c->x.one=true/\HF x
theorem SetC.one(h:SetC c):∀ x,x∈c->x.one=true:=fun x g=>(h.sc x g).1
theorem SetC.hf(h:SetC c):HF (.agg c):=HF.agg fun x g=>(h.sc x g).2
theorem SetC.take(h:SetC c):List.take 65 c=c:=zN (by rw[h.len];exact qs _)
theorem SetC.put{d:List AV}(h:SetC c)(g:SetC d):putCells c 0 d=d:=by
 rw[yu _ _ _ (by rw[h.len,g.len];exact qs _)];simp[h.len,g.len,List.drop_of_length_le]
theorem SetC.zero:SetC (aI 0 :: zs):=⟨rfl,fun x g=>by
 rcases qw.1 g with rfl|g
 .exact ⟨rfl,HF.sc _⟩
 .rw [List.eq_of_mem_replicate g];exact⟨rfl,HF.sc _⟩⟩
theorem SetC.oneC(l:List Int):SetC (oneC l):=by
 have i:∀ x:AV,x∈zs->x.one=true/\HF x:=fun x g=>by rw[List.eq_of_mem_replicate g];exact⟨rfl,HF.sc _⟩
 unfold QD.oneC;split
 .refine ⟨by simp[zs],fun x g=>?_⟩
  rcases qw.1 g with rfl|g
  .exact ⟨rfl,HF.sc _⟩
  .rcases List.mem_or_eq_of_mem_set g with h|rfl
   .exact i x h
   .exact ⟨rfl,HF.sc _⟩
 .refine ⟨by simp[zs],fun x g=>?_⟩
  rcases qw.1 g with rfl|g
  .exact ⟨rfl,HF.sc _⟩
  .exact i x g
theorem oneU(l:List Int)(hl:l.length<=140737488351232):qe qc 261 [lI l] (.agg (oneC l)):=by
 have i:=SetC.oneC l;generalize C:oneC l=R at *
 unfold oneC at C;refine qSV call261 func261 rfl ?_;simp[go_sem];have g:zs.length=64:=rfl;refine qk.upK l.length (fun k st=>∃ a:Int,st.tm 0=lI l/\st.tm 2 = .ptr 0 0/\st.tm 3 = .ptr 1 0/\st.tm 4=aI a/\st.tm 5=aI k/\st.mu=[.arr (aI 0 :: zs),.arr (aI l.length :: zs)]/\atF a (l.drop k)=atF 0 l) ?_ ?_
 .exact ⟨0,by simp[go_sem],by simp[go_sem],by simp[go_sem],by simp[go_sem],by simp[go_sem],by simp[go_sem,zs,zt],rfl⟩
 rintro k st hk ⟨a,I,r,U,e4,e5,hm,hI⟩;by_cases J:k<l.length
 .have w1:qi.wrap ((k:Int)+1)=(k:Int)+1:=qg (by omega) (by omega)
  rw[zG J]at hI;simp[go_sem,I,e4,e5,hm,J,w1];exact Keep.mk' ⟨_,by simp[go_sem,I],by simp[go_sem,r],by simp[go_sem,U],by simp[go_sem],by simp[go_sem],by simp[go_sem],hI⟩
 have a0:k=l.length:=by omega
 subst a0;rw[yH]at hI;have ha:a=atF 0 l:=hI;rw[<-ha]at C;have z1:∀ x:AV,(x :: zs).length=65:=fun x=>rfl
 have o:∀ x:AV,x∈zs->x.one=true:=fun x hx=>by rw[List.eq_of_mem_replicate hx];rfl
 have tk:List.take 64 zs=zs:=rfl;have pc:∀(x y:AV) (Z:List AV),Z.length=64->putCells (x :: zs) 0 (y :: Z)=y :: Z:=fun x y Z hZ=>by
  rw[yu _ _ _ (by simp[hZ,g])];simp[hZ,g,List.drop_of_length_le]
 by_cases h0:0<=a
 .obtain ⟨j,rfl⟩:∃ j:Nat,a=j:=⟨a.toNat,by omega⟩
  by_cases t:(j:Int)<64
  .have hj:1+j<=64:=by omega
   have a1:∀ x:AV,(x :: zs).set (1+j) (AV.sc (Value.bool true))=x :: zs.set j (AV.sc (Value.bool true)):=fun x=>by rw[Nat.add_comm];rfl
   have sl:(zs.set j (AV.sc (Value.bool true))).length=64:=by simp[g]
   have P:∀ x:AV,x∈zs.set j (AV.sc (Value.bool true))->x.one=true:=fun x hx=>by
    rcases List.mem_or_eq_of_mem_set hx with h|rfl
    .exact o x h
    .rfl
   have T:List.take 64 (zs.set j (AV.sc (Value.bool true)))=zs.set j (AV.sc (Value.bool true)):=zN (by omega);have p:R=aI l.length :: zs.set j (AV.sc (Value.bool true)):=by rw[<-C,if_pos ⟨h0,t⟩];rfl
   generalize zs.set j (AV.sc (Value.bool true))=Z at *
   simp[go_sem,I,r,U,e4,e5,hm,h0,t,g,hj,a1,sl,T,pc _ _ _ sl];rw[if_pos P];simp[go_sem,r,sl,T];rw[p]at i⊢;exact .hf _ i.hf
  .simp [go_sem,I,r,U,e4,e5,hm,h0,t,g,tk,pc _ _ _ g]
   rw[if_pos o];simp[go_sem,r,g,tk];have p:R=aI l.length :: zs:=by rw[<-C,if_neg (by omega)]
   rw[p]at i⊢;exact .hf _ i.hf
 .simp [go_sem,I,r,U,e4,e5,hm,h0,g,tk,pc _ _ _ g]
  rw[if_pos o];simp[go_sem,r,g,tk];have p:R=aI l.length :: zs:=by rw[<-C,if_neg (by omega)]
  rw[p]at i⊢;exact .hf _ i.hf
abbrev NS:=List AV×Nat
variable {s:NS}
def stF(nm:ByteArray)(f:Fld)(s:NS):NS:=if f.name=nm then (oneC f.sorts,s.2+1) else s
def nmF(nm:ByteArray):List Fld->NS->NS
 | [],s=>s
 |f :: l,s=>nmF nm l (stF nm f s)
def st1(nm:ByteArray)(i:Nat)(x:ByteArray×Bool)(s:NS):NS:=if x.1=nm then (oneC [(i:Int)],s.2+1) else s
def st2(nm:ByteArray)(i:Nat)(x:ByteArray×Bool)(s:NS):NS:=if x.2=true/\x.1++uI=nm then (oneC [(i:Int)],s.2+1) else s
def st3(nm:ByteArray)(i:Nat)(x:ByteArray×Bool)(s:NS):NS:=if x.2=true/\x.1++uJ=nm then (oneC [(i:Int),(i:Int)],s.2+1) else s
def nmS(nm:ByteArray):Nat->List (ByteArray×Bool)->NS->NS
 |_,[],s=>s
 |i,x :: l,s=>nmS nm (i+1) l (st3 nm i x (st2 nm i x (st1 nm i x s)))
def named(ts:TS)(nm:ByteArray):NS:=nmS nm 0 ts.sorts (nmF nm ts.fields (aI 0 :: zs,0))
theorem qiP{f:Fld}(h:SetC s.1):SetC (stF nm f s).1:=by
 unfold stF;split
 .exact SetC.oneC _
 .exact h
theorem nE(h:SetC s.1):SetC (st1 nm i x s).1:=by
 unfold st1;split
 .exact SetC.oneC _
 .exact h
theorem nG(h:SetC s.1):SetC (st2 nm i x s).1:=by
 unfold st2;split
 .exact SetC.oneC _
 .exact h
theorem nH(h:SetC s.1):SetC (st3 nm i x s).1:=by
 unfold st3;split
 .exact SetC.oneC _
 .exact h
theorem st_le:(st3 nm i x (st2 nm i x (st1 nm i x s))).2<=s.2+3:=by
 have l:(st1 nm i x s).2<=s.2+1:=by unfold st1;split<;>simp
 have g:∀ s:NS,(st2 nm i x s).2<=s.2+1:=fun s=>by unfold st2;split<;>simp
 have j:∀ s:NS,(st3 nm i x s).2<=s.2+1:=fun s=>by unfold st3;split<;>simp
 have:=g (st1 nm i x s);have:=j (st2 nm i x (st1 nm i x s));omega
theorem nI(nm:ByteArray):∀(l:List Fld) (s:NS),SetC s.1->SetC (nmF nm l s).1
 | [],_,h=>h
 |f :: l,s,h=>nI nm l _ (qiP h)
theorem nJ(nm:ByteArray):∀(l:List (ByteArray×Bool)) (i:Nat) (s:NS),SetC s.1->SetC (nmS nm i l s).1
 | [],_,_,h=>h
 |x :: l,i,s,h=>nJ nm l _ _ (nH (nG (nE h)))
theorem Xe(ts:TS)(nm:ByteArray):SetC (named ts nm).1:=nJ nm _ _ _ (nI nm _ _ SetC.zero)
theorem wk1(i:Int):WK (.lst true [rI i]) (lI [i]):=WK.lst fun r g c j=>by
 rw[qN]at g;subst g;rw[qN]at j;subst j;exact HF.sc _
theorem wk2(i j:Int):WK (.lst true [rI i,rI j]) (lI [i,j]):=WK.lst fun r g c l=>by
 rcases qw.1 g with rfl|g
 .rw [qN]at l;subst l;exact HF.sc _
 .rw [qN]at g;subst g
  rw[qN]at l;subst l;exact HF.sc _
structure okNm (ts:TS):Prop where
 so:∀ x,x∈ts.sorts->x.1.size<=4611686018427387904
 nso:ts.sorts.length<=140737488351232
 nf:ts.fields.length<=140737488351232
 fl:∀ f,f∈ts.fields->f.sorts.length<=140737488351232
theorem Xf(ts:TS)(ha:okNm ts)(nm:ByteArray):qe qc 211 [eTS ts,aS nm] (.tup [.agg (named ts nm).1,aI (named ts nm).2]):=by
  generalize hR:named ts nm=R;unfold named at hR;refine qSV call211 func211 rfl ?_;have ar:=ha.nf;have au:zs.length=64:=rfl;have av:=ha.nso;simp[go_sem];refine qk.upK ts.fields.length (fun i st=>∃ s:NS,st.tm 1=aS nm/\st.tm 2 = .ip (cTS ts)/\st.tm 4 = .ptr 0 0/\st.tm 6 = .ptr 1 0/\st.tm 7=aI s.2/\st.tm 8=aI i/\st.mu=[.arr (aI 0 :: zs),.arr s.1]/\SetC s.1/\s.2<=i/\nmS nm 0 ts.sorts (nmF nm (ts.fields.drop i) s)=R) ?_ ?_
  · exact⟨(aI 0 :: zs,0),by simp[go_sem],by simp[go_sem],by simp[go_sem],by simp[go_sem],by simp[go_sem],by simp[go_sem],by simp[go_sem,zs,zt],SetC.zero,by simp,by simpa using hR⟩
  clear hR;rintro i st hi ⟨⟨c,k⟩,C,t,e4,I,J,e8,hm,j,hk,p⟩;have hk:k<=i:=hk;have j:SetC c:=j;by_cases g:i<ts.fields.length
  · have w1:qi.wrap ((i:Int)+1)=(i:Int)+1:=qg (by omega) (by omega)
    have w2:qi.wrap ((k:Int)+1)=(k:Int)+1:=qg (by omega) (by omega);rw[zG g]at p;have ho:=oneU ts.fields[i].sorts (ha.fl _ (qy g));have P:=SetC.oneC ts.fields[i].sorts;by_cases hq:ts.fields[i].name=nm
    · simp[go_sem,C,t,e8,hm,g,hq]
      refine qd.pure ho (.cons (.hf (zi _)) .nil) ?_;simp[go_sem,I,P.len,j.len,j.put P];rw[if_pos P.one];simp[go_sem,J,e8,g,w1,w2];exact Keep.mk' ⟨(oneC ts.fields[i].sorts,k+1),by simp[go_sem,C],by simp[go_sem,t],by simp[go_sem,e4],by simp[go_sem,I],by simp[go_sem],by simp[go_sem],by simp[go_sem],P,by show k+1<=i+1;omega,by rw[<-p];simp[nmF,stF,hq]⟩
    · simp[go_sem,C,t,e8,hm,g,jO hq,w1]
      exact Keep.mk' ⟨(c,k),by simp[go_sem,C],by simp[go_sem,t],by simp[go_sem,e4],by simp[go_sem,I],by simp[go_sem,J],by simp[go_sem],by simp[go_sem],j,by show k<=i+1;omega,by rw[<-p];simp[nmF,stF,hq]⟩
  have a0:i=ts.fields.length:=by omega
  subst a0;rw[yH]at p;simp only[nmF]at p;simp[go_sem,t,e8,hm];refine qk.upK ts.sorts.length (fun i st=>∃ s:NS,st.tm 1=aS nm/\st.tm 2 = .ip (cTS ts)/\st.tm 4 = .ptr 0 0/\st.tm 6 = .ptr 1 0/\st.tm 7=aI s.2/\st.tm 9=aI i/\st.mu=[.arr (aI 0 :: zs),.arr s.1]/\SetC s.1/\s.2<=ts.fields.length+3*i/\nmS nm i (ts.sorts.drop i) s=R) ?_ ?_
  · exact⟨(c,k),by simp[go_sem,C],by simp[go_sem,t],by simp[go_sem,e4],by simp[go_sem,I],by simp[go_sem,J],by simp[go_sem],by simp[go_sem],j,by show k<=_;omega,by simpa using p⟩
  clear C t e4 I J e8 hm j hk p g;rintro i st hi ⟨⟨c,k⟩,C,t,e4,I,J,e9,hm,j,hk,p⟩;have hk:k<=ts.fields.length+3*i:=hk;have j:SetC c:=j;by_cases g:i<ts.sorts.length
  · have w1:qi.wrap ((i:Int)+1)=(i:Int)+1:=qg (by omega) (by omega)
    have w2:qi.wrap ((k:Int)+1)=(k:Int)+1:=qg (by omega) (by omega);have w3:qi.wrap ((k:Int)+1+1)=(k:Int)+1+1:=qg (by omega) (by omega);have w4:qi.wrap ((k:Int)+1+1+1)=(k:Int)+1+1+1:=qg (by omega) (by omega);rw[zG g]at p;simp only[nmS]at p;have af:=oneU [(i:Int)] (by simp);have ag:=oneU [(i:Int),(i:Int)] (by simp);have r:=SetC.oneC [(i:Int)];have T:=SetC.oneC [(i:Int),(i:Int)];have ah:=j.put r;have ai:=j.put T;have aj:=r.put r;have ak:=r.put T;have l1:=r.len;have l2:=T.len;have l0:=j.len;have al:=st_le (nm:=nm) (i:=i) (x:=ts.sorts[i]) (s:=(c,k));have an:=nH (nm:=nm) (i:=i) (x:=ts.sorts[i]) (nG (nm:=nm) (i:=i) (x:=ts.sorts[i]) (nE (nm:=nm) (i:=i) (x:=ts.sorts[i]) (s:=(c,k)) j));have U:=ha.so _ (qy g);have U:ts.sorts[i].1.size<=4611686018427387904:=U;generalize aa:ts.sorts[i]=so at *
    obtain⟨o,sb⟩:=so;have ab:o.size<=9223372036854775801:=by simp at U;omega
    have ad:o.size<=9223372036854775802:=by simp at U;omega
    generalize hN:st3 nm i (o,sb) (st2 nm i (o,sb) (st1 nm i (o,sb) (c,k)))=N at *
    have ao:(o++uI=nm)=(o++(⟨#[95,102,105,114,115,116]⟩:ByteArray)=nm):=rfl;have aq:(o++uJ=nm)=(o++(⟨#[95,110,101,120,116]⟩:ByteArray)=nm):=rfl;simp only[st1,st2,st3,ao,aq]at hN;obtain⟨d1,ae⟩:∃ d,decide (o=nm)=d:=⟨_,rfl⟩;obtain⟨d2,a8⟩:∃ d,decide (o++(⟨#[95,102,105,114,115,116]⟩:ByteArray)=nm)=d:=⟨_,rfl⟩;obtain⟨d3,a9⟩:∃ d,decide (o++(⟨#[95,110,101,120,116]⟩:ByteArray)=nm)=d:=⟨_,rfl⟩;have p1:(o=nm)=(d1=true):=by rw[<-ae];simp
    have p2:(o++(⟨#[95,102,105,114,115,116]⟩:ByteArray)=nm)=(d2=true):=by rw[<-a8];simp
    have p3:(o++(⟨#[95,110,101,120,116]⟩:ByteArray)=nm)=(d3=true):=by rw[<-a9];simp
    simp only[p1,p2,p3]at hN;have done:∀ l:St,l.tm 1=aS nm->l.tm 2 = .ip (cTS ts)->l.tm 4 = .ptr 0 0->l.tm 6 = .ptr 1 0->l.tm 7=aI N.2->l.tm 9=aI (i+1:Nat)->l.mu=[.arr (aI 0 :: zs),.arr N.1] ->
        Keep (fun st=>∃ s:NS,st.tm 1=aS nm/\st.tm 2 = .ip (cTS ts)/\st.tm 4 = .ptr 0 0/\st.tm 6 = .ptr 1 0/\st.tm 7=aI s.2/\st.tm 9=aI (i+1:Nat)/\st.mu=[.arr (aI 0 :: zs),.arr s.1]/\SetC s.1/\s.2<=ts.fields.length+3*(i+1)/\nmS nm (i+1) (ts.sorts.drop (i+1)) s=R) .mk l:=
      fun l a1 a2 a3 a4 a5 a6 a7=>Keep.mk' ⟨N,a1,a2,a3,a4,a5,a6,a7,an,by have:N.2<=k+3:=al;omega,p⟩
    cases d1<;>cases d2<;>cases d3<;>cases sb
    all_goals simp only[if_true,if_false,and_false,and_true,reduceCtorEq]at hN
    all_goals simp[go_sem,Y10.kO,C,t,e9,hm,g,aa,ae,a8,a9,w1,ab,ad]
    all_goals repeat' (first
      | (refine qd.pure af (.cons (wk1 _) .nil) ?_
         simp[go_sem,I,ah,aj,l0,l1];rw[if_pos r.one];simp[go_sem,Y10.kO,C,t,J,e9,g,aa,a8,a9,w1,w2,w3,ab,ad])
      | (refine qd.pure ag (.cons (wk2 _ _) .nil) ?_
         simp[go_sem,I,ai,ak,l0,l1,l2];rw[if_pos T.one];simp[go_sem,J,e9,g,w1,w2,w3,w4]))
    all_goals try subst hN
    all_goals try exact done _ (by simp[go_sem,C]) (by simp[go_sem,t]) (by simp[go_sem,e4]) (by simp[go_sem,I]) (by simp[go_sem,J]) (by simp[go_sem]) (by simp[go_sem])
  have a0:i=ts.sorts.length:=by omega
  subst a0;rw[yH]at p;simp only[nmS]at p;subst p;simp[go_sem,t,e4,I,J,e9,hm,j.len,j.take,SetC.zero.put j,SetC.zero.len];rw[if_pos j.one];simp[go_sem,e4,j.len,j.take];refine .hf _ (HF.tup fun x hx=>?_);rcases qw.1 hx with rfl|hx
  · exact j.hf
  · rw[qN]at hx;subst hx;exact HF.sc _
end
end QD
namespace QE
open Y6 QD
abbrev RS:=Int×(Nat->Bool)
def hB(g:Nat->Bool):List AV:=(qt 64).map fun i=>aB (g i)
abbrev cRS(s:RS):List AV:=aI s.1 :: hB s.2
abbrev eRS(s:RS):AV := .agg (cRS s)
theorem qq(g:Nat->Bool):(hB g).length=64:=by simp[hB]
theorem nK(g:Nat->Bool)(i:Nat)(v:Bool):(hB g).set i (aB v)=hB fun j=>if j=i then v else g j:=by
 refine List.ext_getElem (by simp[hB]) fun j l o=>?_
 rw[List.getElem_set];simp only[hB,List.getElem_map,List.getElem_range];by_cases h:i=j
 .rw [if_pos h,if_pos h.symm]
 .rw [if_neg h,if_neg (fun e=>h e.symm)]
theorem qiQ(g:Nat->Bool)(i:Nat)(h:i<64):(hB g)[i]?=some (aB (g i)):=by
 simp[hB,h]
theorem vC{g i:Nat->Bool}(h:∀ j,j<64->g j=i j):hB g=hB i:=by
 refine List.map_congr_left fun j l=>?_
 rw[h j (yk.1 l)]
theorem setC(s:RS):SetC (cRS s):=⟨by simp[hB],fun x g=>by
 rcases qw.1 g with rfl|g
 .exact ⟨rfl,HF.sc _⟩
 .obtain ⟨j,_,rfl⟩:=qp.1 g
  exact⟨rfl,HF.sc _⟩⟩
theorem zW(s:RS):HF (eRS s):=(setC s).hf
theorem nL:hB (fun _=>false)=zs:=rfl
def oneS(l:List Int):RS:=(l.length,fun j=>decide ((j:Int)=atF 0 l))
theorem Xg(l:List Int):oneC l=cRS (oneS l):=by
 unfold oneC oneS;simp only[cRS];split
 .rename_i h
  have e:aB true=aB true:=rfl;rw[<-nL,nK];congr 1;refine vC fun j i=>?_
  by_cases g:j=(atF 0 l).toNat
  .rw [if_pos g];exact(decide_eq_true (by omega)).symm
  .rw [if_neg g];exact(decide_eq_false (by omega)).symm
 .rename_i h
  rw[<-nL];congr 1;refine vC fun j i=>?_
  exact(decide_eq_false (by omega)).symm
def szA(k:Int):Nat:=if k<1 then 1 else if k=1 then 4 else if k=2 then 16 else 64
theorem Yu(k:Int):szA k<=64/\1<=szA k:=by unfold szA;split<;>(try split)<;>(try split)<;>omega
theorem VC(k:Int):qe qc 331 [aI k] (aI (szA k)):=by
 refine qSV call331 func331 rfl ?_;unfold szA;by_cases g:k<1
 .simp [go_sem,g];exact .hf _ (HF.sc _)
 by_cases i:k=1
 .simp [go_sem,i];exact .hf _ (HF.sc _)
 by_cases j:k=2
 .simp [go_sem,j];exact .hf _ (HF.sc _)
 simp[go_sem,g,i,j];exact .hf _ (HF.sc _)
def uniS(a b:RS):RS:=(a.1,fun j=>a.2 j||b.2 j)
def intS(a b:RS):RS:=(a.1,fun j=>a.2 j&&b.2 j)
theorem g1(x:AV)(g:Nat->Bool)(i:Nat)(h:i<64):(x :: hB g)[1+i]?=some (aB (g i)):=by
 rw[Nat.add_comm,List.getElem?_cons_succ,qiQ g i h]
theorem d1(x:AV)(g:Nat->Bool)(i:Nat)(h:i<64):List.take 1 (List.drop (1+i) (x :: hB g))=[aB (g i)]:=by
 rw[Nat.add_comm,List.drop_succ_cons,zG (by rw[qq];exact h)];simp[hB]
theorem d0(g:Nat->Bool)(i:Nat)(h:i<64):List.take 1 (List.drop i (hB g))=[aB (g i)]:=by
 rw[zG (by rw[qq];exact h)];simp[hB]
theorem s1(x:AV)(g:Nat->Bool)(i:Nat)(v:Bool):(x :: hB g).set (1+i) (aB v)=x :: hB fun j=>if j=i then v else g j:=by
 rw[Nat.add_comm,List.set_cons_succ,nK]
theorem qT(g:Nat->Bool):∀ x:AV,x∈hB g->x.one=true:=fun x i=>by
 obtain⟨j,_,rfl⟩:=qp.1 i;rfl
theorem tk(g:Nat->Bool):List.take 64 (hB g)=hB g:=zN (by rw[qq];exact qs _)
theorem pc(x y:AV)(g i:Nat->Bool):putCells (x :: hB g) 0 (y :: hB i)=y :: hB i:=by
 rw[yu _ _ _ (by simp[qq])];simp[qq,List.drop_of_length_le]
theorem vr(a b:RS):qe qc 307 [eRS a,eRS b] (eRS (uniS a b)):=by
 refine qSQ call307 func307 rfl { mt:=[2] } ?_;simp[go_sem];refine⟨qT _,qT _,?_⟩;refine qk.upK 64 (fun i st=>st.tm 2 = .ptr 0 0/\st.tm 3 = .ip (cRS b)/\st.tm 4 = .ptr 1 0/\st.tm 5=aI i/\st.mu=[.arr (aI a.1 :: hB (fun j=>if j<i then a.2 j||b.2 j else a.2 j)),.arr (aI 0 :: hB fun _=>false)]) ?_ ?_
 .exact ⟨by simp[go_sem],by simp[go_sem],by simp[go_sem],by simp[go_sem],by simp[go_sem];rfl⟩
 rintro i st hi ⟨p,I,C,J,P⟩;by_cases l:i<64
 .have o:(i:Int)<64:=by omega
  have r:1+i<=64:=by omega
  have w1:qi.wrap ((i:Int)+1)=(i:Int)+1:=qg (by omega) (by omega);generalize hG:(fun j=>if j<i then a.2 j||b.2 j else a.2 j)=G at *
  have R:G i=a.2 i:=by rw[<-hG];simp
  have g:∀ v:Bool,v=(a.2 i||b.2 i)->(aI a.1 :: hB G).set (1+i) (aB v)=aI a.1 :: hB (fun j=>if j<i+1 then a.2 j||b.2 j else a.2 j):=fun v hv=>by
   rw[s1];congr 2;funext j;rw[<-hG,hv];by_cases T:j=i
   .subst T;simp
   .by_cases h2:j<i
    .simp [T,h2,show j<i+1 by omega]
    .simp [T,h2,show ¬j<i+1 by omega]
  have t:=d1 (aI a.1) G i l;have m2:=d0 b.2 i l;have U:1<=64-i:=by omega
  rw[R]at t;cases ha:a.2 i with
  |true =>
   rw[ha]at t g;have hn:=g true (by simp);simp[go_sem,p,J,P,l,o,r,qq,t,hn,w1];exact Keep.mk' ⟨by simp[go_sem,p],by simp[go_sem,I],by simp[go_sem,C],by simp[go_sem],by simp[go_sem]⟩
  |false =>
   rw[ha]at t g;have hn:=g (b.2 i) (by simp);simp[go_sem,p,I,J,P,l,o,r,U,qq,t,m2,hn,w1];exact Keep.mk' ⟨by simp[go_sem,p],by simp[go_sem,I],by simp[go_sem,C],by simp[go_sem],by simp[go_sem]⟩
 .have a0:i=64:=by omega
  subst a0;simp[go_sem,p,C,J,P,qq,tk,pc];rw[if_pos (qT _)];simp[go_sem,C,qq,tk];have e:(aI a.1 :: hB fun j=>if j<64 then a.2 j||b.2 j else a.2 j)=cRS (uniS a b):=by
   exact congrArg (aI a.1 :: ·) (vC fun j hj=>if_pos hj)
  rw[e];exact .hf _ (zW _)
theorem nM(a b:RS):qe qc 308 [eRS a,eRS b] (eRS (intS a b)):=by
 refine qSQ call308 func308 rfl { mt:=[2] } ?_;simp[go_sem];refine⟨qT _,qT _,?_⟩;refine qk.upK 64 (fun i st=>st.tm 2 = .ptr 0 0/\st.tm 3 = .ip (cRS b)/\st.tm 4 = .ptr 1 0/\st.tm 5=aI i/\st.mu=[.arr (aI a.1 :: hB (fun j=>if j<i then a.2 j&&b.2 j else a.2 j)),.arr (aI 0 :: hB fun _=>false)]) ?_ ?_
 .exact ⟨by simp[go_sem],by simp[go_sem],by simp[go_sem],by simp[go_sem],by simp[go_sem];rfl⟩
 rintro i st hi ⟨p,I,C,J,P⟩;by_cases l:i<64
 .have o:(i:Int)<64:=by omega
  have r:1+i<=64:=by omega
  have w1:qi.wrap ((i:Int)+1)=(i:Int)+1:=qg (by omega) (by omega);generalize hG:(fun j=>if j<i then a.2 j&&b.2 j else a.2 j)=G at *
  have R:G i=a.2 i:=by rw[<-hG];simp
  have g:∀ v:Bool,v=(a.2 i&&b.2 i)->(aI a.1 :: hB G).set (1+i) (aB v)=aI a.1 :: hB (fun j=>if j<i+1 then a.2 j&&b.2 j else a.2 j):=fun v hv=>by
   rw[s1];congr 2;funext j;rw[<-hG,hv];by_cases T:j=i
   .subst T;simp
   .by_cases h2:j<i
    .simp [T,h2,show j<i+1 by omega]
    .simp [T,h2,show ¬j<i+1 by omega]
  have t:=d1 (aI a.1) G i l;have m2:=d0 b.2 i l;have U:1<=64-i:=by omega
  rw[R]at t;cases ha:a.2 i with
  |false =>
   rw[ha]at t g;have hn:=g false (by simp);simp[go_sem,p,J,P,l,o,r,qq,t,hn,w1];exact Keep.mk' ⟨by simp[go_sem,p],by simp[go_sem,I],by simp[go_sem,C],by simp[go_sem],by simp[go_sem]⟩
  |true =>
   rw[ha]at t g;have hn:=g (b.2 i) (by simp);simp[go_sem,p,I,J,P,l,o,r,U,qq,t,m2,hn,w1];exact Keep.mk' ⟨by simp[go_sem,p],by simp[go_sem,I],by simp[go_sem,C],by simp[go_sem],by simp[go_sem]⟩
 .have a0:i=64:=by omega
  subst a0;simp[go_sem,p,C,J,P,qq,tk,pc];rw[if_pos (qT _)];simp[go_sem,C,qq,tk];have e:(aI a.1 :: hB fun j=>if j<64 then a.2 j&&b.2 j else a.2 j)=cRS (intS a b):=by
   exact congrArg (aI a.1 :: ·) (vC fun j hj=>if_pos hj)
  rw[e];exact .hf _ (zW _)
def trS(a:RS):RS:=(2,fun j=>decide (j<16)&&a.2 (j % 4*4+j / 4))
theorem nN(a:RS):qe qc 311 [eRS a] (eRS (trS a)):=by
 refine qSV call311 func311 rfl ?_;simp[go_sem];refine⟨qT _,?_⟩;refine qk.upK 16 (fun i st=>st.tm 1 = .ip (cRS a)/\st.tm 2 = .ptr 0 0/\st.tm 3 = .ptr 1 0/\st.tm 4=aI i/\st.mu=[.arr (aI 0 :: hB fun _=>false),.arr (aI 2 :: hB (fun j=>decide (j<16/\j % 4*4+j / 4<i)&&a.2 (j % 4*4+j / 4)))]) ?_ ?_
 .exact ⟨by simp[go_sem],by simp[go_sem],by simp[go_sem],by simp[go_sem],by simp[go_sem];first|rfl|exact⟨rfl,rfl⟩⟩
 rintro i st hi ⟨R,o,p,U,r⟩;by_cases t:i<16
 .have l:(i:Int)<16:=by omega
  have w1:qi.wrap ((i:Int)+1)=(i:Int)+1:=qg (by omega) (by omega);obtain⟨q,hq⟩:∃ q:Nat,q=i % 4*4+i / 4:=⟨_,rfl⟩;have a0:q<16:=by omega
  have w2:qi.wrap ((i:Int).tmod 4)=((i % 4:Nat):Int):=by
   rw[u4 (by omega)];rw[qg (by omega) (by omega)];omega
  have w3:qi.wrap (qi.wrap ((i:Int).tmod 4*4)+qi.wrap ((i:Int) / 4))=(q:Int):=by
   have x1:qi.wrap ((i:Int) % 4*4)=(i:Int) % 4*4:=qg (by omega) (by omega);have x2:qi.wrap ((i:Int) / 4)=(i:Int) / 4:=qg (by omega) (by omega);rw[u4 (by omega),x1,x2,qg (by omega) (by omega)];omega
  generalize hG:(fun j=>decide (j<16/\j % 4*4+j / 4<i)&&a.2 (j % 4*4+j / 4))=G at *
  have g:(aI 2 :: hB G).set (1+q) (aB (a.2 i))=aI 2 :: hB (fun j=>decide (j<16/\j % 4*4+j / 4<i+1)&&a.2 (j % 4*4+j / 4)):=by
   rw[s1];refine congrArg (aI 2 :: ·) (vC fun j hj=>?_);rw[<-hG];by_cases C:j=q
   .have h2:j % 4*4+j / 4=i:=by omega
    rw[if_pos C,h2,decide_eq_true ⟨by omega,by omega⟩];rfl
   .have h2:¬(j<16/\j % 4*4+j / 4=i):=fun h=>C (by omega)
    rw[if_neg C];have h3:(j<16/\j % 4*4+j / 4<i+1)=(j<16/\j % 4*4+j / 4<i):=propext ⟨fun h=>⟨h.1,by omega⟩,fun h=>⟨h.1,by omega⟩⟩;rw[show decide (j<16/\j % 4*4+j / 4<i+1)=decide (j<16/\j % 4*4+j / 4<i) from decide_eq_decide.2 (by rw[h3])]
  have m2:=d0 a.2 i (by omega);have I:(i:Int)<64:=by omega
  have J:1<=64-i:=by omega
  simp[go_sem,R,p,U,r,t,l,I,J,m2,qq,w1,w3,show (q:Int)<64 by omega,show 1+q<=64 by omega,g];exact Keep.mk' ⟨by simp[go_sem,R],by simp[go_sem,o],by simp[go_sem,p],by simp[go_sem],by simp[go_sem]⟩
 .have P:i=16:=by omega
  subst P;have e:hB (fun j=>decide (j<16/\j % 4*4+j / 4<16)&&a.2 (j % 4*4+j / 4))=hB (trS a).2:=by
   refine vC fun j hj=>?_
   rw[show decide (j<16/\j % 4*4+j / 4<16)=decide (j<16) from decide_eq_decide.2 ⟨fun h=>h.1,fun h=>⟨h,by omega⟩⟩];rfl
  rw[e]at r;have hT:eRS (trS a) = .agg (aI 2 :: hB (trS a).2):=rfl;rw[hT];generalize (trS a).2=T at *
  simp[go_sem,o,p,U,r,qq,tk,pc];rw[if_pos (qT _)];simp[go_sem,o,qq,tk];exact .hf _ (zW (2,T))
def wm(a b:RS)(j:Nat):Bool:=a.2 (j / szA b.1)&&b.2 (j % szA b.1)
def Xh(a b:RS):RS:=(a.1+b.1,fun j=>decide (j<szA a.1*szA b.1)&&wm a b j)
theorem qiR(f:Nat->Bool)(p:Nat)(v:Bool)(i:v=f p):∀ j,(if j=p then v else decide (j<p)&&f j)=(decide (j<p+1)&&f j):=fun j=>by
 by_cases g:j=p
 .subst g;simp[i]
 .rw [if_neg g,show decide (j<p+1)=decide (j<p) from decide_eq_decide.2 (by omega)]
theorem nO(a b:RS)(ha:0<=a.1/\a.1<=1000)(hb:0<=b.1/\b.1<=1000):qe qc 310 [eRS a,eRS b] (eRS (Xh a b)):=by
 refine qSV call310 func310 rfl ?_;have w0:qi.wrap (a.1+b.1)=a.1+b.1:=qg (by omega) (by omega);have af:=Yu a.1;have ag:=Yu b.1;have ca:=VC a.1;have cb:=VC b.1;have hf:∀ j,wm a b j=(a.2 (j / szA b.1)&&b.2 (j % szA b.1)):=fun _=>rfl
 simp[go_sem,qq];refine⟨qT _,qT _,?_⟩;simp[go_sem,w0];refine qd.pure cb (.cons (.hf (HF.sc _)) .nil) ?_;generalize hE:Xh a b=E;have a9:E=(a.1+b.1,fun j=>decide (j<szA a.1*szA b.1)&&wm a b j):=hE.symm;clear hE;generalize wm a b=F at *
 generalize szA a.1=sa at *
 generalize szA b.1=n at *
 simp[go_sem];refine qk.upK sa (fun i st=>st.tm 2 = .ip (cRS a)/\st.tm 3 = .ip (cRS b)/\st.tm 4 = .ptr 0 0/\st.tm 5 = .ptr 1 0/\st.tm 6=aI n/\st.tm 7=aI i/\st.mu=[.arr (aI 0 :: hB fun _=>false),.arr (aI (a.1+b.1) :: hB (fun j=>decide (j<i*n)&&F j))]) ?_ ?_
 .exact ⟨by simp[go_sem],by simp[go_sem],by simp[go_sem],by simp[go_sem],by simp[go_sem],by simp[go_sem],by simp[go_sem];first|rfl|exact⟨rfl,rfl⟩⟩
 rintro i st hi ⟨l,C,J,P,o,r,R⟩;simp[go_sem,l,r,R];refine qd.pure ca (.cons (.hf (HF.sc _)) .nil) ?_;by_cases a6:i<sa
 .have w1:qi.wrap ((i:Int)+1)=(i:Int)+1:=qg (by omega) (by omega)
  simp[go_sem,a6];refine qk.upK n (fun k st=>st.tm 2 = .ip (cRS a)/\st.tm 3 = .ip (cRS b)/\st.tm 4 = .ptr 0 0/\st.tm 5 = .ptr 1 0/\st.tm 6=aI n/\st.tm 7=aI i/\st.tm 8=aI k/\st.mu=[.arr (aI 0 :: hB fun _=>false),.arr (aI (a.1+b.1) :: hB (fun j=>decide (j<i*n+k)&&F j))]) ?_ ?_
  .exact ⟨by simp[go_sem,l],by simp[go_sem,C],by simp[go_sem,J],by simp[go_sem,P],by simp[go_sem,o],by simp[go_sem,r],by simp[go_sem],by simp[go_sem]⟩
  clear l C J P o r R;rintro k st hk ⟨l,C,J,P,o,r,e8,R⟩;by_cases t:k<n
  .have w2:qi.wrap ((k:Int)+1)=(k:Int)+1:=qg (by omega) (by omega)
   obtain⟨p,hp⟩:∃ p:Nat,p=i*n+k:=⟨_,rfl⟩;have a7:((i:Int)*n+k)=(p:Int):=by rw[hp];push_cast;rfl
   have ah:i*n<=63*64:=Nat.mul_le_mul (by omega) (by omega);have w3:qi.wrap ((i:Int)*n)=(i:Int)*n:=by
    have:((i*n:Nat):Int)=(i:Int)*n:=by push_cast;rfl
    rw[<-this];exact qg (by omega) (by omega)
   have w4:qi.wrap (p:Int)=(p:Int):=qg (by omega) (by omega);have a2:F p=(a.2 i&&b.2 k):=by
    rw[hf,hp,Nat.add_comm,Nat.add_mul_div_right _ _ (by omega),Nat.add_mul_mod_self_right,Nat.div_eq_of_lt t,Nat.mod_eq_of_lt t,yf]
   have m1:=d0 a.2 i (by omega);have m2:=d0 b.2 k (by omega);have U:1<=64-i:=by omega
   have a3:1<=64-k:=by omega
   have a0:(i:Int)<64:=by omega
   have a4:(k:Int)<64:=by omega
   have hq:∀ x:AV,(x :: hB (fun j=>decide (j<p)&&F j)).set (1+p) (aB true)=x :: hB (fun j=>if j=p then true else decide (j<p)&&F j):=fun x=>s1 x _ p true
   rw[<-hp]at R;have aa:F p=true->(fun j=>if j=p then true else decide (j<p)&&F j)=(fun j=>decide (j<p+1)&&F j):=fun h=>funext (qiR F p true h.symm)
   have ab:F p=true->∀ x:AV,(x :: hB (fun j=>decide (j<p)&&F j)).set (1+p) (AV.sc (Value.bool true))=x :: hB (fun j=>decide (j<p+1)&&F j):=fun h x=>by rw[<-aa h];exact hq x
   have a5:(F p=false\/64<=p)->hB (fun j=>decide (j<p)&&F j)=hB (fun j=>decide (j<p+1)&&F j):=fun h=>vC fun j hj=>by
    by_cases h1:j=p
    .rcases h with h|h
     .rw [h1,h];simp
     .omega
    .rw [show decide (j<p+1)=decide (j<p) from decide_eq_decide.2 (by omega)]
   have done:∀ g:St,g.tm 2 = .ip (cRS a)->g.tm 3 = .ip (cRS b)->g.tm 4 = .ptr 0 0->g.tm 5 = .ptr 1 0->g.tm 6=aI n->g.tm 7=aI i->g.tm 8=aI (k+1:Nat)->g.mu=[.arr (aI 0 :: hB fun _=>false),.arr (aI (a.1+b.1) :: hB (fun j=>decide (j<p+1)&&F j))]->Keep (fun st=>st.tm 2 = .ip (cRS a)/\st.tm 3 = .ip (cRS b)/\st.tm 4 = .ptr 0 0/\st.tm 5 = .ptr 1 0/\st.tm 6=aI n/\st.tm 7=aI i/\st.tm 8=aI (k+1:Nat)/\st.mu=[.arr (aI 0 :: hB fun _=>false),.arr (aI (a.1+b.1) :: hB (fun j=>decide (j<i*n+(k+1))&&F j))]) .mk g:=
    fun g b1 b2 b3 b4 b5 b6 b7 b8=>Keep.mk' ⟨b1,b2,b3,b4,b5,b6,b7,by rw[b8,hp];rfl⟩
   cases I:a.2 i with
   |false =>
    rw[I]at m1;simp[go_sem,l,o,r,e8,R,t,qq,m1,U,a0,w2];exact done _ (by simp[go_sem,l]) (by simp[go_sem,C]) (by simp[go_sem,J]) (by simp[go_sem,P]) (by simp[go_sem,o]) (by simp[go_sem,r]) (by simp[go_sem]) (by simp[go_sem,a5 (.inl (by rw[a2,I];rfl))])
   |true =>
    rw[I]at m1;cases a1:b.2 k with
    |false =>
     rw[a1]at m2;simp[go_sem,l,C,o,r,e8,R,t,qq,m1,m2,U,a3,a0,a4,w2];exact done _ (by simp[go_sem,l]) (by simp[go_sem,C]) (by simp[go_sem,J]) (by simp[go_sem,P]) (by simp[go_sem,o]) (by simp[go_sem,r]) (by simp[go_sem]) (by simp[go_sem,a5 (.inl (by rw[a2,I,a1];rfl))])
    |true =>
     rw[a1]at m2;by_cases a8:(p:Int)<64
     .simp [go_sem,l,C,P,o,r,e8,R,t,qq,m1,m2,U,a3,a0,a4,w2,w3,a7,w4,a8,show 1+p<=64 by omega,ab (by rw[a2,I,a1];rfl)]
      exact done _ (by simp[go_sem,l]) (by simp[go_sem,C]) (by simp[go_sem,J]) (by simp[go_sem,P]) (by simp[go_sem,o]) (by simp[go_sem,r]) (by simp[go_sem]) (by simp[go_sem])
     .simp [go_sem,l,C,o,r,e8,R,t,qq,m1,m2,U,a3,a0,a4,w2,w3,a7,w4,a8]
      exact done _ (by simp[go_sem,l]) (by simp[go_sem,C]) (by simp[go_sem,J]) (by simp[go_sem,P]) (by simp[go_sem,o]) (by simp[go_sem,r]) (by simp[go_sem]) (by simp[go_sem,a5 (.inr (by omega))])
  .have ad:k=n:=by omega
   subst ad;rw[show i*k+k=(i+1)*k by rw[Nat.add_mul,Nat.one_mul]]at R;simp[go_sem,o,r,e8,R,w1];exact⟨a6,Keep.mk' ⟨by simp[go_sem,l],by simp[go_sem,C],by simp[go_sem,J],by simp[go_sem,P],by simp[go_sem,o],by simp[go_sem],by simp[go_sem]⟩⟩
 .have ae:i=sa:=by omega
  subst ae;rw[a9];generalize (fun j=>decide (j<i*n)&&F j)=T at *
  simp[go_sem,J,P,qq,tk,pc];rw[if_pos (qT _)];simp[go_sem,J,qq,tk];exact .hf _ (zW (_,T))
def rowJ(a b:RS)(i g j:Nat):Bool:=(qt g).any fun k=>decide (i / 4*(szA b.1 / 4)+k % (szA b.1 / 4)=j)&&(decide (i % 4=k / (szA b.1 / 4))&&(a.2 i&&b.2 k))
def Qc(a b:RS):RS:=(a.1+b.1-2,fun j=>(qt (szA a.1)).any fun i=>rowJ a b i (szA b.1) j)
theorem qiS(a b:RS)(i k j:Nat):rowJ a b i (k+1) j=(rowJ a b i k j||(decide (i / 4*(szA b.1 / 4)+k % (szA b.1 / 4)=j)&&(decide (i % 4=k / (szA b.1 / 4))&&(a.2 i&&b.2 k)))):=by
 unfold rowJ;rw[List.range_succ,List.any_append];simp
theorem qiT{k:Int}(h:1<=k):4<=szA k:=by unfold szA;split<;>(try split)<;>(try split)<;>omega
theorem VD(a b:RS)(ha:0<=a.1/\a.1<=1000)(hb:1<=b.1/\b.1<=1000):qe qc 309 [eRS a,eRS b] (eRS (Qc a b)):=by
 refine qSV call309 func309 rfl ?_;have w0:qi.wrap (a.1+b.1)=a.1+b.1:=qg (by omega) (by omega);have aa:qi.wrap (a.1+b.1-2)=a.1+b.1-2:=qg (by omega) (by omega);have ai:=Yu a.1;have aj:=Yu b.1;have ak:=qiT hb.1;have ca:=VC a.1;have cb:=VC b.1;have hR:∀ i k j,rowJ a b i (k+1) j=(rowJ a b i k j||(decide (i / 4*(szA b.1 / 4)+k % (szA b.1 / 4)=j)&&(decide (i % 4=k / (szA b.1 / 4))&&(a.2 i&&b.2 k)))):=qiS a b;have ab:∀ i j,rowJ a b i 0 j=false:=fun i j=>rfl
 simp[go_sem,qq];refine⟨qT _,qT _,?_⟩;simp[go_sem,w0,aa];refine qd.pure cb (.cons (.hf (HF.sc _)) .nil) ?_;generalize hE:Qc a b=E;have ad:E=(a.1+b.1-2,fun j=>(qt (szA a.1)).any fun i=>rowJ a b i (szA b.1) j):=hE.symm;clear hE;generalize rowJ a b=F at *
 generalize szA a.1=sa at *
 generalize szA b.1=sb at *
 obtain⟨n,hn⟩:∃ n:Nat,n=sb / 4:=⟨_,rfl⟩;have al:1<=n/\n<=16:=by omega
 have wn:qi.wrap ((sb:Int) / 4)=(n:Int):=by rw[qg (by omega) (by omega)];omega
 rw[<-hn]at hR;simp[go_sem,wn];refine qk.upK sa (fun i st=>st.tm 2 = .ip (cRS a)/\st.tm 3 = .ip (cRS b)/\st.tm 4 = .ptr 0 0/\st.tm 5 = .ptr 1 0/\st.tm 6=aI n/\st.tm 7=aI i/\st.mu=[.arr (aI 0 :: hB fun _=>false),.arr (aI (a.1+b.1-2) :: hB (fun j=>(qt i).any fun i=>F i sb j))]) ?_ ?_
 .exact ⟨by simp[go_sem],by simp[go_sem],by simp[go_sem],by simp[go_sem],by simp[go_sem],by simp[go_sem],by simp[go_sem];first|rfl|exact⟨rfl,rfl⟩⟩
 rintro i st hi ⟨l,r,C,I,t,o,hm⟩;simp[go_sem,l,o,hm];refine qd.pure ca (.cons (.hf (HF.sc _)) .nil) ?_;by_cases a8:i<sa
 .have w1:qi.wrap ((i:Int)+1)=(i:Int)+1:=qg (by omega) (by omega)
  generalize hP:(fun j=>(qt i).any fun i=>F i sb j)=P at *
  simp[go_sem,a8];refine qk.upK sb (fun k st=>st.tm 2 = .ip (cRS a)/\st.tm 3 = .ip (cRS b)/\st.tm 4 = .ptr 0 0/\st.tm 5 = .ptr 1 0/\st.tm 6=aI n/\st.tm 7=aI i/\st.tm 8=aI k/\st.mu=[.arr (aI 0 :: hB fun _=>false),.arr (aI (a.1+b.1-2) :: hB (fun j=>P j||F i k j))]) ?_ ?_
  .exact ⟨by simp[go_sem,l],by simp[go_sem,r],by simp[go_sem,C],by simp[go_sem,I],by simp[go_sem,t],by simp[go_sem,o],by simp[go_sem],by simp[go_sem,ab]⟩
  clear l r C I t o hm;rintro k st hk ⟨l,r,C,I,t,o,e8,hm⟩;simp[go_sem,r,e8,hm];refine qd.pure cb (.cons (.hf (HF.sc _)) .nil) ?_;by_cases J:k<sb
  .have w2:qi.wrap ((k:Int)+1)=(k:Int)+1:=qg (by omega) (by omega)
   obtain⟨p,hp⟩:∃ p:Nat,p=i / 4*n+k % n:=⟨_,rfl⟩;have an:k % n<n:=Nat.mod_lt _ (by omega);have ao:i / 4*n<=15*16:=Nat.mul_le_mul (by omega) (by omega);have y1:((i / 4:Nat):Int)=(i:Int) / 4:=by omega
   have y2:((i / 4*n:Nat):Int)=(i:Int) / 4*n:=by rw[<-y1];push_cast;rfl
   have y3:((k % n:Nat):Int)=(k:Int) % n:=rfl;have y4:((k / n:Nat):Int)=(k:Int) / n:=rfl;have ae:k / n<=64:=zY (Nat.div_le_self k n) (by omega);have x1:qi.wrap ((i:Int) / 4)=(i:Int) / 4:=qg (by omega) (by omega);have x2:qi.wrap ((i:Int) / 4*n)=(i:Int) / 4*n:=by rw[<-y2];exact qg (by omega) (by omega)
   have x4:qi.wrap ((i:Int) / 4*n+(k:Int) % n)=(p:Int):=by rw[<-y2,<-y3,qg (by omega) (by omega),hp];push_cast;rfl
   have a7:qi.wrap ((i:Int) / 4*n+(k:Int).tmod n)=(p:Int):=by rw[u4 (by omega)];exact x4
   have x5:qi.wrap ((k:Int) / n)=(k:Int) / n:=by
    rw[<-y4];clear y4;generalize k / n=c at ae⊢;exact qg (by omega) (by omega)
   have R:¬n=0:=by omega
   have m1:=d0 a.2 i (by omega);have m2:=d0 b.2 k (by omega);have U:1<=64-i:=by omega
   have a1:1<=64-k:=by omega
   have a0:(i:Int)<64:=by omega
   have a2:(k:Int)<64:=by omega
   have a3:((decide (i % 4=k / n)&&(a.2 i&&b.2 k))=false\/64<=p)->hB (fun j=>P j||F i k j)=hB (fun j=>P j||F i (k+1) j):=fun h=>vC fun j hj=>by
    rw[hR,<-hp];rcases h with h|h
    .rw [h,Bool.and_false,Bool.or_false]
    .rw [decide_eq_false (by omega),Bool.false_and,Bool.or_false]
   have af:(decide (i % 4=k / n)&&(a.2 i&&b.2 k))=true->∀ x:AV,(x :: hB (fun j=>P j||F i k j)).set (1+p) (AV.sc (Value.bool true))=x :: hB (fun j=>P j||F i (k+1) j):=fun h x=>by
    refine(s1 x _ p true).trans (congrArg (x :: ·) (vC fun j hj=>?_));rw[hR,<-hp,h,Bool.and_true];by_cases h1:j=p
    .rw [if_pos h1,h1];simp
    .rw [if_neg h1,decide_eq_false (fun e=>h1 e.symm),Bool.or_false]
   have done:∀ g:St,g.tm 2 = .ip (cRS a)->g.tm 3 = .ip (cRS b)->g.tm 4 = .ptr 0 0->g.tm 5 = .ptr 1 0->g.tm 6=aI n->g.tm 7=aI i->g.tm 8=aI (k+1:Nat)->g.mu=[.arr (aI 0 :: hB fun _=>false),.arr (aI (a.1+b.1-2) :: hB (fun j=>P j||F i (k+1) j))]->Keep (fun st=>st.tm 2 = .ip (cRS a)/\st.tm 3 = .ip (cRS b)/\st.tm 4 = .ptr 0 0/\st.tm 5 = .ptr 1 0/\st.tm 6=aI n/\st.tm 7=aI i/\st.tm 8=aI (k+1:Nat)/\st.mu=[.arr (aI 0 :: hB fun _=>false),.arr (aI (a.1+b.1-2) :: hB (fun j=>P j||F i (k+1) j))]) .mk g:=
    fun g b1 b2 b3 b4 b5 b6 b7 b8=>Keep.mk' ⟨b1,b2,b3,b4,b5,b6,b7,b8⟩
   cases a4:a.2 i with
   |false =>
    rw[a4]at m1;simp[go_sem,l,t,o,e8,J,qq,x1,x2,R,m1,U,a0,w2];exact done _ (by simp[go_sem,l]) (by simp[go_sem,r]) (by simp[go_sem,C]) (by simp[go_sem,I]) (by simp[go_sem,t]) (by simp[go_sem,o]) (by simp[go_sem]) (by simp[go_sem,a3 (.inl (by rw[a4];simp))])
   |true =>
    rw[a4]at m1;cases a5:b.2 k with
    |false =>
     rw[a5]at m2;simp[go_sem,l,r,t,o,e8,J,qq,x1,x2,R,m1,m2,U,a0,a1,a2,w2];exact done _ (by simp[go_sem,l]) (by simp[go_sem,r]) (by simp[go_sem,C]) (by simp[go_sem,I]) (by simp[go_sem,t]) (by simp[go_sem,o]) (by simp[go_sem]) (by simp[go_sem,a3 (.inl (by rw[a5];simp))])
    |true =>
     rw[a5]at m2;by_cases hq:i % 4=k / n
     .have a6:(i:Int).tmod 4=(k:Int) / n:=by rw[u4 (by omega),<-y4,<-hq];rfl
      by_cases a9:(p:Int)<64
      .simp [go_sem,l,r,I,t,o,e8,J,qq,x1,x2,a7,x5,R,m1,m2,U,a0,a1,a2,w2,a6,a9,show 1+p<=64 by omega,af (by rw[decide_eq_true hq,a4,a5];rfl)]
       exact done _ (by simp[go_sem,l]) (by simp[go_sem,r]) (by simp[go_sem,C]) (by simp[go_sem,I]) (by simp[go_sem,t]) (by simp[go_sem,o]) (by simp[go_sem]) (by simp[go_sem])
      .simp [go_sem,l,r,t,o,e8,J,qq,x1,x2,a7,x5,R,m1,m2,U,a0,a1,a2,w2,a6,a9]
       exact done _ (by simp[go_sem,l]) (by simp[go_sem,r]) (by simp[go_sem,C]) (by simp[go_sem,I]) (by simp[go_sem,t]) (by simp[go_sem,o]) (by simp[go_sem]) (by simp[go_sem,a3 (.inr (by omega))])
     .have a6:¬(i:Int).tmod 4=(k:Int) / n:=fun e=>hq (by rw[u4 (by omega),<-y4]at e;exact Int.ofNat.inj e)
      simp[go_sem,l,r,t,o,e8,J,qq,x1,x2,a7,x5,R,m1,m2,U,a0,a1,a2,w2,a6];exact done _ (by simp[go_sem,l]) (by simp[go_sem,r]) (by simp[go_sem,C]) (by simp[go_sem,I]) (by simp[go_sem,t]) (by simp[go_sem,o]) (by simp[go_sem]) (by simp[go_sem,a3 (.inl (by rw[decide_eq_false hq];rfl))])
  .have ag:k=sb:=by omega
   subst ag;simp[go_sem,o,w1];exact⟨a8,Keep.mk' ⟨by simp[go_sem,l],by simp[go_sem,r],by simp[go_sem,C],by simp[go_sem,I],by simp[go_sem,t],by simp[go_sem],by simp[go_sem];rw[<-hP]⟩⟩
 .have ah:i=sa:=by omega
  subst ah;rw[ad];generalize (fun j=>(qt i).any fun i=>F i sb j)=T at *
  simp[go_sem,C,I,qq,tk,pc];rw[if_pos (qT _)];simp[go_sem,C,qq,tk];exact .hf _ (zW (_,T))
end QE
namespace QF
open Y2 Y3 P1 P2 QD QE
section
variable {p q:Int}{a b:Kd}{l:List Int}{m ns:Nat}
def dig(k:Int)(j:Nat):List Int:=if k=0 then [] else if k=1 then [(j:Int)] else if k=2 then [((j / 4:Nat):Int),((j % 4:Nat):Int)] else [((j / 16:Nat):Int),((j / 4 % 4:Nat):Int),((j % 4:Nat):Int)]
theorem Qd{k:Int}(h:0<=k/\k<=3)(j:Nat):((dig k j).length:Int)=k:=by
 unfold dig;split
 .simp;omega
 .split
  .simp;omega
  .split
   .simp;omega
   .simp;omega
theorem szA1:szA 1=4:=rfl
theorem szA2:szA 2=16:=rfl
theorem szA3:szA 3=64:=rfl
theorem Yv(h:0<=p/\p<=3):p=0\/p=1\/p=2\/p=3:=by omega
theorem nP(g:0<=p)(i:0<=q)(h:p+q<=3){j:Nat}(l:j<szA (p+q)):j / szA q<szA p/\j % szA q<szA q/\dig (p+q) j=dig p (j / szA q)++dig q (j % szA q):=by
 rcases Yv (p:=p) ⟨g,by omega⟩ with rfl|rfl|rfl|rfl<;>rcases Yv (p:=q) ⟨i,by omega⟩ with rfl|rfl|rfl|rfl<;>first | (exfalso;omega)|skip
 all_goals simp[dig,szA]at l⊢
 all_goals omega
theorem Xi(g:0<=p)(j:0<=q)(h:p+q<=3){i k:Nat}(l:i<szA p)(o:k<szA q):i*szA q+k<szA (p+q)/\dig (p+q) (i*szA q+k)=dig p i++dig q k:=by
 rcases Yv (p:=p) ⟨g,by omega⟩ with rfl|rfl|rfl|rfl<;>rcases Yv (p:=q) ⟨j,by omega⟩ with rfl|rfl|rfl|rfl<;>first | (exfalso;omega)|skip
 all_goals simp[dig,szA]at l o⊢
 all_goals omega
theorem Xj(h:0<=p/\p<=3){i j:Nat}(g:i<szA p)(l:j<szA p)(e:dig p i=dig p j):i=j:=by
 rcases Yv h with rfl|rfl|rfl|rfl
 all_goals simp[dig,szA]at g l e
 all_goals omega
theorem nQ(h:1<=p/\p<=3){l:List Int}(g:(l.length:Int)=p)(j:∀ x,x∈l->0<=x/\x<4):∃ i,i<szA p/\l=dig p i:=by
 match l,g,j with
 | [],g,_=>simp at g;omega
 | [a],g,j =>
  obtain rfl:p=1:=by simpa using g.symm
  have:=j a (by simp);exact⟨a.toNat,by rw[szA1];omega,by simp[dig];omega⟩
 | [a,b],g,j =>
  obtain rfl:p=2:=by simpa using g.symm
  have:=j a (by simp);have:=j b (by simp);exact⟨(a*4+b).toNat,by rw[szA2];omega,by simp[dig];omega⟩
 | [a,b,c],g,j =>
  obtain rfl:p=3:=by simpa using g.symm
  have:=j a (by simp);have:=j b (by simp);have:=j c (by simp);exact⟨(a*16+b*4+c).toNat,by rw[szA3];omega,by simp[dig];omega⟩
 |a :: b :: c :: d :: l,g,_=>simp at g;omega
theorem Xk{l':List Int}(h:l.length=l'.length)(j:l.length<=3)(e:pad l=pad l'):l=l':=by
 have g:=wo j l.length (qs _);have i:=wo (l:=l') (by omega) l'.length (qs _);rw[q8]at g i;rw[<-g,<-i,e,h]
theorem Zl{k:Kd}(h:okKd ns k)(g:ns<=4){t:Tp}(j:t∈k.ts):∃ i,i<szA k.ar/\t=pad (dig k.ar i):=by
 obtain⟨l,rfl,o,p⟩:=h.ts t j;obtain⟨i,r,e⟩:=nQ h.ar o fun x C=>by have:=p x C;omega
 exact⟨i,r,by rw[e]⟩
def qn(k:Kd):RS:=(k.ar,fun j=>decide (j<szA k.ar/\pad (dig k.ar j)∈k.ts))
theorem yd(k:Kd)(j:Nat):(qn k).2 j=true↔j<szA k.ar/\pad (dig k.ar j)∈k.ts:=decide_eq_true_iff
theorem uW{a b:RS}(g:a.1=b.1)(i:∀ j,j<64->a.2 j=b.2 j):eRS a=eRS b:=by
 simp only[eRS,cRS,g,vC i]
theorem Yw(h:a.ar=b.ar):eRS (uniS (qn a) (qn b))=eRS (qn (kSum a b)):=by
 refine uW rfl fun j l=>?_
 rw[vL,yd];show ((qn a).2 j||(qn b).2 j)=true↔j<szA a.ar/\pad (dig a.ar j)∈uni (uni [] a.ts) b.ts;rw[Bool.or_eq_true,yd,yd,<-h,vq,vq];constructor
 .rintro (⟨i,g⟩|⟨i,g⟩)
  .exact ⟨i,.inl (.inr g)⟩
  .exact ⟨i,.inr g⟩
 .rintro ⟨i,(g|g)|g⟩
  .cases g
  .exact .inl ⟨i,g⟩
  .exact .inr ⟨i,g⟩
theorem qiU(h:a.ar=b.ar):eRS (intS (qn a) (qn b))=eRS (qn (Qw a b)):=by
 refine uW rfl fun j o=>?_
 rw[vL,yd];show ((qn a).2 j&&(qn b).2 j)=true↔j<szA a.ar/\pad (dig a.ar j)∈a.ts.filter fun t=>decide (t∈b.ts)
 rw[qr,yd,yd,<-h,List.mem_filter,decide_eq_true_eq];constructor
 .rintro ⟨⟨g,i⟩,_,l⟩;exact⟨g,i,l⟩
 .rintro ⟨g,i,l⟩;exact⟨⟨g,i⟩,g,l⟩
theorem Z6{n:Nat}{a b:List Tp}{t:Tp}:t∈uH n m a b↔∃ x y,x∈a/\y∈b/\conc x n y m 0=t:=by
 unfold uH;rw[vq];simp only[qI,false_or,qp,Prod.exists,Qv];constructor
 .rintro ⟨x,y,⟨g,i⟩,j⟩;exact⟨x,y,g,i,j⟩
 .rintro ⟨x,y,g,i,j⟩;exact⟨x,y,⟨g,i⟩,j⟩
theorem Ye{l':List Int}{n:Nat}(h:l.length=n)(g:l'.length=m)(i:n<=3)(j:m<=3):conc (pad l) n (pad l') m 0=pad (l++l'):=by
 unfold conc;rw[Nat.sub_zero,List.drop_zero,wo (by omega) n (by omega),wo (by omega) m (by omega),<-h,<-g,q8,q8]
theorem qiV(J:okKd ns a)(P:okKd ns b)(o:ns<=4)(R:a.ar+b.ar<=3):eRS (Xh (qn a) (qn b))=eRS (qn (v8 a b)):=by
 have a0:=J.ar;have a1:=P.ar;have T:=fun i=>Qd (k:=a.ar) (by omega) i
 have U:=fun i=>Qd (k:=b.ar) (by omega) i
 have g:=fun i=>Qd (k:=a.ar+b.ar) (by omega) i
 refine uW rfl fun j hj=>?_
 rw[vL,yd];show (decide (j<szA a.ar*szA b.ar)&&((qn a).2 (j / szA b.ar)&&(qn b).2 (j % szA b.ar)))=true↔j<szA (a.ar+b.ar)/\pad (dig (a.ar+b.ar) j)∈uH a.ar.toNat b.ar.toNat a.ts b.ts;rw[qr,qr,yd,yd,Z6,decide_eq_true_eq];constructor
 .rintro ⟨_,⟨t,h2⟩,h4,h5⟩
  have l:=Xi (p:=a.ar) (q:=b.ar) (by omega) (by omega) R t h4;have hd:j / szA b.ar*szA b.ar+j % szA b.ar=j:=Nat.div_add_mod' j _;rw[hd]at l;refine⟨l.1,_,_,h2,h5,?_⟩;rw[l.2];exact Ye (by have:=T (j / szA b.ar);omega) (by have:=U (j % szA b.ar);omega) (by omega) (by omega)
 .rintro ⟨t,x,y,hx,hy,e⟩
  obtain⟨i,C,rfl⟩:=Zl J o hx;obtain⟨k,r,rfl⟩:=Zl P o hy;rw[Ye (by have:=T i;omega) (by have:=U k;omega) (by omega) (by omega)]at e;have l:=Xi (p:=a.ar) (q:=b.ar) (by omega) (by omega) R C r;rw[<-l.2]at e;have e2:=Xk (by have:=g (i*szA b.ar+k);have:=g j;omega) (by have:=g (i*szA b.ar+k);omega) e;have I:=Xj (by omega) l.1 t e2;have a2:=Yu b.ar;have d1:j / szA b.ar=i:=by rw[<-I,Nat.add_comm,Nat.add_mul_div_right _ _ (by omega),Nat.div_eq_of_lt r,yf]
  have d2:j % szA b.ar=k:=by rw[<-I,Nat.add_comm,Nat.add_mul_mod_self_right,Nat.mod_eq_of_lt r]
  rw[d1,d2];refine⟨?_,⟨C,hx⟩,r,hy⟩;rw[<-I]
  calc i*szA b.ar+k<i*szA b.ar+szA b.ar:=by omega
   _=(i+1)*szA b.ar:=by rw[Nat.add_mul,Nat.one_mul]
   _<=szA a.ar*szA b.ar:=Nat.mul_le_mul_right _ C
theorem wZ{n:Nat}{a b:List Tp}{t:Tp}:t∈v7 n m a b↔∃ x y,x∈a/\y∈b/\x.getD (n-1) 0=y.getD 0 0/\conc x n y m 1=t:=by
 unfold v7;rw[vq];simp only[qI,false_or,List.mem_filterMap,Prod.exists,Qv];constructor
 .rintro ⟨x,y,⟨i,j⟩,g⟩
  split at g
  .rename_i h;cases g;exact⟨x,y,i,j,h,rfl⟩
  .cases g
 .rintro ⟨x,y,i,j,g,l⟩;exact⟨x,y,⟨i,j⟩,by rw[if_pos g,l]⟩
theorem qiW{u v:List Int}{e f:Int}{n:Nat}(h:u.length+1=n)(g:v.length+1=m)(i:n<=3)(j:m<=3):conc (pad (u++[e])) n (pad ([f]++v)) m 1=pad (u++v):=by
 unfold conc;rw[wo (by simp;omega) (n-1) (by simp;omega),wo (by simp;omega) m (by simp;omega),List.take_append_of_le_length (by omega),zN (by omega),zN (by simp;omega)];rfl
theorem nR{k:Nat}(h:k<3):(pad l).getD k 0=l.getD k 0:=by
 match k,h with
 | 0,_=>rfl
 | 1,_=>rfl
 | 2,_=>rfl
theorem qiX(g:0<=p/\p<=2){i:Nat}(j:i<szA (p+1)):i / 4<szA p/\dig (p+1) i=dig p (i / 4)++[((i % 4:Nat):Int)]:=by
 have:=nP (p:=p) (q:=1) g.1 (by omega) (by omega) j;rw[szA1]at this;exact⟨this.1,this.2.2⟩
theorem qiY(g:0<=q/\q<=2){k:Nat}(i:k<szA (1+q)):k % szA q<szA q/\dig (1+q) k=[((k / szA q:Nat):Int)]++dig q (k % szA q):=by
 have:=nP (p:=1) (q:=q) (by omega) g.1 (by omega) i;exact⟨this.2.1,this.2.2⟩
theorem qiZ(g:0<=q/\q<=2):szA (q+1) / 4=szA q/\szA (q+1)=4*szA q:=by
 rcases (show q=0\/q=1\/q=2 by omega) with rfl|rfl|rfl<;>exact⟨rfl,rfl⟩
theorem nS(ha:okKd ns a)(hb:okKd ns b)(r:ns<=4)(h3:1<=a.ar+b.ar-2/\a.ar+b.ar-2<=3):eRS (Qc (qn a) (qn b))=eRS (qn (zD a b)):=by
 have a0:=ha.ar;have a3:=hb.ar;obtain⟨p,hp⟩:∃ p,p=a.ar-1:=⟨_,rfl⟩;obtain⟨q,hq⟩:∃ q,q=b.ar-1:=⟨_,rfl⟩;have ea:a.ar=p+1:=by omega
 have eb:b.ar=1+q:=by omega
 have t:b.ar=q+1:=by omega
 have C:a.ar+b.ar-2=p+q:=by omega
 have I:=qiZ (q:=q) (by omega);have hn:szA b.ar / 4=szA q:=by rw[t];exact I.1
 have lp:=fun i=>Qd (k:=p) (by omega) i
 have lq:=fun i=>Qd (k:=q) (by omega) i
 have o:=fun i=>Qd (k:=p+q) (by omega) i
 have A:∀ i,i<szA a.ar->i / 4<szA p/\dig a.ar i=dig p (i / 4)++[((i % 4:Nat):Int)]:=fun i g=>by rw[ea]at g⊢;exact qiX (by omega) g
 have B:∀ k,k<szA b.ar->k % szA q<szA q/\dig b.ar k=[((k / szA q:Nat):Int)]++dig q (k % szA q):=fun k l=>by rw[eb]at l⊢;exact qiY (by omega) l
 have J:∀ i k,i<szA a.ar->k<szA b.ar->i / 4*szA q+k % szA q<szA (p+q)/\(pad (dig a.ar i)).getD (a.ar.toNat-1) 0=((i % 4:Nat):Int)/\(pad (dig b.ar k)).getD 0 0=((k / szA q:Nat):Int)/\conc (pad (dig a.ar i)) a.ar.toNat (pad (dig b.ar k)) b.ar.toNat 1=pad (dig (p+q) (i / 4*szA q+k % szA q)):=fun i k g l=>by
  obtain⟨a1,a2⟩:=A i g;obtain⟨b1,b2⟩:=B k l;have hm:=Xi (p:=p) (q:=q) (by omega) (by omega) (by omega) a1 b1;have l1:=lp (i / 4);have l2:=lq (k % szA q);refine⟨hm.1,?_,?_,?_⟩
  .rw [nR (by omega),a2,show a.ar.toNat-1=(dig p (i / 4)).length by omega];simp
  .rw [nR (by omega),b2];rfl
  .rw [a2,b2,hm.2];exact qiW (by omega) (by omega) (by omega) (by omega)
 refine uW rfl fun j hj=>?_
 rw[vL,yd];show ((qt (szA a.ar)).any fun i=>(qt (szA b.ar)).any fun k=>decide (i / 4*(szA b.ar / 4)+k % (szA b.ar / 4)=j)&&(decide (i % 4=k / (szA b.ar / 4))&&((qn a).2 i&&(qn b).2 k)))=true↔j<szA (a.ar+b.ar-2)/\pad (dig (a.ar+b.ar-2) j)∈v7 a.ar.toNat b.ar.toNat a.ts b.ts;rw[wZ,List.any_eq_true,hn,C];constructor
 .rintro ⟨i,g,h⟩
  obtain⟨k,l,h⟩:=List.any_eq_true.1 h;rw[yk]at g l;rw[qr,qr,qr,decide_eq_true_eq,decide_eq_true_eq,yd,yd]at h;obtain⟨rfl,P,⟨_,h4⟩,_,h5⟩:=h;obtain⟨R,T,U,j4⟩:=J i k g l;exact⟨R,_,_,h4,h5,by rw[T,U,P],j4⟩
 .rintro ⟨h1,x,y,hx,hy,P,e⟩
  obtain⟨i,g,rfl⟩:=Zl ha r hx;obtain⟨k,l,rfl⟩:=Zl hb r hy;obtain⟨R,T,U,j4⟩:=J i k g l;rw[j4]at e;have e2:=Xk (by have:=o (i / 4*szA q+k % szA q);have:=o j;omega) (by have:=o (i / 4*szA q+k % szA q);omega) e;have e3:=Xj (by omega) R h1 e2;rw[T,U]at P;refine⟨i,yk.2 g,List.any_eq_true.2 ⟨k,yk.2 l,?_⟩⟩;rw[qr,qr,qr,decide_eq_true_eq,decide_eq_true_eq,yd,yd];exact⟨e3,by omega,⟨g,hx⟩,l,hy⟩
theorem qi0(C:okKd ns a)(g:ns<=4)(l:a.ar=2):eRS (trS (qn a))=eRS (qn (kTr a)):=by
 refine uW rfl fun j J=>?_
 rw[vL,yd];show (decide (j<16)&&(qn a).2 (j % 4*4+j / 4))=true↔j<16/\pad (dig 2 j)∈uni [] (a.ts.map fun t=>[t.getD 1 0,t.getD 0 0,0]);rw[qr,yd,vq,decide_eq_true_eq,l,szA2];simp only[qI,false_or,qp];constructor
 .rintro ⟨o,P,I⟩
  refine⟨o,_,I,?_⟩;simp[dig,pad];omega
 .rintro ⟨o,t,p,e⟩
  obtain⟨i,r,rfl⟩:=Zl C g p;rw[l,szA2]at r;rw[l]at e p;simp[dig,pad]at e;have:j % 4*4+j / 4=i:=by omega
  rw[this];exact⟨o,r,p⟩
theorem Xl(h:1<=l.length/\l.length<=3)(g:∀ x,x∈l->0<=x/\x<4):eRS (oneS l)=eRS (qn (kOf l)):=by
 refine uW rfl fun j P=>?_
 obtain⟨i,o,e⟩:=nQ (p:=(l.length:Int)) (by omega) rfl g;have r:atF 0 l=i:=by
  match l,h,g,o,e with
  | [x],_,g,o,e =>
   have:=g x (by simp);simp[dig]at e;simp[atF,IntKind.wrap,IntKind.signed,IntKind.bits];omega
  | [x,y],_,g,o,e =>
   have:=g x (by simp);have:=g y (by simp);simp[dig]at e;simp[atF,IntKind.wrap,IntKind.signed,IntKind.bits];omega
  | [x,y,z],_,g,o,e =>
   have:=g x (by simp);have:=g y (by simp);have:=g z (by simp);simp[dig]at e;simp[atF,IntKind.wrap,IntKind.signed,IntKind.bits];omega
 rw[vL,yd];show decide ((j:Int)=atF 0 l)=true↔j<szA (l.length:Int)/\pad (dig (l.length:Int) j)∈[pad l];rw[decide_eq_true_eq,r,qN];have C:=fun j=>Qd (k:=(l.length:Int)) (by omega) j
 constructor
 .intro I
  obtain rfl:j=i:=by omega
  exact⟨o,by rw[<-e]⟩
 .rintro ⟨I,J⟩
  have t:=Xk (by have:=C j;omega) (by have:=C j;omega) J;rw[e]at t;have:=Xj (p:=(l.length:Int)) (by omega) I o (by rw[<-e]at t⊢;exact t);omega
end
end QF
namespace QG
open Y2 P1 P2 PB QE QF
section
variable {k:Kd}{ns:Nat}
def Yx(k:Kd):Kd:=kSum k (zD k k)
def itK:Nat->Kd->Kd
 | 0,k=>k
 |i+1,k=>Yx (itK i k)
theorem qi1(h:okKd ns k)(g:k.ar=2):okKd ns (Yx k)/\(Yx k).ar=2:=
 ⟨Yd h (Yf h h (by omega) (by omega)) (by simp only[zD];omega),g⟩
theorem okIt(h:okKd ns k)(g:k.ar=2):∀ i,okKd ns (itK i k)/\(itK i k).ar=2
 | 0=>⟨h,g⟩
 |i+1=>qi1 (okIt h g i).1 (okIt h g i).2
abbrev Ed(k:Kd)(u v:Int):Prop:=[u,v,0]∈k.ts
theorem VE(h:okKd ns k)(o:k.ar=2){t:Tp}(j:t∈k.ts):∃ u v,t=[u,v,0]/\(0<=u/\u<ns)/\(0<=v/\v<ns):=by
 obtain⟨l,rfl,g,i⟩:=h.ts t j
 match l,g,i with
 | [u,v],_,i=>exact⟨u,v,rfl,i u (by simp),i v (by simp)⟩
 | [],g,_=>simp at g;omega
 | [_],g,_=>simp at g;omega
 |_ :: _ :: _ :: _,g,_=>simp at g;omega
theorem nT(h:okKd ns k)(j:k.ar=2){u v:Int}:[u,v,0]∈(zD k k).ts↔∃ w,Ed k u w/\Ed k w v:=by
 show [u,v,0]∈v7 k.ar.toNat k.ar.toNat k.ts k.ts↔_;rw[QF.wZ,j];constructor
 .rintro ⟨x,y,o,p,g,i⟩
  obtain⟨a,b,rfl,_,_⟩:=VE h j o;obtain⟨c,d,rfl,_,_⟩:=VE h j p;have g:b=c:=g;have i:[a,d,0]=[u,v,0]:=i;injection i with r l;injection l with l _;subst r l g;exact⟨b,o,p⟩
 .rintro ⟨w,g,i⟩
  exact⟨[u,w,0],[w,v,0],g,i,rfl,rfl⟩
theorem Xm(h:okKd ns k)(g:k.ar=2){u v:Int}:Ed (Yx k) u v↔Ed k u v\/∃ w,Ed k u w/\Ed k w v:=by
 unfold Ed Yx;rw[wv,nT h g]
def Path(k:Kd)(n:Nat)(u v:Int):Prop:=∃ f:Nat->Int,f 0=u/\f n=v/\∀ i,i<n->Ed k (f i) (f (i+1))
theorem Path.one{u v:Int}(h:Ed k u v):Path k 1 u v:=⟨fun i=>if i=0 then u else v,rfl,rfl,fun i g=>by
 obtain rfl:i=0:=by omega
 exact h⟩
theorem Path.comp{n m:Nat}{u w v:Int}(h:Path k n u w)(p:Path k m w v):Path k (n+m) u v:=by
 obtain⟨f,f0,fn,hf⟩:=h;obtain⟨g,o,r,t⟩:=p;refine⟨fun i=>if i<n then f i else g (i-n),?_,?_,fun i I=>?_⟩
 .by_cases C:0<n
  .simp [C,f0]
  .have:n=0:=by omega
   subst this;simp[o,<-fn,f0]
 .simp only[if_neg (show ¬n+m<n by omega),Nat.add_sub_cancel_left,r]
 .by_cases j:i+1<n
  .simp only[if_pos j,if_pos (show i<n by omega)];exact hf i (by omega)
  .by_cases l:i<n
   .have e:i+1=n:=by omega
    simp only[if_neg j,if_pos l];have:=hf i l;rw[e,fn]at this;rw[show i+1-n=0 by omega,o];exact this
   .simp only[if_neg j,if_neg l,show i+1-n=(i-n)+1 by omega]
    exact t (i-n) (by omega)
theorem Path.short(h:okKd ns k)(t:k.ar=2)(g:ns<=4):∀(N n:Nat) (u v:Int),n<=N->1<=n->Path k n u v->∃ m,1<=m/\m<=4/\Path k m u v
 | 0,n,u,v,hN,C,_=>by omega
 | N+1,n,u,v,hN,C,I=>by
  by_cases h4:n<=4
  .exact ⟨n,C,h4,I⟩
  obtain⟨f,f0,fn,hf⟩:=I;have hr:∀ i,i<5->0<=f i/\f i<4:=fun i J=>by
   obtain⟨a,b,e,ha,P⟩:=VE h t (hf i (by omega));injection e with R _;omega
  obtain⟨i,j,a0,hj,e⟩:∃ i j,i<j/\j<5/\f i=f j:=by
   apply Classical.byContradiction;intro l;have o:((qt 5).map f).Nodup:=List.pairwise_map.2 (List.pairwise_lt_range.imp_of_mem fun {a b} ha P p e=>l ⟨a,b,p,yk.1 P,e⟩);have:=List.Nodup.length_le_of_subset o (l₂:=[0,1,2,3]) fun x T=>by
    obtain⟨i,J,rfl⟩:=qp.1 T;have:=hr i (yk.1 J);simp;omega
   simp at this
  refine Path.short h t g N (n-(j-i)) u v (by omega) (by omega) ⟨fun x=>if x<i then f x else f (x+(j-i)),?_,?_,fun x T=>?_⟩
  .by_cases h0:0<i
   .simp [h0,f0]
   .have:i=0:=by omega
    subst this;simp[<-e,f0]
  .simp only[if_neg (show ¬n-(j-i)<i by omega),show n-(j-i)+(j-i)=n by omega,fn]
  .by_cases r:x+1<i
   .simp only[if_pos r,if_pos (show x<i by omega)];exact hf x (by omega)
   .by_cases U:x<i
    .have R:x+1=i:=by omega
     simp only[if_neg r,if_pos U];rw[show x+1+(j-i)=j by omega,<-e,<-R];exact hf x (by omega)
    .simp only[if_neg r,if_neg U,show x+1+(j-i)=(x+(j-i))+1 by omega]
     exact hf _ (by omega)
theorem Yy(h:okKd ns k)(g:k.ar=2):∀(i:Nat) (u v:Int),Ed (itK i k) u v->∃ n,1<=n/\Path k n u v
 | 0,u,v,j=>⟨1,by omega,.one j⟩
 |i+1,u,v,j=>by
  rcases (Xm (okIt h g i).1 (okIt h g i).2).1 j with j|⟨w,l,o⟩
  .exact Yy h g i u v j
  .obtain ⟨n,r,p⟩:=Yy h g i u w l
   obtain⟨m,t,q⟩:=Yy h g i w v o;exact⟨n+m,by omega,p.comp q⟩
theorem Zm(i:Nat):Sub (itK i k) (itK (i+1) k):=WY _ _
theorem qi2(h:okKd ns k)(g:k.ar=2){m:Nat}{u v:Int}(p:1<=m)(r:m<=4)(o:Path k m u v):Ed (itK 4 k) u v:=by
 obtain⟨f,rfl,rfl,hf⟩:=o;have up:∀{u v},Ed (itK 2 k) u v->Ed (itK 4 k) u v:=fun i=>(Zm 3).2 _ ((Zm 2).2 _ i)
 have s1:∀{u w v},Ed (itK 0 k) u w->Ed (itK 0 k) w v->Ed (itK 1 k) u v:=fun a b=>(Xm (okIt h g 0).1 (okIt h g 0).2).2 (.inr ⟨_,a,b⟩)
 have j:∀{u w v},Ed (itK 1 k) u w->Ed (itK 1 k) w v->Ed (itK 2 k) u v:=fun a b=>(Xm (okIt h g 1).1 (okIt h g 1).2).2 (.inr ⟨_,a,b⟩)
 have l:∀{u v},Ed (itK 0 k) u v->Ed (itK 1 k) u v:=fun i=>(Zm 0).2 _ i
 refine up ?_;rcases (show m=1\/m=2\/m=3\/m=4 by omega) with rfl|rfl|rfl|rfl
 .exact (Zm 1).2 _ (l (hf 0 (by omega)))
 .exact (Zm 1).2 _ (s1 (hf 0 (by omega)) (hf 1 (by omega)))
 .exact j (s1 (hf 0 (by omega)) (hf 1 (by omega))) (l (hf 2 (by omega)))
 .exact j (s1 (hf 0 (by omega)) (hf 1 (by omega))) (s1 (hf 2 (by omega)) (hf 3 (by omega)))
theorem qi3(h:okKd ns k)(g:k.ar=2)(i:ns<=4):Vv (itK 4 k):=fun t l=>by
 have ok:=okIt h g 4;have j:=Yf ok.1 ok.1 (by rw[ok.2];omega) (by rw[ok.2];omega);obtain⟨u,v,rfl,_,_⟩:=VE j (by simp only[zD];rw[ok.2];rfl) l;obtain⟨w,o,r⟩:=(nT ok.1 ok.2).1 l;obtain⟨n,I,p⟩:=Yy h g 4 u w o;obtain⟨m,J,q⟩:=Yy h g 4 w v r;obtain⟨c,c1,c4,C⟩:=Path.short h g i (n+m) (n+m) u v (qs _) (by omega) (p.comp q);exact qi2 h g c1 c4 C
theorem Yz{S:Kd}(g:Vv S){k:Kd}(h:Sub k S):∀ i,Sub (itK i k) S
 | 0=>h
 |i+1=>⟨(Yz g h i).1,fun t j=>by
  rcases wv.1 j with j|j
  .exact (Yz g h i).2 t j
  .exact g t ((Vu (Yz g h i) (Yz g h i)).2 t j)⟩
theorem nU:∀ i,Sub k (itK i k)
 | 0 => .refl k
 |i+1=>(nU i).trans (Zm i)
theorem qi4(h:okKd ns k)(l:k.ar=2)(g:ns<=4):eRS (qn (itK 4 k))=eRS (qn (kClo k)):=by
 have o:Sub (kClo k) (itK 4 k):=W0 (qi3 h l g) 70 0 k (nU 4);have i:Sub (itK 4 k) (kClo k):=Yz (W3 g 70 0 k h l (by omega) (.inl rfl)) (WZ 70 0 k) 4;refine uW i.1 fun j p=>?_
 rw[vL,yd,yd,i.1];exact⟨fun x=>⟨x.1,i.2 _ x.2⟩,fun x=>⟨x.1,o.2 _ x.2⟩⟩
end
end QG
namespace QH
open YF Y9 Y2 Y3 P1 P2 PB QD QE QF QG
theorem qi5{ns:Nat}{a:Kd}(h:okKd ns a)(I:a.ar=2)(g:ns<=4):qe qc 312 [eRS (qn a)] (eRS (qn (kClo a))):=by
 refine qSQ call312 func312 rfl { mt:=[1] } ?_;rw[<-qi4 h I g];simp[go_sem];refine⟨qT _,?_⟩;refine qk.upK 4 (fun i st=>st.tm 1 = .ptr 0 0/\st.tm 2 = .ptr 1 0/\st.tm 3=aI i/\st.mu=[.arr (cRS (qn (itK i a))),.arr (aI 0 :: hB fun _=>false)]) ?_ ?_
 .exact ⟨by simp[go_sem],by simp[go_sem],by simp[go_sem],by simp[go_sem];exact⟨⟨rfl,rfl⟩,rfl⟩⟩
 rintro i st U ⟨l,o,p,J⟩;by_cases r:i<4
 .have j:(i:Int)<4:=by omega
  have P:qi.wrap ((i:Int)+1)=(i:Int)+1:=qg (by omega) (by omega);obtain⟨ok,o2⟩:=okIt h I i;have R:qe qc 309 [eRS (qn (itK i a)),eRS (qn (itK i a))] (eRS (qn (zD (itK i a) (itK i a)))):=by
   rw[<-nS ok ok g (by omega)];exact VD _ _ (by show 0<=(itK i a).ar/\(itK i a).ar<=1000;omega) (by show 1<=(itK i a).ar/\(itK i a).ar<=1000;omega)
  have T:qe qc 307 [eRS (qn (itK i a)),eRS (qn (zD (itK i a) (itK i a)))] (eRS (qn (itK (i+1) a))):=by
   have:=vr (qn (itK i a)) (qn (zD (itK i a) (itK i a)));rw[Yw (by simp only[zD];omega)]at this;exact this
  generalize t:qn (itK (i+1) a)=s' at *
  generalize qn (zD (itK i a) (itK i a))=q at *
  generalize qn (itK i a)=s at *
  simp[go_sem,p,J,j];refine qm.intro (by kernel_rfl) ?_;simp[go_sem,l,qq,tk];refine qd.pure R (.cons (.hf (zW _)) (.cons (.hf (zW _)) .nil)) ?_;simp[go_sem];refine qd.pure T (.cons (.hf (zW _)) (.cons (.hf (zW _)) .nil)) ?_;simp[go_sem,l,qq,pc];rw[if_pos (qT _)];simp[go_sem,p,P];exact⟨r,Keep.mk' ⟨by simp[go_sem,l],by simp[go_sem,o],by simp[go_sem],by simp[go_sem,t]⟩⟩
 .have C:i=4:=by omega
  subst C;generalize qn (itK 4 a)=s at *
  simp[go_sem,l,o,p,J,qq,tk,pc];rw[if_pos (qT _)];simp[go_sem,o,qq,tk];exact .hf _ (zW s)
theorem qi6(i k:Nat)(g:k=1\/k=2):eRS (qn (kSum (zx i k) (kOf (zt k (i:Int)))))=eRS (qn (zx (i+1) k)):=by
 refine uW rfl fun j l=>?_
 rw[vL,yd,yd];show j<szA (k:Int)/\pad (dig (k:Int) j)∈(kSum (zx i k) (kOf (zt k (i:Int)))).ts↔j<szA (k:Int)/\pad (dig (k:Int) j)∈(qt (i+1)).map fun (x:Nat)=>pad (zt k (x:Int))
 rw[wv,List.range_succ,zg,List.mem_append];rfl
theorem qi7(k:Nat):hB (qn (zx 0 k)).2=hB fun _=>false:=vC fun j _=>decide_eq_false fun h=>absurd h.2 qI
theorem allU(ts:TS)(h:okTS ts)(k:Nat)(R:k=1\/k=2):qe qc 306 [eTS ts,aI k] (eRS (qn (zx ts.sorts.length k))):=by
 refine qSV call306 func306 rfl ?_;have a0:=h.ns;have hz:=qi7 k;simp[go_sem];refine qk.upK ts.sorts.length (fun i st=>st.tm 1=aI k/\st.tm 2 = .ip (cTS ts)/\st.tm 4 = .ptr 0 0/\st.tm 5 = .ptr 1 0/\st.tm 6=aI i/\st.mu=[.arr (aI 0 :: hB fun _=>false),.arr (cRS (qn (zx i k)))]) ?_ ?_
 .exact ⟨by simp[go_sem],by simp[go_sem],by simp[go_sem],by simp[go_sem],by simp[go_sem],by
   have e:cRS (qn (zx 0 k))=aI k :: hB fun _=>false:=by simp only[cRS,hz];rfl
   rw[e];simp[go_sem];first|rfl|exact⟨rfl,rfl⟩⟩
 rintro i st hi ⟨C,r,I,j,o,J⟩;by_cases g:i<ts.sorts.length
 .have T:qi.wrap ((i:Int)+1)=(i:Int)+1:=qg (by omega) (by omega)
  have c1:∀ l:List Int,l=zt k (i:Int)->qe qc 261 [lI l] (eRS (qn (kOf l))):=fun l p=>by
   have U:l.length=k:=by rw[p,List.length_replicate]
   have:=oneU l (by omega);rw[Xg]at this;rw[<-QF.Xl (l:=l) (by omega) (fun x hx=>by rw[p]at hx;rw[List.eq_of_mem_replicate hx];omega)];exact this
  have cu:∀ l:List Int,l=zt k (i:Int)->qe qc 307 [eRS (qn (zx i k)),eRS (qn (kOf l))] (eRS (qn (zx (i+1) k))):=fun l p=>by
   have:=vr (qn (zx i k)) (qn (kOf l));rw[Yw (by show (k:Int)=l.length;rw[p,List.length_replicate]),p,qi6 i k R]at this;rw[p];exact this
  generalize t:qn (zx (i+1) k)=s' at *
  generalize qn (zx i k)=s at *
  rcases R with rfl|rfl
  .have d1:=c1 [(i:Int)] rfl
   have d2:=cu [(i:Int)] rfl;generalize qn (kOf [(i:Int)])=q at *
   simp[go_sem,C,r,o,J,g];refine qm.intro (by kernel_rfl) ?_;simp[go_sem,j,o,qq,tk];refine qd.pure d1 (.cons (QD.wk1 _) .nil) ?_;simp[go_sem];refine qd.pure d2 (.cons (.hf (zW _)) (.cons (.hf (zW _)) .nil)) ?_;simp[go_sem,j,qq,pc];rw[if_pos (qT _)];simp[go_sem,o,T];exact⟨g,Keep.mk' ⟨by simp[go_sem,C],by simp[go_sem,r],by simp[go_sem,I],by simp[go_sem,j],by simp[go_sem],by simp[go_sem,t]⟩⟩
  .have d1:=c1 [(i:Int),(i:Int)] rfl
   have d2:=cu [(i:Int),(i:Int)] rfl;generalize qn (kOf [(i:Int),(i:Int)])=q at *
   simp[go_sem,C,r,o,J,g];refine qm.intro (by kernel_rfl) ?_;simp[go_sem,j,o,qq,tk];refine qd.pure d1 (.cons (QD.wk2 _ _) .nil) ?_;simp[go_sem];refine qd.pure d2 (.cons (.hf (zW _)) (.cons (.hf (zW _)) .nil)) ?_;simp[go_sem,j,qq,pc];rw[if_pos (qT _)];simp[go_sem,o,T];exact⟨g,Keep.mk' ⟨by simp[go_sem,C],by simp[go_sem,r],by simp[go_sem,I],by simp[go_sem,j],by simp[go_sem],by simp[go_sem,t]⟩⟩
 .have P:i=ts.sorts.length:=by omega
  subst P;generalize qn (zx ts.sorts.length k)=s at *
  simp[go_sem,r,I,j,o,J,qq,tk,pc];rw[if_pos (qT _)];simp[go_sem,I,qq,tk];exact .hf _ (zW s)
end QH
namespace QI
open YF Y9 Y10 Y1 Y2 P1 P2
section
variable {nm:ByteArray}
theorem qi8{c:Ck}{k:Nat}(l:k<c.calls)(o:k<c.ts.preds.length)(h:c.ts.preds[k].name=nm)(i:∀(j:Nat) (g:j<c.ts.preds.length),j<k->c.ts.preds[j].name≠nm):zf c nm=some k:=by
 unfold zf;rw[List.findIdx?_eq_some_iff_getElem];refine⟨by simp;omega,by simp[h],fun j g=>?_⟩;simp[i j (by omega) g]
theorem qi9{c:Ck}(i:∀(j:Nat) (g:j<c.ts.preds.length),j<c.calls->c.ts.preds[j].name≠nm):zf c nm=none:=by
 unfold zf;rw[List.findIdx?_eq_none_iff];intro p l;obtain⟨j,g,e⟩:=List.mem_iff_getElem.1 l;simp at g;rw[List.getElem_take]at e;rw[<-e];exact decide_eq_false (i j (by omega) (by omega))
abbrev idxO:Option Nat->Int
 |some i=>i
 |none => -1
theorem YI(c:Ck)(P:okCk c)(nm:ByteArray):qe qc 208 [eTS c.ts,aI c.calls,aS nm] (aI (idxO (zf c nm))):=by
 refine qSV call208 func208 rfl ?_;have R:=P.calls;have T:=P.ts.np;simp[go_sem];refine qk.upK c.calls (fun k st=>st.tm 1=aI c.calls/\st.tm 2=aS nm/\st.tm 3 = .ip (cTS c.ts)/\st.tm 7=aI k/\∀(j:Nat) (p:j<c.ts.preds.length),j<k->c.ts.preds[j].name≠nm) ?_ ?_
 .exact ⟨by simp[go_sem],by simp[go_sem],by simp[go_sem],by simp[go_sem],fun j p h=>by omega⟩
 rintro k st hk ⟨l,r,t,C,I⟩;by_cases g:k<c.calls
 .have U:qi.wrap ((k:Int)+1)=(k:Int)+1:=qg (by omega) (by omega)
  have i:k<c.ts.preds.length:=by omega
  by_cases o:c.ts.preds[k].name=nm
  .rw [qi8 g i o I]
   simp[go_sem,l,r,t,C,g,i,o];exact .hf _ (HF.sc _)
  .simp [go_sem,l,r,t,C,g,i,jO o,U]
   refine Keep.mk' ⟨by simp[go_sem,l],by simp[go_sem,r],by simp[go_sem,t],by simp[go_sem],fun j p a0=>?_⟩;by_cases he:j=k
   .subst he;exact o
   .exact I j p (by omega)
 .have J:k=c.calls:=by omega
  subst J;rw[qi9 I];simp[go_sem,l,C];exact .hf _ (HF.sc _)
theorem Zn(op:Int):qe qc 273 [aI op] (aB (zQ op)):=by
 refine qSV call273 func273 rfl ?_;by_cases g:op=5
 .rw [show zQ op=true by simp[zQ,g]]
  simp[go_sem,g];exact .hf _ (HF.sc _)
 by_cases i:48<=op
 .by_cases j:op<=51
  .rw [show zQ op=true by unfold zQ;rcases (show op=48\/op=49\/op=50\/op=51 by omega) with h|h|h|h<;>simp[h]]
   simp[go_sem,g,i,j];exact .hf _ (HF.sc _)
  .rw [show zQ op=false by simp[zQ,g,show ¬op=48 by omega,show ¬op=49 by omega,show ¬op=50 by omega,show ¬op=51 by omega]]
   simp[go_sem,g,i,j];exact .hf _ (HF.sc _)
 .rw [show zQ op=false by simp[zQ,g,show ¬op=48 by omega,show ¬op=49 by omega,show ¬op=50 by omega,show ¬op=51 by omega]]
  simp[go_sem,g,i];exact .hf _ (HF.sc _)
abbrev rBo(b:Bool):List AV:=[aB b]
abbrev lBo(l:List Bool):AV := .lst false (l.map rBo)
theorem YJ(l:List Bool):HF (lBo l):=HF.lst fun r i c g=>by
 obtain⟨b,_,rfl⟩:=qp.1 i;rw[qN]at g;subst g;exact HF.sc _
def tpB(c:Ck)(nm:ByteArray):Bool:=match zf c nm with|some p=>c.timed.getD p false|none=>false
theorem Zo(c:Ck)(o:okCk c)(nm:ByteArray):qe qc 274 [eTS c.ts,lBo c.timed,aI c.calls,aS nm] (aB (tpB c nm)):=by
 generalize i:tpB c nm=r;unfold tpB at i;refine qSV call274 func274 rfl ?_;simp[go_sem];refine qd.pure (YI c o nm) (.cons (.hf (zq _)) (.cons (.hf (HF.sc _)) (.cons (.hf (HF.sc _)) .nil))) ?_;cases j:zf c nm with
 |none =>
  rw[j]at i;subst i;simp[go_sem,idxO];exact .hf _ (HF.sc _)
 |some p =>
  rw[j]at i;by_cases l:p<c.timed.length
  .have g:r=c.timed[p]:=by rw[<-i];simp[List.getD,l]
   subst g;simp[go_sem,idxO,l];exact .hf _ (HF.sc _)
  .have g:r=false:=by rw[<-i];simp[List.getD,l]
   subst g;simp[go_sem,idxO,l];exact .hf _ (HF.sc _)
theorem nW(c:Ck)(hc:okCk c)(hl:c.timed.length=c.calls):∀(m:Nat) (n:Nd),szN n<=m->Small n->qe qc 279 [eTS c.ts,lBo c.timed,eNd n] (aB (yn c n))
 | 0,n,hm,_=>by obtain⟨op,nm,i,ks,p⟩:=n;simp[szN]at hm
 |m+1,n,hm,hs=>by
  have ih:∀ k,k∈n.kids->qe qc 279 [eTS c.ts,lBo c.timed,eNd k] (aB (yn c k)):=fun k J =>
   nW c hc hl m k (by have:=yx J;omega) (hs.kid J)
  have a0:=hs.len;have P:zK c n.op n.name=(zQ n.op||(decide (n.op=47)&&tpB c n.name)):=rfl;rw[U2,P];generalize hR:n.kids.any (yn c)=R;have ct:=Zn n.op;have cp:=Zo c hc n.name;generalize zQ n.op=T at *
  generalize tpB c n.name=B at *
  refine qSV call279 func279 rfl ?_;simp[go_sem];refine qd.pure ct (.cons (.hf (HF.sc _)) .nil) ?_;cases T with
  |true =>
   simp[go_sem];exact .hf _ (HF.sc _)
  |false =>
  rw[Bool.false_or];by_cases h47:n.op=47
  .rw [decide_eq_true h47,Bool.true_and]
   simp[go_sem,h47,hl];refine qd.pure cp (.cons (.hf (zq _)) (.cons (.hf (YJ _)) (.cons (.hf (HF.sc _)) (.cons (.hf (HF.sc _)) .nil)))) ?_;cases B with
   |true =>
    simp[go_sem];exact .hf _ (HF.sc _)
   |false =>
   rw[Bool.false_or];simp[go_sem];refine qk.upK n.kids.length (fun k st=>st.tm 1=lBo c.timed/\st.tm 3 = .ip (cTS c.ts)/\st.tm 5 = .ip (cNd n)/\st.tm 7=aI k/\(n.kids.drop k).any (yn c)=R) ?_ ?_
   .exact ⟨by simp[go_sem],by simp[go_sem],by simp[go_sem],by simp[go_sem],by simpa using hR⟩
   rintro k st J ⟨t,C,l,o,j⟩;by_cases r:k=n.kids.length
   .subst r
    rw[yH]at j;have j:R=false:=by rw[<-j];rfl
    subst j;simp[go_sem,l,o];exact .hf _ (HF.sc _)
   have g:k<n.kids.length:=by omega
   have U:qi.wrap ((k:Int)+1)=(k:Int)+1:=qg (by omega) (by omega);rw[zG g,List.any_cons]at j;have hi:=ih n.kids[k] (qy g);simp[go_sem,l,o,g];refine qm.intro (by kernel_rfl) ?_;simp[go_sem,t,C,l,o,g];refine qd.pure hi (.cons (.hf (zq _)) (.cons (.hf (YJ _)) (.cons (.hf (ze _)) .nil))) ?_;cases I:yn c n.kids[k] with
   |true =>
    rw[I,Bool.true_or]at j;subst j;simp[go_sem];exact .hf _ (HF.sc _)
   |false =>
    rw[I,Bool.false_or]at j;simp[go_sem,o,g,U];exact Keep.mk' ⟨by simp[go_sem,t],by simp[go_sem,C],by simp[go_sem,l],by simp[go_sem],j⟩
  .rw [decide_eq_false h47,Bool.false_and,Bool.false_or]
   simp[go_sem,h47];refine qk.upK n.kids.length (fun k st=>st.tm 1=lBo c.timed/\st.tm 3 = .ip (cTS c.ts)/\st.tm 5 = .ip (cNd n)/\st.tm 7=aI k/\(n.kids.drop k).any (yn c)=R) ?_ ?_
   .exact ⟨by simp[go_sem],by simp[go_sem],by simp[go_sem],by simp[go_sem],by simpa using hR⟩
   rintro k st J ⟨t,C,l,o,j⟩;by_cases r:k=n.kids.length
   .subst r
    rw[yH]at j;have j:R=false:=by rw[<-j];rfl
    subst j;simp[go_sem,l,o];exact .hf _ (HF.sc _)
   have g:k<n.kids.length:=by omega
   have U:qi.wrap ((k:Int)+1)=(k:Int)+1:=qg (by omega) (by omega);rw[zG g,List.any_cons]at j;have hi:=ih n.kids[k] (qy g);simp[go_sem,l,o,g];refine qm.intro (by kernel_rfl) ?_;simp[go_sem,t,C,l,o,g];refine qd.pure hi (.cons (.hf (zq _)) (.cons (.hf (YJ _)) (.cons (.hf (ze _)) .nil))) ?_;cases I:yn c n.kids[k] with
   |true =>
    rw[I,Bool.true_or]at j;subst j;simp[go_sem];exact .hf _ (HF.sc _)
   |false =>
    rw[I,Bool.false_or]at j;simp[go_sem,o,g,U];exact Keep.mk' ⟨by simp[go_sem,t],by simp[go_sem,C],by simp[go_sem,l],by simp[go_sem],j⟩
theorem Xn(l:List Bool):zj 1 (l.map rBo):=fun r g=>by
 obtain⟨b,_,rfl⟩:=qp.1 g;exact⟨rfl,rfl⟩
theorem appBo{mu:Mu}{lo:Nat}{s:AV}{xs:List Bool}{b:Bool}{K:AV->Mu->Prop}(g:OwnF lo mu 1 s (xs.map rBo))(t:xs.length<=100000)(o:∀ av l,OwnF lo l 1 av ((xs++[b]).map rBo)->(∀ i,i<lo->l[i]?=mu[i]?)->K av l) :
  qD qc mu #[89,89] s (.lst true [[aB b]]) K:=by
 refine qD.ownF (lo:=lo) (e:=4) (sz:=1) (bt:=1) (zv:=aB false) (xs:=xs.map rBo) (ys:=[rBo b]) (by simp[go_sem]) (by simp[go_sem]) (by simp[go_sem]) rfl rfl (by omega) (by omega) g (by simp[qM]) (Xn xs) (Xn [b]) (by simp;omega) ?_;intro av l h r;exact o av l (by rw[zg];exact h) r
theorem rdBo{lo:Nat}{mu:Mu}{av:AV}{l:List Bool}(i:OwnF lo mu 1 av (l.map rBo)):Rd mu av (lBo l):=
 Own.rd (sz:=1) i.1 (Xn l).ok fun r j c g=>by
  obtain⟨b,_,rfl⟩:=qp.1 j;rw[qN]at g;subst g;exact HF.sc _
theorem qjA(ts:TS)(h:okTS ts)(T:∀ p,p∈ts.preds->WfN p.body):qe qc 234 [eTS ts] (lBo (tmsL ts ts.preds.length)):=by
 refine qSV call234 func234 rfl ?_;have U:=h.np;simp[go_sem];refine qk.upK ts.preds.length (fun k st=>st.tm 1 = .ip (cTS ts)/\st.tm 4=aI k/\OwnF 0 st.mu 1 (st.tm 3) ((tmsL ts k).map rBo)) ?_ ?_
 .exact ⟨by simp[go_sem],by simp[go_sem],by simp[go_sem,tmsL];exact OwnF.nil (Nat.zero_le _)⟩
 rintro k st hk ⟨j,l,o⟩;by_cases g:k<ts.preds.length
 .have w1:qi.wrap ((k:Int)+1)=(k:Int)+1:=qg (by omega) (by omega)
  generalize r:st.tm 3=P at *
  have t:=rdBo o;have ht:=nW (mkCk ts k) (uN h (by omega)) (Q0 ts k (by omega)) (szN ts.preds[k].body) ts.preds[k].body (qs _) (T _ (qy g)).small;have R:=Q0 ts k (by omega);have i:tmsL ts (k+1)=tmsL ts k++[yn (mkCk ts k) ts.preds[k].body]:=by
   show tmsL ts k++(match ts.preds[k]? with|some p=>[yn ⟨ts,k,tmsL ts k⟩ p.body] | none=>[])=_;rw[qz g];rfl
  simp[go_sem,j,l,g];refine qm.intro (by kernel_rfl) ?_;simp[go_sem,j,l,r,g];refine qd.lend (args':=[eTS ts,lBo (tmsL ts k),eNd ts.preds[k].body]) ht ⟨.hf _ (zq ts),t,.hf _ (ze _),trivial⟩ (FL.sc _) ?_;simp[go_sem];refine appBo o (by omega) fun a0 m' I _=>?_
  simp[go_sem,l,g,w1];exact Keep.mk' ⟨by simp[go_sem,j],by simp[go_sem],by rw[i];simpa[go_sem] using I⟩
 .have J:k=ts.preds.length:=by omega
  subst J;generalize r:st.tm 3=P at *
  simp[go_sem,j,l,r];exact rdBo o
end
end QI
namespace QJ
open YF Y1 P1 QD QE QF
abbrev Vr:=ByteArray×RS
abbrev cVr(v:Vr):List AV:=aS v.1 :: cRS v.2
abbrev lVr(l:List Vr):AV := .lst false (l.map cVr)
theorem nX(v:Vr):∀ c,c∈cVr v->HF c:=fun c g=>by
 rcases qw.1 g with rfl|g
 .exact HF.sc _
 .exact ((setC v.2).sc c g).2
theorem qjB(l:List Vr):HF (lVr l):=HF.lst fun r g c i=>by
 obtain⟨v,_,rfl⟩:=qp.1 g;exact nX v c i
theorem Xo(v:Vr):∀ c,c∈cVr v->c.one=true:=fun c g=>by
 rcases qw.1 g with rfl|g
 .rfl
 .exact ((setC v.2).sc c g).1
theorem Xp(l:List Vr):zj 66 (l.map cVr):=fun r g=>by
 obtain⟨v,_,rfl⟩:=qp.1 g;exact⟨by simp[hB],qH.2 (Xo v)⟩
theorem Xq{mu:Mu}{lo:Nat}{s x:AV}{xs ys:List Vr}{K:AV->Mu->Prop}(g:OwnF lo mu 66 s (xs.map cVr))(j:qM mu x=some (ys.map cVr))(t:xs.length+ys.length<=100000)(o:∀ av l,OwnF lo l 66 av ((xs++ys).map cVr)->(∀ i,i<lo->l[i]?=mu[i]?)->K av l) :
  qD qc mu #[306,306] s x K:=by
 refine qD.ownF (lo:=lo) (e:=348) (sz:=66) (bt:=88) (zv := .agg (aS ⟨#[]⟩ :: aI 0 :: zs)) (xs:=xs.map cVr) (ys:=ys.map cVr) (by simp[go_sem]) (by simp[go_sem]) (by simp[go_sem];rfl) rfl rfl (by omega) (by omega) g j (Xp xs) (Xp ys) (by simp;omega) ?_;intro av l h r;exact o av l (by rw[zg];exact h) r
theorem rdVr{lo:Nat}{mu:Mu}{av:AV}{l:List Vr}(g:OwnF lo mu 66 av (l.map cVr)):Rd mu av (lVr l):=
 Own.rd (sz:=66) g.1 (Xp l).ok fun r i c j=>by
  obtain⟨v,_,rfl⟩:=qp.1 i;exact nX v c j
theorem pcV(n:ByteArray)(q:RS):putCells (aS n :: aI 0 :: zs) 1 (aI q.1 :: hB q.2)=cVr (n,q):=by
 have g:zs.length=64:=rfl;rw[yu _ _ _ (by simp[qq,g])];simp[qq,g,List.drop_of_length_le]
def envV(env:List (ByteArray×Int)):List Vr:=env.map fun p=>(p.1,qn (kOf [p.2]))
theorem envU(env:List (ByteArray×Int))(hl:env.length<=1000)(hr:∀ p,p∈env->0<=p.2/\p.2<4):qe qc 235 [lPm env] (lVr (envV env)):=by
 refine qSV call235 func235 rfl ?_;simp[go_sem];refine qk.upK env.length (fun k st=>st.tm 0=lPm env/\st.tm 4=aI k/\OwnF 0 st.mu 66 (st.tm 3) ((envV (env.take k)).map cVr)) ?_ ?_
 .exact ⟨by simp[go_sem],by simp[go_sem],by simp[go_sem,envV];exact OwnF.nil (Nat.zero_le _)⟩
 rintro k st hk ⟨o,r,t⟩;by_cases g:k<env.length
 .have w1:qi.wrap ((k:Int)+1)=(k:Int)+1:=qg (by omega) (by omega)
  generalize I:st.tm 3=P at *
  have hp:=hr _ (qy g);have c1:qe qc 261 [lI [env[k].2]] (eRS (qn (kOf [env[k].2]))):=by
   have:=oneU [env[k].2] (by simp);rw[Xg]at this;rw[<-QF.Xl (l:=[env[k].2]) (by simp) (fun x hx=>by rw[qN]at hx;subst hx;exact hp)];exact this
  have i:envV (env.take (k+1))=envV (env.take k)++[(env[k].1,qn (kOf [env[k].2]))]:=by
   unfold envV;rw[jH g,zg];rfl
  have a1:(envV (env.take k)).length=k:=by simp[envV];omega
  generalize qn (kOf [env[k].2])=q at *
  simp[go_sem,o,r,g];refine qm.intro (by kernel_rfl) ?_;simp[go_sem,o,r,I,g];refine qd.pure c1 (.cons (QD.wk1 _) .nil) ?_;simp[go_sem];rw[if_pos ⟨qq _,qT _⟩];generalize hC:putCells _ 1 _=C;have J:C=cVr (env[k].1,q):=by rw[<-hC];exact pcV _ _
  subst J;clear hC;have R:(cVr (env[k].1,q)).length=66:=by simp[qq]
  have T:=Xo (env[k].1,q);generalize hV:cVr (env[k].1,q)=V at *
  simp[go_sem,R];rw[if_pos T];simp[go_sem];refine Xq (ys:=[(env[k].1,q)]) t (by simp[qM,hV]) (by simp;omega) fun a2 m' U _=>?_
  simp[go_sem,r,g,w1];exact Keep.mk' ⟨by simp[go_sem,o],by simp[go_sem],by rw[i];simpa[go_sem] using U⟩
 .have a0:k=env.length:=by omega
  subst a0;rw[q8]at t;generalize I:st.tm 3=P at *
  simp[go_sem,o,r,I];exact rdVr t
end QJ
namespace QK
open Y9 Y2 P1 QD QE QF
def fin(c:List AV)(l:List Kd):List AV:=match l.getLast? with|some k=>cRS (qn k)|none=>c
theorem YK(c:List AV)(l m:List Kd):fin c (l++m)=fin (fin c l) m:=by
 unfold fin;rw[List.getLast?_append];cases m.getLast?<;>rfl
theorem VF(c:List AV)(k:Kd):fin c [k]=cRS (qn k):=rfl
theorem oneK{l:List Int}(h:1<=l.length/\l.length<=3)(g:∀ x,x∈l->0<=x/\x<4):oneC l=cRS (qn (kOf l)):=by
 rw[Xg];exact AV.agg.inj (QF.Xl h g)
theorem nY(nm:ByteArray):∀(l:List Fld) (c:List AV) (k:Nat),(∀ f,f∈l->(1<=f.sorts.length/\f.sorts.length<=3)/\∀ x,x∈f.sorts->0<=x/\x<4)->nmF nm l (c,k)=(fin c (j7 l nm),k+(j7 l nm).length)
 | [],c,k,_=>rfl
 |f :: l,c,k,h=>by
  have hf:=h f (qU ..);have j:=fun c k=>nY nm l c k fun g o=>h g (qO _ o)
  by_cases i:f.name=nm
  .have e:j7 (f :: l) nm=[kOf f.sorts]++j7 l nm:=by simp[j7,i]
   rw[e,YK,VF];simp only[nmF,stF,if_pos i];rw[j,oneK hf.1 hf.2];simp;omega
  .have e:j7 (f :: l) nm=j7 l nm:=by simp[j7,i]
   rw[e];simp only[nmF,stF,if_neg i];exact j c k
theorem st_eq(nm:ByteArray)(i:Nat)(C:i<4)(x:ByteArray×Bool)(c:List AV)(k:Nat):st3 nm i x (st2 nm i x (st1 nm i x (c,k)))=(fin c (wX i x nm),k+(wX i x nm).length):=by
 have j:=oneK (l:=[(i:Int)]) (by simp) (fun y g=>by simp at g;subst g;omega);have o:=oneK (l:=[(i:Int),(i:Int)]) (by simp) (fun y g=>by simp at g;rcases g with rfl|rfl<;>omega);have p:∀ c k,st1 nm i x (c,k)=(fin c (if x.1=nm then [kOf [(i:Int)]] else []),k+(if x.1=nm then [kOf [(i:Int)]] else []).length):=fun c k=>by
  unfold st1;split
  .rw [VF,j];rfl
  .rfl
 have r:∀ c k,st2 nm i x (c,k)=(fin c (if x.2=true/\x.1++uI=nm then [kOf [(i:Int)]] else []),k+(if x.2=true/\x.1++uI=nm then [kOf [(i:Int)]] else []).length):=fun c k=>by
  unfold st2;split
  .rw [VF,j];rfl
  .rfl
 have t:∀ c k,st3 nm i x (c,k)=(fin c (if x.2=true/\x.1++uJ=nm then [kOf [(i:Int),(i:Int)]] else []),k+(if x.2=true/\x.1++uJ=nm then [kOf [(i:Int),(i:Int)]] else []).length):=fun c k=>by
  unfold st3;split
  .rw [VF,o];rfl
  .rfl
 unfold wX;rw[p,r,t,YK,YK,qX,qX];simp only[Nat.add_assoc]
theorem nZ(nm:ByteArray):∀(l:List (ByteArray×Bool)) (i:Nat) (c:List AV) (k:Nat),i+l.length<=4->nmS nm i l (c,k)=(fin c (ua i l nm),k+(ua i l nm).length)
 | [],i,c,k,_=>rfl
 |x :: l,i,c,k,h=>by
  simp only[zu]at h;have g:=fun c k=>nZ nm l (i+1) c k (by omega)
  simp only[nmS,ua];rw[st_eq nm i (by omega),g,YK,qX,Nat.add_assoc]
theorem Xr{ts:TS}(h:okTS ts)(nm:ByteArray):named ts nm=(fin (aI 0 :: zs) (means ts nm),(means ts nm).length):=by
 unfold named means;rw[nY nm ts.fields _ _ fun f hf=>?_,nZ nm ts.sorts _ _ _ (by have:=h.ns;omega),YK,qX,yf];have:=h.fl f hf;have g:=h.ns;exact⟨by omega,fun x i=>by have:=this.2.2 x i;omega⟩
end QK
namespace QL
open YF Y9 Y1 Y2 P1 QD QE QF QI QJ QK
abbrev cVw(c:Ck)(inn:Bool):List AV:=[lSo c.ts.sorts,lFl c.ts.fields,lPd c.ts.preds,lFa c.ts.facts,lBo c.timed,aI c.calls,aB inn]
abbrev eVw(c:Ck)(inn:Bool):AV := .agg (cVw c inn)
def envS(s:Scp):List Vr:=s.reverse.map fun v=>(v.1,qn v.2)
theorem VG(s:Scp):(envS s).length=s.length:=by simp[envS]
theorem n6(env:List (ByteArray×Int)):envV env=envS (yP env):=by
 have h:∀(l:List (ByteArray×Int)) (a:Scp),l.foldl (fun s p=>(p.1,kOf [p.2]) :: s) a=(l.map fun p=>(p.1,kOf [p.2])).reverse++a:=by
  intro l;induction l with
  |nil=>intro a;rfl
  |cons p l g=>intro a;rw[List.foldl_cons,g];simp
 unfold envV envS yP;rw[h,zO,List.reverse_reverse,List.map_map];rfl
theorem qjC(s:Scp)(d:Nat)(h:d<s.length)(g:s.length-1-d<(envS s).length):(envS s)[s.length-1-d]=(s[d].1,qn s[d].2):=by
 have e:s.length-1-(s.length-1-d)=d:=by omega
 simp[envS,List.getElem_reverse,e]
abbrev zR:RS:=(0,fun _=>false)
abbrev eDg(d:Dg):AV := .agg [aI d.1,aI d.2]
def endR(z:RS):Res->AV
 | .error e => .tup [eRS z,eDg e]
 | .ok (some k) => .tup [eRS (qn k),eDg (0,0)]
 | .ok none => .tup [eRS zR,eDg (0,0)]
theorem ju(s:RS)(d:Dg):HF (.tup [eRS s,eDg d]):=HF.tup fun x g=>by
 rcases qw.1 g with rfl|g
 .exact zW s
 .rw [qN]at g;subst g
  exact HF.agg fun c i=>by
   rcases qw.1 i with rfl|i
   .exact HF.sc _
   .rw [qN]at i;subst i;exact HF.sc _
theorem okNm.ofTS{ts:TS}(h:okTS ts):okNm ts:=⟨h.sl,by have:=h.ns;omega,by have:=h.nf;omega,fun f hf=>by have:=h.fl f hf;omega⟩
theorem nameU(c:Ck)(hc:okCk c)(inn:Bool)(s:Scp)(n:Nd)(hs:s.length<=100000):qe qc 275 [eVw c inn,lVr (envS s),eNd n] (endR zR (yY c s n.name n.pos)):=by
 generalize i:endR zR (yY c s n.name n.pos)=R;unfold yY at i;refine qSV call275 func275 rfl ?_;have a0:=VG s;have w0:qi.wrap ((s.length:Int)-1)=(s.length:Int)-1:=qg (by omega) (by omega);simp[go_sem,a0,w0];refine qk.upK s.length (fun d st=>st.tm 1=lVr (envS s)/\st.tm 3 = .ip (cVw c inn)/\st.tm 5 = .ip (cNd n)/\st.tm 6 = .ptr 0 0/\st.tm 7 = .ptr 1 0/\st.tm 8=aI ((s.length:Int)-1-d)/\st.mu=[.arr (aI 0 :: hB fun _=>false),.arr [aI 0,aI 0]]/\jE n.name (s.drop d)=jE n.name s) ?_ ?_
 .exact ⟨by simp[go_sem],by simp[go_sem],by simp[go_sem],by simp[go_sem],by simp[go_sem],by simp[go_sem],by simp[go_sem];first|rfl|exact⟨rfl,rfl⟩,rfl⟩
 rintro d st hd ⟨e1,e3,r,p,I,j,hm,t⟩;by_cases J:d<s.length
 .have T:s.length-1-d<(envS s).length:=by omega
  have g:=qjC s d J T;obtain⟨e,he⟩:∃ e:Nat,e=s.length-1-d:=⟨_,rfl⟩;have a1:(s.length:Int)-1-d=(e:Int):=by omega
  rw[a1]at j;rw[<-he]at T;have g:(envS s)[e]=(s[d].1,qn s[d].2):=by simp only[he];exact g
  have w1:qi.wrap ((e:Int)-1)=(s.length:Int)-1-((d+1:Nat):Int):=by rw[qg (by omega) (by omega)];omega
  rw[zG J]at t;have h0:(0:Int)<=(e:Int):=by omega
  by_cases hq:s[d].1=n.name
  .have hf:jE n.name s=s[d] :: s.drop (d+1):=by rw[<-t,jE,if_pos hq]
   rw[hf]at i;simp only[endR]at i;have i:R = .tup [eRS (qn s[d].2),eDg (0,0)]:=i.symm;subst i;simp[go_sem,j,hm];refine qm.intro (by kernel_rfl) ?_;simp[go_sem,e1,j,T,g,hq];generalize qn s[d].2=q at *
   simp[go_sem,e1,r,p,j,T,g,qq,tk,pc];rw[if_pos (qT _)];simp[go_sem,p,I,qq,tk];exact .hf _ (ju q (0,0))
  .rw [jE,if_neg hq]at t
   simp[go_sem,j,hm];refine qm.intro (by kernel_rfl) ?_;simp[go_sem,e1,r,j,T,g,jO hq,w1,qq];exact⟨by omega,Keep.mk' ⟨by simp[go_sem,e1],by simp[go_sem,e3],by simp[go_sem,r],by simp[go_sem,p],by simp[go_sem,I],by simp[go_sem],by simp[go_sem],t⟩⟩
 .have a2:d=s.length:=by omega
  subst a2;have j:st.tm 8=aI (-1):=by rw[j];congr 2;omega
  rw[yH]at t;rw[<-t]at i;simp only[jE]at i;have hN:=Xf c.ts (okNm.ofTS hc.ts) n.name;have U:=Xe c.ts n.name;rw[Xr hc.ts]at hN U;simp[go_sem,e3,r,j,hm];refine qd.pure hN (.cons (.hf (zq _)) (.cons (.hf (HF.sc _)) .nil)) ?_;have o:SetC (fin (aI 0 :: zs) (means c.ts n.name)):=U;generalize a3:means c.ts n.name=ms at *
  match ms,a3 with
  | [],_ =>
   simp only[endR]at i;subst i;generalize fin (aI 0 :: zs) []=C at *
   simp[go_sem,o.len];rw[if_pos o.one];simp[go_sem];refine qm.seg [0,1,2,3,4,5] [(0,0,[]),(1,0,[]),(2,0,[]),(3,0,[]),(4,1,[2]),(5,1,[])] (by kernel_rfl) (by kernel_rfl) (by simp[go_sem]) ?_;simp[go_sem,r,p,I,kn,qq];exact .hf _ (ju zR (_,n.pos))
  | [k],_ =>
   simp only[endR]at i;subst i;have e:fin (aI 0 :: zs) [k]=aI (qn k).1 :: hB (qn k).2:=rfl;rw[e]at o⊢;generalize qn k=q at *
   simp[go_sem,o.len];rw[if_pos (qT _)];generalize hP:putCells _ 0 (aI q.1 :: hB q.2)=P;have a4:P=aI q.1 :: hB q.2:=by rw[<-hP];exact pc (aI 0) _ (fun _=>false) _
   subst a4;clear hP;simp[go_sem,p,o.len,qq,tk,pc];rw[if_pos (qT _)];simp[go_sem,p,I,o.len,tk];exact .hf _ (ju q (0,0))
  |k1 :: k2 :: l,_ =>
   simp only[endR]at i;subst i;generalize fin (aI 0 :: zs) (k1 :: k2 :: l)=C at *
   simp[go_sem,o.len];rw[if_pos o.one];simp[go_sem];have a5:¬((l.length:Int)+1+1=0):=by omega
   have a6:(1:Int)<(l.length:Int)+1+1:=by omega
   simp[go_sem,a5,a6];refine qm.seg [0,1,2,3,4,5] [(0,0,[]),(1,0,[]),(2,0,[]),(3,0,[]),(4,1,[2]),(5,1,[])] (by kernel_rfl) (by kernel_rfl) (by simp[go_sem]) ?_;simp[go_sem,r,p,I,kn,qq];exact .hf _ (ju zR (_,n.pos))
end QL
namespace QM
open Y1
theorem qjD(n:Nd):qe qc 232 [eNd n] (aB (decide (30<=n.op))):=by
 refine qSV call232 func232 rfl ?_;by_cases h:30<=n.op
 .simp [go_sem,h];exact .hf _ (HF.sc _)
 .simp [go_sem,h];exact .hf _ (HF.sc _)
end QM
namespace QN
open Y1 Y2 YF Y9 P1 P2 QD QE QF QH QL
def setO:Option Kd->RS
 |some k=>qn k
 |none=>zR
abbrev lRS(l:List RS):AV := .lst false (l.map cRS)
theorem qjE(v:RS):∀ c,c∈cRS v->HF c:=fun c g=>((setC v).sc c g).2
theorem qjF(v:RS):∀ c,c∈cRS v->c.one=true:=fun c g=>((setC v).sc c g).1
theorem Xs(l:List RS):zj 65 (l.map cRS):=fun r g=>by
 obtain⟨v,_,rfl⟩:=qp.1 g;exact⟨by simp[hB],qH.2 (qjF v)⟩
theorem appRS{mu:Mu}{lo:Nat}{s x:AV}{xs ys:List RS}{K:AV->Mu->Prop}(g:OwnF lo mu 65 s (xs.map cRS))(j:qM mu x=some (ys.map cRS))(t:xs.length+ys.length<=100000)(o:∀ av l,OwnF lo l 65 av ((xs++ys).map cRS)->(∀ i,i<lo->l[i]?=mu[i]?)->K av l) :
  qD qc mu #[343,343] s x K:=by
 refine qD.ownF (lo:=lo) (e:=273) (sz:=65) (bt:=72) (zv := .agg (aI 0 :: zs)) (xs:=xs.map cRS) (ys:=ys.map cRS) (by simp[go_sem]) (by simp[go_sem]) (by simp[go_sem];rfl) rfl rfl (by omega) (by omega) g j (Xs xs) (Xs ys) (by simp;omega) ?_;intro av l h r;exact o av l (by rw[zg];exact h) r
theorem rdRS{lo:Nat}{mu:Mu}{av:AV}{l:List RS}(g:OwnF lo mu 65 av (l.map cRS)):Rd mu av (lRS l):=
 Own.rd (sz:=65) g.1 (Xs l).ok fun r i c j=>by
  obtain⟨v,_,rfl⟩:=qp.1 i;exact qjE v c j
theorem y7(s:RS)(b:Bool):HF (.tup [eRS s,aB b]):=HF.tup fun x g=>by
 rcases qw.1 g with rfl|g
 .exact zW s
 .rw [qN]at g;subst g;exact HF.sc _
def ApE(op:Int):Res->RS->Bool->Prop
 | .ok k,S,b=>b=true/\(kd op=101->∃ q,k=some q/\S=qn q)
 | .error _,S,b=>b=false
theorem wkS1(a:RS):WKs [eRS a] [eRS a] := .cons (.hf (zW _)) .nil
theorem wkS2(a b:RS):WKs [eRS a,eRS b] [eRS a,eRS b] := .cons (.hf (zW _)) (.cons (.hf (zW _)) .nil)
theorem wkTI(ts:TS)(k:Int):WKs [eTS ts,aI k] [eTS ts,aI k] := .cons (.hf (zq _)) (.cons (.hf (HF.sc _)) .nil)
theorem n7(n:Int):eRS (n,fun _=>false)=eRS (qn ⟨n,[]⟩):=uW rfl fun j _=>(decide_eq_false fun h=>absurd h.2 qI).symm
def itS:Nat->RS->RS
 | 0,s=>s
 |i+1,s=>uniS (itS i s) (Qc (itS i s) (itS i s))
theorem n8(s:RS):∀ i,(itS i s).1=s.1
 | 0=>rfl
 |i+1=>n8 s i
theorem n9(g:RS)(h:1<=g.1/\g.1<=3):qe qc 312 [eRS g] (eRS (itS 4 g)):=by
 refine qSQ call312 func312 rfl { mt:=[1] } ?_;simp[go_sem];refine⟨qT _,?_⟩;refine qk.upK 4 (fun i st=>st.tm 1 = .ptr 0 0/\st.tm 2 = .ptr 1 0/\st.tm 3=aI i/\st.mu=[.arr (cRS (itS i g)),.arr (aI 0 :: hB fun _=>false)]) ?_ ?_
 .exact ⟨by simp[go_sem],by simp[go_sem],by simp[go_sem],by simp[go_sem];exact⟨⟨rfl,rfl⟩,rfl⟩⟩
 rintro i st hi ⟨l,o,p,I⟩;by_cases r:i<4
 .have j:(i:Int)<4:=by omega
  have R:qi.wrap ((i:Int)+1)=(i:Int)+1:=qg (by omega) (by omega);have T:=n8 g i;have U:=VD (itS i g) (itS i g) (by omega) (by omega);have J:=vr (itS i g) (Qc (itS i g) (itS i g));have P:uniS (itS i g) (Qc (itS i g) (itS i g))=itS (i+1) g:=rfl;rw[P]at J;clear P;generalize t:itS (i+1) g=s' at *
  generalize Qc (itS i g) (itS i g)=q at *
  generalize itS i g=s at *
  simp[go_sem,p,I,j];refine qm.intro (by kernel_rfl) ?_;simp[go_sem,l,qq,tk];refine qd.pure U (.cons (.hf (zW _)) (.cons (.hf (zW _)) .nil)) ?_;simp[go_sem];refine qd.pure J (.cons (.hf (zW _)) (.cons (.hf (zW _)) .nil)) ?_;simp[go_sem,l,qq,pc];rw[if_pos (qT _)];simp[go_sem,p,R];exact⟨r,Keep.mk' ⟨by simp[go_sem,l],by simp[go_sem,o],by simp[go_sem],by simp[go_sem,t]⟩⟩
 .have C:i=4:=by omega
  subst C;generalize itS 4 g=s at *
  simp[go_sem,l,o,p,I,qq,tk,pc];rw[if_pos (qT _)];simp[go_sem,o,qq,tk];exact .hf _ (zW s)
def prC(ts:TS)(n:Nd)(l:List RS)(S:RS)(b:Bool):Prop:=qe qc 278 [eTS ts,eNd n,lRS l] (.tup [eRS S,aB b])
theorem ap2(ts:TS)(n:Nd)(L:List RS)(h:n.op=2):prC ts n L (n.n,fun _=>false) true:=by
 unfold prC;refine qSV call278 func278 rfl ?_;simp[go_sem,h];exact .hf _ (y7 (n.n,fun _=>false) true)
theorem ap3(ts:TS)(ok:okTS ts)(n:Nd)(L:List RS)(h:n.op=3):prC ts n L (qn (zx ts.sorts.length 1)) true:=by
 unfold prC;refine qSV call278 func278 rfl ?_;have c1:=allU ts ok 1 (by omega);generalize qn (zx ts.sorts.length 1)=q at *
 simp[go_sem,h];refine qd.pure c1 (wkTI ts 1) ?_;simp[go_sem,qq];rw[if_pos (qT _)];generalize i:putCells _ 0 (aI q.1 :: hB q.2)=P;have g:P=aI q.1 :: hB q.2:=by rw[<-i];exact pc (aI 0) _ (fun _=>false) _
 subst g;clear i;simp[go_sem,qq,tk];exact .hf _ (y7 q _)
theorem ap4(ts:TS)(ok:okTS ts)(n:Nd)(L:List RS)(h:n.op=4):prC ts n L (qn (zx ts.sorts.length 2)) true:=by
 unfold prC;refine qSV call278 func278 rfl ?_;have c1:=allU ts ok 2 (by omega);generalize qn (zx ts.sorts.length 2)=q at *
 simp[go_sem,h];refine qd.pure c1 (wkTI ts 2) ?_;simp[go_sem,qq];rw[if_pos (qT _)];generalize i:putCells _ 0 (aI q.1 :: hB q.2)=P;have g:P=aI q.1 :: hB q.2:=by rw[<-i];exact pc (aI 0) _ (fun _=>false) _
 subst g;clear i;simp[go_sem,qq,tk];exact .hf _ (y7 q _)
theorem ap5(ts:TS)(n:Nd)(q:RS)(h:n.op=5):prC ts n [q] q true:=by
 unfold prC;refine qSV call278 func278 rfl ?_;simp[go_sem,h,qq,tk];rw[if_pos (qT _)];generalize i:putCells _ 0 (aI q.1 :: hB q.2)=P;have g:P=aI q.1 :: hB q.2:=by rw[<-i];exact pc (aI 0) _ (fun _=>false) _
 subst g;clear i;simp[go_sem,qq,tk];exact .hf _ (y7 q _)
theorem ap6(ts:TS)(n:Nd)(q r S:RS)(h:n.op=6)(c:qe qc 307 [eRS q,eRS r] (eRS S)):prC ts n [q,r] S (decide (q.1=r.1)):=by
 unfold prC;refine qSV call278 func278 rfl ?_;simp[go_sem,h];refine qm.seg [0,1,2,3,4,5,7,8,9,10,11,12,13,14,15,17,6,16] [(0,0,[]),(1,0,[]),(2,0,[]),(3,0,[]),(4,0,[]),(5,0,[]),(7,0,[]),(8,0,[]),(9,0,[]),(10,0,[]),(11,0,[]),(12,0,[]),(13,0,[]),(14,0,[]),(15,0,[]),(17,0,[]),(6,1,[10,14]),(16,1,[10,14])] (by kernel_rfl) (by kernel_rfl) (by simp[go_sem]) ?_;simp[go_sem,qq,tk];refine qd.pure c (wkS2 q r) ?_;simp[go_sem,qq];rw[if_pos (qT _)];generalize i:putCells _ 0 (aI S.1 :: hB S.2)=P;have g:P=aI S.1 :: hB S.2:=by rw[<-i];exact pc (aI 0) _ (fun _=>false) _
 subst g;clear i;simp[go_sem,qq,tk];exact .hf _ (y7 S _)
theorem ap14(ts:TS)(n:Nd)(q r S:RS)(h:n.op=14)(c:qe qc 307 [eRS q,eRS r] (eRS S)):prC ts n [q,r] S (decide (q.1=r.1)):=by
 unfold prC;refine qSV call278 func278 rfl ?_;simp[go_sem,h];refine qm.seg [0,1,2,3,4,5,7,8,9,10,11,12,13,14,15,17,6,16] [(0,0,[]),(1,0,[]),(2,0,[]),(3,0,[]),(4,0,[]),(5,0,[]),(7,0,[]),(8,0,[]),(9,0,[]),(10,0,[]),(11,0,[]),(12,0,[]),(13,0,[]),(14,0,[]),(15,0,[]),(17,0,[]),(6,1,[10,14]),(16,1,[10,14])] (by kernel_rfl) (by kernel_rfl) (by simp[go_sem]) ?_;simp[go_sem,qq,tk];refine qd.pure c (wkS2 q r) ?_;simp[go_sem,qq];rw[if_pos (qT _)];generalize i:putCells _ 0 (aI S.1 :: hB S.2)=P;have g:P=aI S.1 :: hB S.2:=by rw[<-i];exact pc (aI 0) _ (fun _=>false) _
 subst g;clear i;simp[go_sem,qq,tk];exact .hf _ (y7 S _)
theorem ap7(ts:TS)(n:Nd)(q r S:RS)(h:n.op=7)(c:qe qc 308 [eRS q,eRS r] (eRS S)):prC ts n [q,r] S (decide (q.1=r.1)):=by
 unfold prC;refine qSV call278 func278 rfl ?_;simp[go_sem,h];refine qm.seg [0,1,2,3,4,5,7,8,9,10,11,12,13,14,15,17,6,16] [(0,0,[]),(1,0,[]),(2,0,[]),(3,0,[]),(4,0,[]),(5,0,[]),(7,0,[]),(8,0,[]),(9,0,[]),(10,0,[]),(11,0,[]),(12,0,[]),(13,0,[]),(14,0,[]),(15,0,[]),(17,0,[]),(6,1,[10,14]),(16,1,[10,14])] (by kernel_rfl) (by kernel_rfl) (by simp[go_sem]) ?_;simp[go_sem,qq,tk];refine qd.pure c (wkS2 q r) ?_;simp[go_sem,qq];rw[if_pos (qT _)];generalize i:putCells _ 0 (aI S.1 :: hB S.2)=P;have g:P=aI S.1 :: hB S.2:=by rw[<-i];exact pc (aI 0) _ (fun _=>false) _
 subst g;clear i;simp[go_sem,qq,tk];exact .hf _ (y7 S _)
theorem ap8(ts:TS)(n:Nd)(q r:RS)(h:n.op=8):prC ts n [q,r] q (decide (q.1=r.1)):=by
 unfold prC;refine qSV call278 func278 rfl ?_;simp[go_sem,h];refine qm.seg [0,1,2,3,4,5,6,7,8,9,10,11,13,12] [(0,0,[]),(1,0,[]),(2,0,[]),(3,0,[]),(4,0,[]),(5,0,[]),(6,0,[]),(7,0,[]),(8,0,[]),(9,0,[]),(10,0,[]),(11,0,[]),(13,0,[]),(12,1,[6,10])] (by kernel_rfl) (by kernel_rfl) (by simp[go_sem]) ?_;simp[go_sem,qq,tk];rw[if_pos (qT _)];generalize i:putCells _ 0 (aI q.1 :: hB q.2)=P;have g:P=aI q.1 :: hB q.2:=by rw[<-i];exact pc (aI 0) _ (fun _=>false) _
 subst g;clear i;simp[go_sem,qq,tk];exact .hf _ (y7 q _)
theorem ap32(ts:TS)(n:Nd)(q r:RS)(h:n.op=32):prC ts n [q,r] zR (decide (q.1=r.1)):=by
 unfold prC;refine qSV call278 func278 rfl ?_;simp[go_sem,h];refine qm.seg [0,1,2,3,4,5,6,7,8,9,11,10] [(0,0,[]),(1,0,[]),(2,0,[]),(3,0,[]),(4,0,[]),(5,0,[]),(6,0,[]),(7,0,[]),(8,0,[]),(9,0,[]),(11,0,[]),(10,1,[4,8])] (by kernel_rfl) (by kernel_rfl) (by simp[go_sem]) ?_;simp[go_sem,qq];exact .hf _ (y7 zR _)
theorem ap33(ts:TS)(n:Nd)(q r:RS)(h:n.op=33):prC ts n [q,r] zR (decide (q.1=r.1)):=by
 unfold prC;refine qSV call278 func278 rfl ?_;simp[go_sem,h];refine qm.seg [0,1,2,3,4,5,6,7,8,9,11,10] [(0,0,[]),(1,0,[]),(2,0,[]),(3,0,[]),(4,0,[]),(5,0,[]),(6,0,[]),(7,0,[]),(8,0,[]),(9,0,[]),(11,0,[]),(10,1,[4,8])] (by kernel_rfl) (by kernel_rfl) (by simp[go_sem]) ?_;simp[go_sem,qq];exact .hf _ (y7 zR _)
theorem ap9(ts:TS)(n:Nd)(q r S:RS)(h:n.op=9)(p:0<=q.1/\q.1<=1000)(t:0<=r.1/\r.1<=1000)(c:qe qc 309 [eRS q,eRS r] (eRS S)):prC ts n [q,r] S (decide (1<=q.1+r.1-2/\q.1+r.1-2<=3)):=by
 unfold prC;refine qSV call278 func278 rfl ?_;have l:qi.wrap (q.1+r.1)=q.1+r.1:=qg (by omega) (by omega);have o:qi.wrap (q.1+r.1-2)=q.1+r.1-2:=qg (by omega) (by omega);simp[go_sem,h];refine qm.intro (by kernel_rfl) ?_;simp[go_sem,qq,l,o];refine qm.intro (by kernel_rfl) ?_;by_cases j:1<=q.1+r.1-2
 .simp [go_sem,qq,tk,j]
  refine qd.pure c (wkS2 q r) ?_;simp[go_sem,qq,j];rw[if_pos (qT _)];generalize i:putCells _ 0 (aI S.1 :: hB S.2)=P;have g:P=aI S.1 :: hB S.2:=by rw[<-i];exact pc (aI 0) _ (fun _=>false) _
  subst g;clear i;simp[go_sem,qq,tk];exact .hf _ (y7 S _)
 .simp [go_sem,qq,tk,j]
  refine qd.pure c (wkS2 q r) ?_;simp[go_sem,qq,j];rw[if_pos (qT _)];generalize i:putCells _ 0 (aI S.1 :: hB S.2)=P;have g:P=aI S.1 :: hB S.2:=by rw[<-i];exact pc (aI 0) _ (fun _=>false) _
  subst g;clear i;simp[go_sem,qq,tk];exact .hf _ (y7 S _)
theorem ap10(ts:TS)(n:Nd)(q r S:RS)(h:n.op=10)(l:0<=q.1/\q.1<=1000)(o:0<=r.1/\r.1<=1000)(c:qe qc 310 [eRS q,eRS r] (eRS S)):prC ts n [q,r] S (decide (q.1+r.1<=3)):=by
 unfold prC;refine qSV call278 func278 rfl ?_;have j:qi.wrap (q.1+r.1)=q.1+r.1:=qg (by omega) (by omega);simp[go_sem,h];refine qm.seg [0,1,2,3,4,5,7,8,9,10,11,12,13,14,15,16,18,6,17] [(0,0,[]),(1,0,[]),(2,0,[]),(3,0,[]),(4,0,[]),(5,0,[]),(7,0,[]),(8,0,[]),(9,0,[]),(10,0,[]),(11,0,[]),(12,0,[]),(13,0,[]),(14,0,[]),(15,0,[]),(16,0,[]),(18,0,[]),(6,1,[10,14]),(17,1,[10,14])] (by kernel_rfl) (by kernel_rfl) (by simp[go_sem]) ?_;simp[go_sem,qq,tk,j];refine qd.pure c (wkS2 q r) ?_;simp[go_sem,qq];rw[if_pos (qT _)];generalize i:putCells _ 0 (aI S.1 :: hB S.2)=P;have g:P=aI S.1 :: hB S.2:=by rw[<-i];exact pc (aI 0) _ (fun _=>false) _
 subst g;clear i;simp[go_sem,qq,tk];exact .hf _ (y7 S _)
theorem ap11(ts:TS)(n:Nd)(q S:RS)(h:n.op=11)(c:qe qc 311 [eRS q] (eRS S)):prC ts n [q] S (decide (q.1=2)):=by
 unfold prC;refine qSV call278 func278 rfl ?_;simp[go_sem,h];refine qm.seg [0,1,2,4,5,6,7,8,10,3,9] [(0,0,[]),(1,0,[]),(2,0,[]),(4,0,[]),(5,0,[]),(6,0,[]),(7,0,[]),(8,0,[]),(10,0,[]),(3,1,[7]),(9,1,[7])] (by kernel_rfl) (by kernel_rfl) (by simp[go_sem]) ?_;simp[go_sem,qq,tk];refine qd.pure c (wkS1 q) ?_;simp[go_sem,qq];rw[if_pos (qT _)];generalize i:putCells _ 0 (aI S.1 :: hB S.2)=P;have g:P=aI S.1 :: hB S.2:=by rw[<-i];exact pc (aI 0) _ (fun _=>false) _
 subst g;clear i;simp[go_sem,qq,tk];exact .hf _ (y7 S _)
theorem ap12(ts:TS)(n:Nd)(q S:RS)(h:n.op=12)(c:qe qc 312 [eRS q] (eRS S)):prC ts n [q] S (decide (q.1=2)):=by
 unfold prC;refine qSV call278 func278 rfl ?_;simp[go_sem,h];refine qm.seg [0,1,2,4,5,6,7,8,10,3,9] [(0,0,[]),(1,0,[]),(2,0,[]),(4,0,[]),(5,0,[]),(6,0,[]),(7,0,[]),(8,0,[]),(10,0,[]),(3,1,[7]),(9,1,[7])] (by kernel_rfl) (by kernel_rfl) (by simp[go_sem]) ?_;simp[go_sem,qq,tk];refine qd.pure c (wkS1 q) ?_;simp[go_sem,qq];rw[if_pos (qT _)];generalize i:putCells _ 0 (aI S.1 :: hB S.2)=P;have g:P=aI S.1 :: hB S.2:=by rw[<-i];exact pc (aI 0) _ (fun _=>false) _
 subst g;clear i;simp[go_sem,qq,tk];exact .hf _ (y7 S _)
theorem ap13(ts:TS)(ok:okTS ts)(n:Nd)(q C S:RS)(h:n.op=13)(c:qe qc 312 [eRS q] (eRS C))(c2:qe qc 307 [eRS C,eRS (qn (zx ts.sorts.length 2))] (eRS S)):prC ts n [q] S (decide (q.1=2)):=by
 unfold prC;refine qSV call278 func278 rfl ?_;have c1:=allU ts ok 2 (by omega);generalize qn (zx ts.sorts.length 2)=D at *
 simp[go_sem,h];refine qm.seg [0,1,2,4,7,8,9,10,11,13,3,5,6,12] [(0,0,[]),(1,0,[]),(2,0,[]),(4,0,[]),(7,0,[]),(8,0,[]),(9,0,[]),(10,0,[]),(11,0,[]),(13,0,[]),(3,1,[4,10]),(5,1,[10]),(6,1,[10]),(12,1,[10])] (by kernel_rfl) (by kernel_rfl) (by simp[go_sem]) ?_;simp[go_sem,qq,tk];refine qd.pure c (wkS1 q) ?_;simp[go_sem,qq];refine qd.pure c1 (wkTI ts 2) ?_;simp[go_sem,qq];refine qd.pure c2 (wkS2 C D) ?_;simp[go_sem,qq];rw[if_pos (qT _)];generalize i:putCells _ 0 (aI S.1 :: hB S.2)=P;have g:P=aI S.1 :: hB S.2:=by rw[<-i];exact pc (aI 0) _ (fun _=>false) _
 subst g;clear i;simp[go_sem,qq,tk];exact .hf _ (y7 S _)
theorem apO(ts:TS)(n:Nd)(L:List RS)(t:n.op≠2)(C:n.op≠3)(I:n.op≠4)(J:n.op≠5)(P:n.op≠6)(g:n.op≠14)(R:n.op≠7)(T:n.op≠8)(i:n.op≠32)(j:n.op≠33)(U:n.op≠9)(l:n.op≠10)(o:n.op≠11)(p:n.op≠12)(r:n.op≠13):prC ts n L zR true:=by
 unfold prC;refine qSV call278 func278 rfl ?_;simp[go_sem,t,C,I,J,P,g,R,T,i,j,U,l,o,p,r];exact .hf _ (y7 zR true)
end QN
namespace QO
open YF Y9 Y10 Y1 Y2 Y3 Y12 Y13 P1 P2 QD QE QF QH QI QJ QL QN PG PC
section
variable {nm:ByteArray}{ts:TS}
theorem mc{n:Nd}{L:List RS}{S g:RS}{b:Bool}(e:eRS S=eRS g)(h:prC ts n L S b):prC ts n L g b:=by
 unfold prC at h⊢;rw[<-e];exact h
theorem qjG{n:Nd}{a b:Kd}(j:n.op=6\/n.op=14\/n.op=7\/n.op=8\/n.op=32\/n.op=33):∃ S,prC ts n [qn a,qn b] S (decide (a.ar=b.ar))/\(a.ar=b.ar->kd n.op=101->S=qn (ub n.op a b)):=by
 have l:∀ op:Int,op=6\/op=14->ub op a b=kSum a b:=fun op h=>by unfold ub;rw[if_pos h]
 by_cases g:a.ar=b.ar
 .rcases j with h|h|h|h|h|h
  .exact ⟨_,ap6 ts n _ _ _ h (by have:=vr (qn a) (qn b);rw[Yw g]at this;exact this),fun _ _=>by rw[h,l 6 (.inl rfl)]⟩
  .exact ⟨_,ap14 ts n _ _ _ h (by have:=vr (qn a) (qn b);rw[Yw g]at this;exact this),fun _ _=>by rw[h,l 14 (.inr rfl)]⟩
  .exact ⟨_,ap7 ts n _ _ _ h (by have:=nM (qn a) (qn b);rw[qiU g]at this;exact this),fun _ _=>by rw[h];rfl⟩
  .exact ⟨_,ap8 ts n _ _ h,fun _ _=>by rw[h];rfl⟩
  .exact ⟨_,ap32 ts n _ _ h,fun _ i=>by rw[h]at i;exact absurd i (by decide)⟩
  .exact ⟨_,ap33 ts n _ _ h,fun _ i=>by rw[h]at i;exact absurd i (by decide)⟩
 .rcases j with h|h|h|h|h|h
  .exact ⟨_,ap6 ts n _ _ _ h (vr (qn a) (qn b)),fun e=>absurd e g⟩
  .exact ⟨_,ap14 ts n _ _ _ h (vr (qn a) (qn b)),fun e=>absurd e g⟩
  .exact ⟨_,ap7 ts n _ _ _ h (nM (qn a) (qn b)),fun e=>absurd e g⟩
  .exact ⟨_,ap8 ts n _ _ h,fun e=>absurd e g⟩
  .exact ⟨_,ap32 ts n _ _ h,fun e=>absurd e g⟩
  .exact ⟨_,ap33 ts n _ _ h,fun e=>absurd e g⟩
theorem qjH(ok:okTS ts){n:Nd}{a:Kd}(l:okKd ts.sorts.length a)(o:n.op=11\/n.op=12\/n.op=13):∃ S,prC ts n [qn a] S (decide (a.ar=2))/\(a.ar=2->S=qn (binK ts.sorts.length n.op a)):=by
 have i:=ok.ns;by_cases g:a.ar=2
 .have p:=qi5 l g i
  rcases o with h|h|h
  .exact ⟨_,ap11 ts n _ _ h (by have:=nN (qn a);rw[qi0 l i g]at this;exact this),fun _=>by rw[h];rfl⟩
  .exact ⟨_,ap12 ts n _ _ h p,fun _=>by rw[h];rfl⟩
  .refine ⟨_,ap13 ts ok n _ _ (qn (kSum (kClo a) (zx ts.sorts.length 2))) h p ?_,fun _=>by rw[h];rfl⟩
   have:=vr (qn (kClo a)) (qn (zx ts.sorts.length 2));rw[Yw (show (kClo a).ar=2 from (J3 l g).2)]at this;exact this
 .have j:=l.ar
  rcases o with h|h|h
  .exact ⟨_,ap11 ts n _ _ h (nN (qn a)),fun e=>absurd e g⟩
  .exact ⟨_,ap12 ts n _ _ h (n9 (qn a) j),fun e=>absurd e g⟩
  .exact ⟨_,ap13 ts ok n _ _ _ h (n9 (qn a) j) (vr _ _),fun e=>absurd e g⟩
theorem qjI(ts:TS)(ok:okTS ts)(n:Nd)(l:List (Option Kd))(L:List RS)(e1:n.op≠1)(a0:n.op≠15)
  (h1:n.op=5\/n.op=11\/n.op=12\/n.op=13->∃ a,l=[some a]/\L=[qn a]/\okKd ts.sorts.length a)
  (h2:n.op=6\/n.op=14\/n.op=7\/n.op=8\/n.op=32\/n.op=33\/n.op=9\/n.op=10->∃ a b,l=[some a,some b]/\L=[qn a,qn b]/\okKd ts.sorts.length a/\okKd ts.sorts.length b) :
  ∃ S b,prC ts n L S b/\ApE n.op (zL ts.sorts.length n.op n.n n.pos l) S b:=by
 have t:=ok.ns;by_cases j:n.op=2
 .refine ⟨qn ⟨n.n,[]⟩,true,mc (n7 n.n) (ap2 ts n L j),?_⟩
  unfold zL;rw[if_pos j];exact⟨rfl,fun _=>⟨_,rfl,rfl⟩⟩
 by_cases o:n.op=3
 .refine ⟨_,true,ap3 ts ok n L o,?_⟩
  unfold zL;rw[if_neg j,if_pos o];exact⟨rfl,fun _=>⟨_,rfl,rfl⟩⟩
 by_cases r:n.op=4
 .refine ⟨_,true,ap4 ts ok n L r,?_⟩
  unfold zL;rw[if_neg j,if_neg o,if_pos r];exact⟨rfl,fun _=>⟨_,rfl,rfl⟩⟩
 by_cases g1:n.op=5\/n.op=11\/n.op=12\/n.op=13
 .obtain ⟨a,rfl,rfl,C⟩:=h1 g1
  rw[apK1,if_neg j,if_neg o,if_neg r];by_cases J:n.op=5
  .rw [if_pos J]
   exact⟨_,true,ap5 ts n _ J,rfl,fun _=>⟨_,rfl,rfl⟩⟩
  have g:n.op=11\/n.op=12\/n.op=13:=by omega
  rw[if_neg J,if_pos g];obtain⟨S,P,R⟩:=qjH ok C g;refine⟨S,_,P,?_⟩;by_cases i:a.ar=2
  .rw [if_pos i]
   exact⟨decide_eq_true i,fun _=>⟨_,rfl,R i⟩⟩
  .rw [if_neg i]
   exact decide_eq_false i
 by_cases g2:n.op=6\/n.op=14\/n.op=7\/n.op=8\/n.op=32\/n.op=33\/n.op=9\/n.op=10
 .obtain ⟨a,b,rfl,rfl,C,T⟩:=h2 g2
  have ra:=C.ar;have rb:=T.ar;rw[apK2,if_neg j,if_neg o,if_neg r];by_cases U:n.op=6\/n.op=14\/n.op=7\/n.op=8\/n.op=32\/n.op=33
  .rw [if_pos U]
   obtain⟨S,P,R⟩:=qjG (ts:=ts) (n:=n) (a:=a) (b:=b) U;refine⟨S,_,P,?_⟩;by_cases i:a.ar=b.ar
   .rw [if_pos i]
    exact⟨decide_eq_true i,fun hk=>⟨_,rfl,R i hk⟩⟩
   .rw [if_neg i]
    exact decide_eq_false i
  rw[if_neg U];by_cases I:n.op=9
  .rw [if_pos I]
   by_cases i:1<=a.ar+b.ar-2/\a.ar+b.ar-2<=3
   .rw [if_pos i]
    refine⟨_,_,ap9 ts n _ _ (qn (zD a b)) I (by show 0<=a.ar/\a.ar<=1000;omega) (by show 0<=b.ar/\b.ar<=1000;omega) ?_,decide_eq_true i,fun _=>⟨_,rfl,rfl⟩⟩;rw[<-nS C T t i];exact VD _ _ (by show 0<=a.ar/\a.ar<=1000;omega) (by show 1<=b.ar/\b.ar<=1000;omega)
   .rw [if_neg i]
    exact⟨_,_,ap9 ts n _ _ _ I (by show 0<=a.ar/\a.ar<=1000;omega) (by show 0<=b.ar/\b.ar<=1000;omega) (VD _ _ (by show 0<=a.ar/\a.ar<=1000;omega) (by show 1<=b.ar/\b.ar<=1000;omega)),decide_eq_false i⟩
  have p:n.op=10:=by omega
  rw[if_neg I,if_pos p];by_cases i:a.ar+b.ar<=3
  .rw [if_pos i]
   refine⟨_,_,ap10 ts n _ _ (qn (v8 a b)) p (by show 0<=a.ar/\a.ar<=1000;omega) (by show 0<=b.ar/\b.ar<=1000;omega) ?_,decide_eq_true i,fun _=>⟨_,rfl,rfl⟩⟩;rw[<-qiV C T t i];exact nO _ _ (by show 0<=a.ar/\a.ar<=1000;omega) (by show 0<=b.ar/\b.ar<=1000;omega)
  .rw [if_neg i]
   exact⟨_,_,ap10 ts n _ _ _ p (by show 0<=a.ar/\a.ar<=1000;omega) (by show 0<=b.ar/\b.ar<=1000;omega) (nO _ _ (by show 0<=a.ar/\a.ar<=1000;omega) (by show 0<=b.ar/\b.ar<=1000;omega)),decide_eq_false i⟩
 refine⟨zR,true,apO ts n L j o r (by omega) (by omega) (by omega) (by omega) (by omega) (by omega) (by omega) (by omega) (by omega) (by omega) (by omega) (by omega),?_⟩;rw[Wc j o r (by omega) (by omega) (by omega) (by omega) (by omega) (by omega) (by omega) (by omega) (by omega) (by omega) (by omega) (by omega)];refine⟨rfl,fun hk=>?_⟩;have:=J5 hk;omega
theorem qjJ{ns:Nat}(o:ns<=4){q:Kd}(h:okKd ns q)(l:q.ar=1)(i:Int):wY i q=true↔∀ k:Nat,k<4->(qn q).2 k=true->(k:Int)=i:=by
 unfold wY;rw[qH];constructor
 .intro p k J r
  rw[yd,l]at r;have:=p _ r.2;simpa[dig,pad] using this
 .intro p t C
  obtain⟨j,I,e⟩:=Zl h o C;rw[l]at I e;have g:j<4:=I;have:=p j g ((yd q j).2 ⟨by rw[l];exact g,by rw[l,<-e];exact C⟩);rw[e];simp[dig,pad,this]
def ExR(c:Ck)(s:Scp)(inn:Bool)(n:Nd):Prop:=∃ S:RS,qe qc 233 [eVw c inn,lVr (envS s),eNd n] (.tup [eRS S,eDg (dgOf (exam c s inn n))])/\(kd n.op=101->∀ q,exam c s inn n = .ok (some q)->S=qn q)
theorem me(c:Ck)(inn:Bool):HF (eVw c inn):=HF.agg fun x g=>by
 simp only[qw,qI,or_false]at g;rcases g with rfl|rfl|rfl|rfl|rfl|rfl|rfl
 .exact kz _
 .exact U0 _
 .exact kx _
 .exact ky _
 .exact YJ _
 .exact HF.sc _
 .exact HF.sc _
theorem wkE(c:Ck)(inn:Bool)(l:List Vr)(n:Nd):WKs [eVw c inn,lVr l,eNd n] [eVw c inn,lVr l,eNd n] := .cons (.hf (me c inn)) (.cons (.hf (qjB _)) (.cons (.hf (ze n)) .nil))
theorem um(d:Dg):HF (eDg d):=HF.agg fun x g=>by
 simp only[qw,qI,or_false]at g;rcases g with rfl|rfl<;>exact HF.sc _
theorem mf{c:Ck}{p:Nat}(i:okCk c)(h:zf c nm=some p):(c.ts.preds.any fun p=>decide (p.name=nm))=true:=by
 obtain⟨_,j⟩:=Qy i h;unfold zf at h;rw[List.findIdx?_eq_some_iff_getElem]at h;obtain⟨l,g,_⟩:=h;simp only[List.getElem_take]at g;exact List.any_eq_true.2 ⟨_,qy j,g⟩
theorem qjK(h:zf (mkCk ts ts.preds.length) nm=none):(ts.preds.any fun p=>decide (p.name=nm))=false:=by
 unfold zf at h;rw[List.findIdx?_eq_none_iff]at h;rw[List.any_eq_false];intro p g;have:p∈ts.preds.take ts.preds.length:=by rw[q8];exact g
 have:=h p this;simpa using this
theorem W8{n:Nd}(i:WfN n)(h:n.op=47):∀ k,k∈n.kids->kd k.op=101:=by
 have g:=i.shape;have e:shp n.op n.kids.length=some (zt (min n.kids.length 401) 101):=by
  unfold shp;rw[if_neg (by omega),if_neg (by omega),if_neg (by omega),if_neg (by omega),if_neg (by omega),if_neg (by omega),if_neg (by omega),if_pos h]
 rw[e]at g;simp only[qo]at g;intro k j;have:kd k.op∈n.kids.map fun k=>kd k.op:=qp.2 ⟨k,j,rfl⟩
 rw[<-g]at this;exact List.eq_of_mem_replicate this
theorem qjL(c:Ck)(hc:okCk c)(s:Scp)(hs:ScOk c.ts.sorts.length s)(n:Nd)(hw:WfN n)(b0:n.op=47)(ih:∀ k,k∈n.kids->ExR c s true k)(inn:Bool) :
  qe qc 276 [eVw c inn,lVr (envS s),eNd n] (eDg (dgOf (Yg c s n))):=by
 generalize hR:Yg c s n=R;unfold Yg at hR;refine qSQ call276 func276 rfl { mt:=[3] } ?_;have be:=hc.ts.np;have bg:=hw.len;have b1:=YI c hc n.name;have b2:=YI (mkCk c.ts c.ts.preds.length) (uN hc.ts (qs _)) n.name;have an:∀ k:Int,WKs [eTS c.ts,aI k,aS n.name] [eTS c.ts,aI k,aS n.name]:=fun k => .cons (.hf (zq _)) (.cons (.hf (HF.sc _)) (.cons (.hf (HF.sc _)) .nil))
 simp[go_sem];refine qd.pure b1 (an _) ?_;cases T:zf c n.name with
 |none =>
  rw[T]at hR;simp[go_sem,idxO];refine qd.pure b2 (an _) ?_;cases a2:zf (mkCk c.ts c.ts.preds.length) n.name with
  |none =>
   rw[qjK a2]at hR;subst hR;simp[go_sem,idxO,dgOf];exact .hf _ (um (40,n.pos))
  |some p =>
   have ha:(c.ts.preds.any fun p=>decide (p.name=n.name))=true:=mf (c:=mkCk c.ts c.ts.preds.length) (uN hc.ts (qs _)) a2;rw[ha]at hR;subst hR;have aa:¬(p:Int)<0:=by omega
   simp[go_sem,idxO,dgOf,aa];exact .hf _ (um (45,n.pos))
 |some p =>
  obtain⟨_,ab⟩:=Qy hc T;rw[mf hc T,if_pos rfl,T]at hR;simp only[qz ab]at hR;have aa:¬(p:Int)<0:=by omega
  have b3:=hc.ts.pl _ (qy ab);simp[go_sem,idxO,ab,aa];generalize bh:c.ts.preds[p]=C at *
  by_cases a0:C.params.length=n.kids.length
  .rw [if_pos a0]at hR
   simp[go_sem,a0];have b4:=W8 hw b0;refine qk.upK C.params.length (fun k st=>st.tm 1=lVr (envS s)/\st.tm 3 = .ptr 0 0/\st.tm 5 = .ip (cNd n)/\st.tm 6 = .ptr 1 0/\st.tm 8=lPm C.params/\st.tm 9=aI k/\st.mu[0]?=some (.arr (cVw c true))/\st.mu[1]?=some (.arr [aI 0,aI 0])/\ya c s n.pos (C.params.drop k) (n.kids.drop k)=R) ?_ ?_
   .exact ⟨by simp[go_sem],by simp[go_sem],by simp[go_sem],by simp[go_sem],by simp[go_sem],by simp[go_sem],by simp[go_sem],by simp[go_sem],by simpa using hR⟩
   rintro k st hk ⟨e1,e3,e5,e6,e8,e9,m0,m1,t⟩;have a7:1<st.mu.length:=(qj.1 m1).1;have I:∀(l:List Cell) (i:Nat),i<st.mu.length->(st.mu++l)[i]?=st.mu[i]?:=fun l i hi=>qx hi
   have U:∀ c,(st.mu.set 1 c)[1]?=some c:=fun c=>zr a7
   have ad:∀ c (l:List Cell),((st.mu++l).set 1 c)[1]?=some c:=fun c l=>zr (by simp;omega)
   have ae:∀(l:List Cell) (h:0<(st.mu++l).length),(st.mu++l)[0] = .arr (cVw c true):=fun l h=>by
    rw[XG (by omega)];exact(qj.1 m0).2
   have af:∀(l:List Cell) (h:1<(st.mu++l).length),(st.mu++l)[1] = .arr [aI 0,aI 0]:=fun l h=>by
    rw[XG (by omega)];exact(qj.1 m1).2
   by_cases ao:k=C.params.length
   .subst ao
    rw[yH,a0,yH]at t;simp only[ya]at t;subst t;simp[go_sem,e6,e8,e9,m1,a0,dgOf,U];exact .hf _ (um (0,0))
   have o:k<C.params.length:=by omega
   have r:k<n.kids.length:=by omega
   have w1:qi.wrap ((k:Int)+1)=(k:Int)+1:=qg (by omega) (by omega);obtain⟨S,hi,hS⟩:=ih n.kids[k] (qy r);rw[zG o,zG r]at t;simp only[ya]at t;have b5:=uO hc (szN n.kids[k]) n.kids[k] s true;have aq:=b4 n.kids[k] (qy r);have au:=hw.kid (qy r);simp[go_sem,e8,e9,o];refine qm.seg [0,1,2,3,4,5,6,7,8,9,10,11,12,13,14] [(0,0,[]),(1,0,[]),(2,0,[]),(3,0,[]),(4,0,[]),(5,0,[]),(6,0,[]),(7,1,[]),(8,0,[]),(9,0,[]),(10,0,[]),(11,2,[0,3,6]),(12,2,[0,3,6]),(13,1,[]),(14,1,[])] (by kernel_rfl) (by kernel_rfl) (by simp[go_sem]) ?_;simp[go_sem,e1,e3,e5,e9,m0,r];refine qd.pure hi (wkE c true _ _) ?_;cases hx:exam c s true n.kids[k] with
   |error e =>
    rw[hx]at t;subst t;have he:=Ys c (szN n.kids[k]) n.kids[k] s true e (qs _) hx;have b6:¬e.1=0:=by omega
    simp[go_sem,e3,qq,ae,dgOf];rw[if_pos (qT _)];generalize hP:putCells _ 0 (aI S.1 :: hB S.2)=P;have ag:P=aI S.1 :: hB S.2:=by rw[<-hP];exact pc (aI 0) _ (fun _=>false) _
    subst ag;clear hP;simp[go_sem,e6,b6];simp[go_sem,af,e6];exact .hf _ (um e)
   |ok ko =>
    obtain⟨q,rfl,hq⟩:=b5 ko (qs _) au hs hx aq;have b7:=hS aq q hx;subst b7;rw[hx]at t;simp only at t;have b8:=hc.ts.ns;have av:(qn q).1=q.ar:=rfl;have aw:=fun h=>qjJ b8 hq h C.params[k].2
    generalize qn q=Q at *
    simp[go_sem,e3,qq,ae,dgOf];rw[if_pos (qT _)];generalize hP:putCells _ 0 (aI Q.1 :: hB Q.2)=P;have ag:P=aI Q.1 :: hB Q.2:=by rw[<-hP];exact pc (aI 0) _ (fun _=>false) _
    subst ag;clear hP;by_cases a1:q.ar=1
    .rw [if_pos a1]at t
     have a3:Q.1=1:=av.trans a1;simp[go_sem,qq,a3];have bc:C.params[k].2<4/\0<=C.params[k].2:=by have:=b3.2 _ (qy o);omega
     refine qk.upK 4 (fun j g=>∃ b,2<=b/\g.tm 10 = .ptr b 0/\g.mu[b]?=some (.arr (aI 1 :: hB Q.2))/\g.tm 1=lVr (envS s)/\g.tm 3 = .ptr 0 0/\g.tm 5 = .ip (cNd n)/\g.tm 6 = .ptr 1 0/\g.tm 8=lPm C.params/\g.tm 9=aI k/\g.tm 12=aI j/\g.mu[0]?=some (.arr (cVw c true))/\g.mu[1]?=some (.arr [aI 0,aI 0]) /\
      ∀ i:Nat,i<j->Q.2 i=true->(i:Int)=C.params[k].2) ?_ ?_
     .exact ⟨st.mu.length,by omega,by simp[go_sem],by simp[go_sem],by simp[go_sem,e1],by simp[go_sem,e3],by simp[go_sem,e5],by simp[go_sem,e6],by simp[go_sem,e8],by simp[go_sem,e9],by simp[go_sem],by simp only[zl];rw[I _ _ (by omega)];exact m0,by simp only[zl];rw[I _ _ (by omega)];exact m1,fun i hi=>by omega⟩
     .clear e1 e3 e5 e6 e8 e9 m0 m1 I U ad ae af a7
      rintro j st2 hj ⟨b,hb,a4,mb,e1,e3,e5,e6,e8,e9,a8,m0,m1,a5⟩;have a7:1<st2.mu.length:=(qj.1 m1).1;have U:∀ c,(st2.mu.set 1 c)[1]?=some c:=fun c=>zr a7
      by_cases ah:j<4
      .have ai:(j:Int)<4:=by omega
       have ax:j<64:=by omega
       have J:(j:Int)<64:=by omega
       have wj:qi.wrap ((j:Int)+1)=(j:Int)+1:=qg (by omega) (by omega);have a6:=d1 (aI 1) Q.2 j ax;have aj:1+j<=64:=by omega
       by_cases hQ:Q.2 j=true
       .rw [hQ]at a6
        by_cases a9:(j:Int)=C.params[k].2
        .have b9:=eq_true a9
         simp[go_sem,a4,mb,e8,e9,a8,ai,J,a6,aj,qq,o,b9,wj];refine⟨ah,Keep.mk' ⟨b,hb,by simp[go_sem,a4],by simp[go_sem,mb],by simp[go_sem,e1],by simp[go_sem,e3],by simp[go_sem,e5],by simp[go_sem,e6],by simp[go_sem,e8],by simp[go_sem,e9],by simp[go_sem],by simp[go_sem,m0],by simp[go_sem,m1],fun i hi h=>?_⟩⟩;by_cases ak:i=j
         .subst ak;exact a9
         .exact a5 i (by omega) h
        .have ay:¬wY C.params[k].2 q=true:=fun h=>a9 ((aw a1).1 h j ah hQ)
         rw[if_neg ay]at t;subst t;simp[go_sem,a4,mb,e5,e6,e8,e9,a8,ai,J,a6,aj,qq,o,a9,m1,U];exact .hf _ (um (43,n.pos))
       .have hQ:Q.2 j=false:=by simpa using hQ
        rw[hQ]at a6;simp[go_sem,a4,mb,a8,ai,J,a6,aj,qq,wj];refine⟨ah,Keep.mk' ⟨b,hb,by simp[go_sem,a4],by simp[go_sem,mb],by simp[go_sem,e1],by simp[go_sem,e3],by simp[go_sem,e5],by simp[go_sem,e6],by simp[go_sem,e8],by simp[go_sem,e9],by simp[go_sem],by simp[go_sem,m0],by simp[go_sem,m1],fun i hi h=>?_⟩⟩;by_cases ak:i=j
        .subst ak;rw[hQ]at h;cases h
        .exact a5 i (by omega) h
      .have bb:j=4:=by omega
       subst bb;have al:wY C.params[k].2 q=true:=(aw a1).2 fun i hi h=>a5 i hi h
       rw[if_pos al]at t;simp[go_sem,e9,a8,w1];exact⟨o,Keep.mk' ⟨by simp[go_sem,e1],by simp[go_sem,e3],by simp[go_sem,e5],by simp[go_sem,e6],by simp[go_sem,e8],by simp[go_sem],by simp[go_sem,m0],by simp[go_sem,m1],t⟩⟩
    .rw [if_neg a1]at t
     subst t;have a3:¬Q.1=1:=fun e=>a1 (av.symm.trans e)
     simp[go_sem,e5,qq,a3,af,e6];exact .hf _ (um (42,n.pos))
  .rw [if_neg a0]at hR
   subst hR;have az:¬n.kids.length=C.params.length:=fun e=>a0 e.symm
   simp[go_sem,az,dgOf];exact .hf _ (um (45,n.pos))
end
end QO
namespace QR
open Y9 Y1 Y2 Y12 P1 P2 QE QF QJ QL QN PG QO
theorem VA{n:Nd}(i:WfN n)(h:n.op=15\/n.op=45\/n.op=46):∃ a f,n.kids=[a,f]/\kd a.op=101:=by
 have g:=i.shape;unfold shp at g;rw[if_neg (by omega),if_neg (by omega),if_neg (by omega),if_pos (by omega)]at g;simp only[qo]at g
 match j:n.kids,g with
 | [a,f],g =>
  simp at g;exact⟨a,f,rfl,g.1.symm⟩
 | [],g=>simp at g
 | [_],g=>simp at g
 |_ :: _ :: _ :: _,g=>simp at g
theorem five{C:Type}{l:List C}{a b c d e:C}(g:l[0]?=some a)(i:l[1]?=some b)(j:l[2]?=some c)(o:l[3]?=some d)(p:l[4]?=some e):∃ r,l=a :: b :: c :: d :: e :: r:=by
 match l,g,i,j,o,p with
 |_ :: _ :: _ :: _ :: _ :: r,g,i,j,o,p =>
  simp at g i j o p;exact⟨r,by rw[g,i,j,o,p]⟩
def YL:Res->RS
 | .ok (some k)=>if k.ar=1 then qn k else zR
 |_=>zR
theorem qjM(s:RS)(d:Dg):FL (.tup [eRS s,eDg d]):=FL.tup fun x i=>by
 rcases qw.1 i with rfl|i
 .exact FL.agg fun c g=>by
   rcases qw.1 g with rfl|g
   .exact FL.sc _
   .obtain ⟨j,_,rfl⟩:=qp.1 g
    exact FL.sc _
 .rw [qN]at i;subst i
  exact FL.agg fun c g=>by
   rcases qw.1 g with rfl|g
   .exact FL.sc _
   .rw [qN]at g;subst g;exact FL.sc _
theorem qjN(c:Ck)(hc:okCk c)(s:Scp)(hs:ScOk c.ts.sorts.length s)(ay:s.length<=90000)(n a g:Nd)(hw:WfN n)(hb:n.op=15\/n.op=45\/n.op=46)(t:n.kids=[a,g])(a6:kd a.op=101)(inn:Bool)
  (af:ExR c s (inn||decide (n.op=15)) a) (ag:∀ k,okKd c.ts.sorts.length k->k.ar=1->ExR c ((n.name,k) :: s) (inn||decide (n.op=15)) g) :
  qe qc 277 [eVw c inn,lVr (envS s),eNd n] (.tup [eRS (YL (exam c s (inn||decide (n.op=15)) a)),eDg (dgOf (zM c s (inn||decide (n.op=15)) n.name n.pos n.kids))]):=by
 have wa:=hw.kid (k:=a) (by rw[t];simp);obtain⟨S,ca,hS⟩:=af;have ah:=uO hc (szN a) a s (inn||decide (n.op=15));have a7:=Ys c (szN a) a s (inn||decide (n.op=15));rw[t];have w1:=wkE c (inn||decide (n.op=15)) (envS s) a;have ai:n.op=15->(inn||decide (n.op=15))=true:=fun h=>by simp[h]
 have aj:¬n.op=15->(inn||decide (n.op=15))=inn:=fun h=>by simp[h]
 generalize (inn||decide (n.op=15))=B at *
 generalize hE:dgOf (zM c s B n.name n.pos [a,g])=E;generalize hX:exam c s B a=X at *
 have a8:∀ k,okKd c.ts.sorts.length k->k.ar=1->X = .ok (some k)->∃ S2,qe qc 233 [eVw c B,lVr (envS ((n.name,k) :: s)),eNd g] (.tup [eRS S2,eDg E]):=fun k hk p ak=>by
  obtain⟨S2,cg,_⟩:=ag k hk p;refine⟨S2,?_⟩;have J:E=dgOf (exam c ((n.name,k) :: s) B g):=by
   rw[<-hE];simp only[zM,qS];rw[hX,ak];simp only;rw[if_pos p];cases exam c ((n.name,k) :: s) B g<;>rfl
  rw[J];exact cg
 refine qSQ call277 func277 rfl { mt:=[3] } ?_;by_cases a2:n.op=15
 case' pos =>
  have a3:=ai a2;subst a3
 case' neg =>
  have a3:=aj a2;subst a3
 all_goals
  simp[go_sem,a2];refine qm.seg [0,1,2,3,4,5,6,7,8,9,10,11,12,13] [(0,0,[]),(1,0,[]),(2,0,[]),(3,0,[]),(4,0,[]),(5,0,[]),(6,1,[]),(7,0,[]),(8,0,[]),(9,0,[]),(10,2,[0,3,5]),(11,2,[0,3,5]),(12,1,[]),(13,1,[])] (by kernel_rfl) (by kernel_rfl) (by simp[go_sem]) ?_;simp[go_sem,t];refine qd.pure ca w1 ?_;simp[go_sem,qq,t];rw[if_pos (qT _)];generalize hP:putCells _ 0 (aI S.1 :: hB S.2)=P;have R:P=aI S.1 :: hB S.2:=by rw[<-hP];exact pc (aI 0) _ (fun _=>false) _
  subst R;clear hP;simp[go_sem]
 all_goals
  cases X with
  |error e =>
   have he:=a7 e (qs _) rfl;have al:¬e.1=0:=by omega
   have J:E=e:=by rw[<-hE];simp only[zM];rw[hX];rfl
   subst J;clear hE;simp[go_sem,dgOf,al];refine qm.seg [0,1,2,3] [(0,0,[]),(1,0,[]),(2,1,[1]),(3,1,[])] (by kernel_rfl) (by kernel_rfl) (by simp[go_sem]) ?_;simp[go_sem];exact .hf _ (ju zR E)
  |ok ko =>
   obtain⟨q,rfl,hq⟩:=ah ko (qs _) wa hs rfl a6;have an:=hS a6 q rfl;subst an;have a9:(qn q).1=q.ar:=rfl;by_cases p:q.ar=1
   .have T:(qn q).1=1:=a9.trans p
    obtain⟨S2,cg⟩:=a8 q hq p rfl;have a4:YL (.ok (some q))=qn q:=if_pos p;rw[a4];have aa:envS ((n.name,q) :: s)=envS s++[(n.name,qn q)]:=by simp[envS]
    rw[aa]at cg;generalize qn q=Q at *
    obtain⟨qa,U⟩:=Q;have a5:qa=1:=T;subst a5;simp[go_sem,dgOf];refine qm.seg [0,1,2,4,5,6,7,8,10,11,12,13,3,9,14,15,16,17,18,19,20,21] [(0,0,[]),(1,0,[]),(2,0,[]),(4,0,[]),(5,0,[]),(6,0,[]),(7,0,[]),(8,0,[]),(10,0,[]),(11,0,[]),(12,0,[]),(13,0,[]),(3,1,[0,5,6,11,13]),(9,1,[0,11,13]),(14,1,[]),(15,0,[]),(16,0,[]),(17,0,[]),(18,2,[0,5,6,11,13]),(19,2,[0,5,6,11,13]),(20,1,[]),(21,1,[])] (by kernel_rfl) (by kernel_rfl) (by simp[go_sem]) ?_;simp[go_sem,qq,tk];rw[if_pos (qT _)];generalize hC:putCells _ 1 _=C;have ao:C=cVr (n.name,(1,U)):=by rw[<-hC];exact pcV n.name (1,U)
    subst ao;clear hC;have aq:(cVr (n.name,((1:Int),U))).length=66:=by simp[qq]
    have au:=Xo (n.name,((1:Int),U));generalize hV:cVr (n.name,((1:Int),U))=V at *
    simp[go_sem,aq];rw[if_pos au];simp[go_sem,t];refine Xq (lo:=5) (xs:=[]) (ys:=envS s) (OwnF.nil (by simp)) (by simp[qM]) (by simp[VG];omega) fun az m1 av a0=>?_
    have k0:=a0 0 (by omega);have k1:=a0 1 (by omega);have k2:=a0 2 (by omega);have k3:=a0 3 (by omega);have k4:=a0 4 (by omega);simp at k0 k1 k2 k3 k4;simp[go_sem,qq,tk,t,k0,k3];refine Xq (xs:=[]++envS s) (ys:=[(n.name,(1,U))]) av (by simp[qM,hV]) (by simp[VG];omega) fun b0 m2 a1 I=>?_
    rw[vf]at a1;have aw:=a1.2.2;replace k0:=(I 0 (by omega)).trans k0;replace k1:=(I 1 (by omega)).trans k1;replace k2:=(I 2 (by omega)).trans k2;replace k3:=(I 3 (by omega)).trans k3;replace k4:=(I 4 (by omega)).trans k4;have o:∀(l:List Cell) (i:Nat),i<m2.length->(m2++l)[i]?=m2[i]?:=fun l i hi=>qx hi
    have g0:=(qj.1 k0).2;have g1:=(qj.1 k1).2;have g2:=(qj.1 k2).2;have g3:=(qj.1 k3).2;simp[go_sem,t,k0];refine qd.lend (args':=[eVw c _,lVr (envS s++[(n.name,(1,U))]),eNd g]) cg ⟨.hf _ (me c _),rdVr a1,.hf _ (ze g),trivial⟩ (qjM S2 _) ?_;have p0:=fun l=>(o l 0 (by omega)).trans k0
    have p1:=fun l=>(o l 1 (by omega)).trans k1
    have p2:=fun l=>(o l 2 (by omega)).trans k2
    have p3:=fun l=>(o l 3 (by omega)).trans k3
    have p4:=fun l=>(o l 4 (by omega)).trans k4
    have ab:0<m2.length:=by omega
    have ad:3<m2.length:=by omega
    simp[go_sem,qq,tk,t,g0,g3,ab,ad,p3];rw[if_pos (qT _)];generalize hP:putCells _ 0 (cRS S2)=P;have R:P=cRS S2:=by rw[<-hP];exact pc (aI 0) _ (fun _=>false) _
    subst R;clear hP;simp[go_sem];obtain⟨rr,ae⟩:=five k0 k1 k2 k3 k4;have b1:m2.length=rr.length+5:=by rw[ae];rfl
    clear g0 g1 g2 g3 p0 p1 p2 p3 p4 o a1 I k0 k1 k2 k3 k4 aw ab ad;refine qm.seg [0,1,2,3] [(0,0,[]),(1,0,[]),(2,1,[1]),(3,1,[])] (by kernel_rfl) (by kernel_rfl) (by simp[go_sem]) ?_;simp[go_sem,qq,tk,ae];rw[if_pos (qT _)];generalize hP:putCells _ 0 (aI 1 :: hB U)=P;have R:P=aI 1 :: hB U:=by rw[<-hP];exact pc (aI 0) (aI 1) (fun _=>false) U
    subst R;clear hP;simp[go_sem,qq,tk];exact .hf _ (ju (1,U) E)
   .have T:¬(qn q).1=1:=fun e=>p (a9.symm.trans e)
    have a4:YL (.ok (some q))=zR:=if_neg p;rw[a4];have J:E=(42,n.pos):=by
     rw[<-hE];simp only[zM];rw[hX];simp only;rw[if_neg p];rfl
    subst J;clear hE;generalize qn q=Q at *
    simp[go_sem,dgOf,T];refine qm.seg [0,1,2,3,4,5] [(0,0,[]),(1,0,[]),(2,0,[]),(3,0,[]),(4,1,[2]),(5,1,[])] (by kernel_rfl) (by kernel_rfl) (by simp[go_sem]) ?_;simp[go_sem];exact .hf _ (ju zR (42,n.pos))
theorem qjO(ts:TS)(ok:okTS ts)(n:Nd)(l:List (Option Kd))(r:n.op≠1)(o:n.op≠15)
  (t:n.op=5\/n.op=11\/n.op=12\/n.op=13->∃ a,l=[some a]/\okKd ts.sorts.length a)
  (C:n.op=6\/n.op=14\/n.op=7\/n.op=8\/n.op=32\/n.op=33\/n.op=9\/n.op=10->∃ a b,l=[some a,some b]/\okKd ts.sorts.length a/\okKd ts.sorts.length b) :
  ∃ S b,(∀ L:List RS,((n.op=5\/n.op=11\/n.op=12\/n.op=13)\/(n.op=6\/n.op=14\/n.op=7\/n.op=8\/n.op=32\/n.op=33\/n.op=9\/n.op=10)->L=l.map setO)->prC ts n L S b)/\ApE n.op (zL ts.sorts.length n.op n.n n.pos l) S b:=by
 by_cases I:(n.op=5\/n.op=11\/n.op=12\/n.op=13)\/(n.op=6\/n.op=14\/n.op=7\/n.op=8\/n.op=32\/n.op=33\/n.op=9\/n.op=10)
 .obtain ⟨S,b,c,a⟩:=qjI ts ok n l (l.map setO) r o (fun h=>by obtain⟨a,rfl,p⟩:=t h;exact⟨a,rfl,rfl,p⟩) (fun h=>by obtain⟨a,b,rfl,p,J⟩:=C h;exact⟨a,b,rfl,rfl,p,J⟩)
  exact⟨S,b,fun L P=>by rw[P I];exact c,a⟩
 by_cases g:n.op=2
 .refine ⟨qn ⟨n.n,[]⟩,true,fun L _=>mc (n7 n.n) (ap2 ts n L g),?_⟩
  unfold zL;rw[if_pos g];exact⟨rfl,fun _=>⟨_,rfl,rfl⟩⟩
 by_cases i:n.op=3
 .refine ⟨_,true,fun L _=>ap3 ts ok n L i,?_⟩
  unfold zL;rw[if_neg g,if_pos i];exact⟨rfl,fun _=>⟨_,rfl,rfl⟩⟩
 by_cases j:n.op=4
 .refine ⟨_,true,fun L _=>ap4 ts ok n L j,?_⟩
  unfold zL;rw[if_neg g,if_neg i,if_pos j];exact⟨rfl,fun _=>⟨_,rfl,rfl⟩⟩
 refine⟨zR,true,fun L _=>apO ts n L g i j (by omega) (by omega) (by omega) (by omega) (by omega) (by omega) (by omega) (by omega) (by omega) (by omega) (by omega) (by omega),?_⟩;rw[Wc g i j (by omega) (by omega) (by omega) (by omega) (by omega) (by omega) (by omega) (by omega) (by omega) (by omega) (by omega) (by omega)];refine⟨rfl,fun R=>?_⟩;have:=J5 R;omega
def resS:Res->RS
 | .ok (some k)=>qn k
 |_=>zR
theorem qjP(R:Res):endR zR R = .tup [eRS (resS R),eDg (dgOf R)]:=by
 cases R with
 |error e=>rfl
 |ok k=>cases k<;>rfl
end QR
namespace QS
open YZ YF Y9 Y10 Y1 Y2 Y13 P1 P2 QE QF QI QJ QL QN PG QO QR
theorem VH(c:Ck)(op:Int)(nm:ByteArray):zK c op nm=(zQ op||(decide (op=47)&&tpB c nm)):=rfl
theorem qjQ{ns:Nat}{op n pos:Int}{l:List (Option Kd)}{e:Dg}(h:zL ns op n pos l = .error e):e=(42,pos):=by
 unfold zL at h
 repeat' split at h
 all_goals first
  | (cases h;done)
  | (cases h;rfl)
theorem wkTP(c:Ck)(nm:ByteArray):WKs [eTS c.ts,lBo c.timed,aI c.calls,aS nm] [eTS c.ts,lBo c.timed,aI c.calls,aS nm] := .cons (.hf (zq _)) (.cons (.hf (YJ _)) (.cons (.hf (HF.sc _)) (.cons (.hf (HF.sc _)) .nil)))
theorem wk1I(k:Int):WKs [aI k] [aI k] := .cons (.hf (HF.sc _)) .nil
theorem fl_sb(s:RS)(b:Bool):FL (.tup [eRS s,aB b]):=FL.tup fun x g=>by
 rcases qw.1 g with rfl|g
 .exact FL.agg fun c i=>by
   rcases qw.1 i with rfl|i
   .exact FL.sc _
   .obtain ⟨j,_,rfl⟩:=qp.1 i
    exact FL.sc _
 .rw [qN]at g;subst g;exact FL.sc _
theorem qjR(c:Ck)(j:okCk c)(s:Scp)(n:Nd)(i:zK c n.op n.name=true):ExR c s true n:=by
 refine⟨zR,?_,fun _ q h=>?_⟩
 case refine_2=>rw[yy,if_pos (by simp[i])]at h;cases h
 have l:exam c s true n = .error (46,n.pos):=by rw[yy,if_pos (by simp[i])]
 rw[l];rw[VH]at i;refine qSQ call233 func233 rfl { mt:=[3] } ?_;have o:=Zn n.op;have p:=Zo c j n.name;simp[go_sem];refine qd.pure o (wk1I _) ?_;cases hT:zQ n.op with
 |true =>
  simp[go_sem];refine qm.seg [0,1,2,3,4,5] [(0,0,[]),(1,0,[]),(2,0,[]),(3,0,[]),(4,1,[2]),(5,1,[])] (by kernel_rfl) (by kernel_rfl) (by simp[go_sem]) ?_;simp[go_sem,dgOf];exact .hf _ (ju zR (46,n.pos))
 |false =>
  rw[hT,Bool.false_or,qr]at i;obtain⟨h47,hB⟩:=i;have h47:n.op=47:=by simpa using h47
  simp[go_sem,h47];refine qd.pure p (wkTP c n.name) ?_;rw[hB];simp[go_sem];refine qm.seg [0,1,2,3,4,5] [(0,0,[]),(1,0,[]),(2,0,[]),(3,0,[]),(4,1,[2]),(5,1,[])] (by kernel_rfl) (by kernel_rfl) (by simp[go_sem]) ?_;simp[go_sem,dgOf];exact .hf _ (ju zR (46,n.pos))
theorem qjS(c:Ck)(l:okCk c)(s:Scp)(g:s.length<=100000)(inn:Bool)(n:Nd)(i:n.op=1):ExR c s inn n:=by
 have o:exam c s inn n=yY c s n.name n.pos:=by
  rw[yy,VH,i,show zQ 1=false from rfl];simp
 refine⟨resS (yY c s n.name n.pos),?_,fun _ q h=>by rw[o]at h;rw[h];rfl⟩;rw[o];have p:=nameU c l inn s n g;rw[qjP]at p;generalize resS (yY c s n.name n.pos)=S at *
 generalize dgOf (yY c s n.name n.pos)=D at *
 refine qSQ call233 func233 rfl { mt:=[3] } ?_;have r:=Zn n.op;have I:=Zo c l n.name;have hT:zQ n.op=false:=by rw[i];rfl
 rw[hT]at r;have C:=wkE c inn (envS s) n;cases inn
 case' true =>
  simp[go_sem];refine qd.pure r (wk1I _) ?_
 all_goals
  simp[go_sem,i];refine qd.pure p C ?_;simp[go_sem,qq];rw[if_pos (qT _)];generalize t:putCells _ 0 (aI S.1 :: hB S.2)=P;have j:P=aI S.1 :: hB S.2:=by rw[<-t];exact pc (aI 0) _ (fun _=>false) _
  subst j;clear t;simp[go_sem,qq,QE.tk];exact .hf _ (ju S D)
theorem qjT(c:Ck)(i:okCk c)(s:Scp)(p:ScOk c.ts.sorts.length s)(inn:Bool)(n:Nd)(r:WfN n)(h47:n.op=47)(g:(inn&&zK c n.op n.name)=false)(t:∀ k,k∈n.kids->ExR c s true k):ExR c s inn n:=by
 have C:exam c s inn n=Yg c s n:=by
  rw[yy,g,if_neg (by simp),if_neg (by omega),if_pos h47];rfl
 have I:=qjL c i s p n r h47 t inn;refine⟨zR,?_,fun j=>by rw[h47]at j;exact absurd j (by decide)⟩;rw[C];generalize dgOf (Yg c s n)=D at *
 refine qSQ call233 func233 rfl { mt:=[3] } ?_;have l:=Zn n.op;have o:=Zo c i n.name;have hT:zQ n.op=false:=by rw[h47];rfl
 rw[hT]at l;have J:=wkE c inn (envS s) n;cases inn
 case' true =>
  rw[Bool.true_and,VH,hT,h47]at g;have hB:tpB c n.name=false:=by simpa using g
  rw[hB]at o;simp[go_sem];refine qd.pure l (wk1I _) ?_;simp[go_sem,h47];refine qd.pure o (wkTP c n.name) ?_
 all_goals
  simp[go_sem,h47];refine qd.pure I J ?_;simp[go_sem];exact .hf _ (ju zR D)
theorem qjU(c:Ck)(T:okCk c)(s:Scp)(p:ScOk c.ts.sorts.length s)(r:s.length<=90000)(inn:Bool)(n:Nd)(U:WfN n)(o:n.op=15\/n.op=45\/n.op=46)(ht:(inn&&zK c n.op n.name)=false)(ih:∀ k,k∈n.kids->∀ s',ScOk c.ts.sorts.length s'->s'.length<=s.length+1->∀ inn,ExR c s' inn k):ExR c s inn n:=by
 have hx:exam c s inn n=zM c s (inn||decide (n.op=15)) n.name n.pos n.kids:=by
  rw[yy,ht,if_neg (by simp),if_neg (by omega),if_neg (by omega),if_pos o]
 obtain⟨a,g,i,t⟩:=VA U o;have cb:=qjN c T s p r n a g U o i t inn (ih a (by rw[i];simp) s p (by omega) _) (fun k C j=>ih g (by rw[i];simp) _ (fun v I=>by
  rcases qw.1 I with rfl|I
  .exact ⟨C,j⟩
  .exact p v I) (by simp) _)
 refine⟨YL (exam c s (inn||decide (n.op=15)) a),?_,fun _ q h=>?_⟩
 case refine_2 =>
  rw[hx,i]at h;simp only[zM]at h;split at h
  .cases h
  .cases h
  .rename_i k C
   split at h
   .rename_i j
    split at h
    .cases h
    .cases h
     rw[C];exact if_pos j
   .cases h
 rw[hx];generalize YL (exam c s (inn||decide (n.op=15)) a)=S at *
 generalize dgOf (zM c s (inn||decide (n.op=15)) n.name n.pos n.kids)=D at *
 refine qSQ call233 func233 rfl { mt:=[3] } ?_;have J:=Zn n.op;have cp:=Zo c T n.name;have h47:¬n.op=47:=by omega
 have hT:zQ n.op=false:=by unfold zQ;rcases o with h|h|h<;>rw[h]<;>decide
 rw[hT]at J;have wn:=wkE c inn (envS s) n;rcases o with h|h|h
 all_goals
  rw[h]at J;cases inn
 all_goals
  simp[go_sem,h]
  try (refine qd.pure J (wk1I _) ?_)
  try simp[go_sem,h]
  refine qd.pure cb wn ?_;simp[go_sem,qq];rw[if_pos (qT _)];generalize hP:putCells _ 0 (aI S.1 :: hB S.2)=P;have R:P=aI S.1 :: hB S.2:=by rw[<-hP];exact pc (aI 0) _ (fun _=>false) _
  subst R;clear hP;simp[go_sem,qq,QE.tk];exact .hf _ (ju S D)
def seqL(X:Nd->Res):List Nd->Except Dg (List (Option Kd))
 | [] => .ok []
 |k :: ks=>match X k with
  | .error e => .error e
  | .ok a=>match seqL X ks with
   | .error e => .error e
   | .ok l => .ok (a :: l)
theorem mi(c:Ck)(s:Scp)(B:Bool):∀ ks:List Nd,qS c s B ks=seqL (exam c s B) ks
 | []=>by simp only[qS,seqL]
 |k :: ks=>by simp only[qS,seqL];rw[mi c s B ks];cases exam c s B k with
  |error e=>rfl
  |ok a=>cases seqL (exam c s B) ks<;>rfl
theorem Xt{C:Type}{l:List C}{a b c:C}(g:l[0]?=some a)(i:l[1]?=some b)(j:l[2]?=some c):∃ r,l=a :: b :: c :: r:=by
 match l,g,i,j with
 |_ :: _ :: _ :: r,g,i,j =>
  simp at g i j;exact⟨r,by rw[g,i,j]⟩
theorem qjV{n:Nd}(j:WfN n)(h:(n.op=5\/n.op=11\/n.op=12\/n.op=13)\/(n.op=6\/n.op=14\/n.op=7\/n.op=8\/n.op=32\/n.op=33\/n.op=9\/n.op=10)):∀ x,x∈n.kids->kd x.op=101:=by
 have g:=j.shape;intro x l;have i:kd x.op∈n.kids.map fun k=>kd k.op:=qp.2 ⟨x,l,rfl⟩
 rcases h with h|h
 .unfold shp at g
  rw[if_neg (by omega),if_pos (by omega)]at g;simp only[qo]at g;rw[<-g]at i;simpa using i
 .unfold shp at g
  rw[if_neg (by omega),if_neg (by omega),if_pos (by omega)]at g;simp only[qo]at g;rw[<-g]at i;simpa using i
set_option maxHeartbeats 2000000 in
theorem ex_t(c:Ck)(hc:okCk c)(s:Scp)(n:Nd)(inn B:Bool)(X:Nd->Res)(S:RS)(D:Dg)(h1:¬n.op=1)(h47:¬n.op=47)(hb:¬(n.op=15\/n.op=45\/n.op=46))(hw:WfN n)(au:n.kids.length<=401)(hT:inn=true->zQ n.op=false)(a5:n.op=12->B=true)(a6:n.op=13->B=true)(af:¬n.op=12->¬n.op=13->B=inn)
  (ag:∀ k,k∈n.kids->∃ S,qe qc 233 [eVw c B,lVr (envS s),eNd k] (.tup [eRS S,eDg (dgOf (X k))])/\(kd k.op=101->∀ q,X k = .ok (some q)->S=qn q))
  (a7:∀ k a,k∈n.kids->X k = .ok a->kd k.op=101->∃ q,a=some q/\okKd c.ts.sorts.length q)
  (a1:∀ k e,X k = .error e->40<=e.1)
  (ah:∀ e,seqL X n.kids = .error e->S=zR/\D=e)
  (ai:∀ l,seqL X n.kids = .ok l->∃ S' b,(∀ L:List RS,((n.op=5\/n.op=11\/n.op=12\/n.op=13)\/(n.op=6\/n.op=14\/n.op=7\/n.op=8\/n.op=32\/n.op=33\/n.op=9\/n.op=10)->L=l.map setO)->prC c.ts n L S' b)/\(b=true->S=S'/\D=(0,0))/\(b=false->S=zR/\D=(42,n.pos))) :
  qe qc 233 [eVw c inn,lVr (envS s),eNd n] (.tup [eRS S,eDg D]):=by
 simp only[not_or]at hb;obtain⟨b1,b2,b3⟩:=hb;refine qSQ call233 func233 rfl { mt:=[3] } ?_;have ct:=Zn n.op;have cp:=Zo c hc n.name;cases inn
 all_goals first
  | (rw[hT rfl]at ct;simp[go_sem];refine qd.pure ct (wk1I _) ?_)
  |skip
 all_goals simp[go_sem,h1,h47,b1,b2,b3]
 all_goals rcases (show n.op=12\/(¬n.op=12/\n.op=13)\/(¬n.op=12/\¬n.op=13) by omega) with C|⟨C,U⟩|⟨C,U⟩
 all_goals first|simp[go_sem,C,U] | simp[go_sem,C]
 all_goals first|have a2:=a5 C|have a2:=a6 U|have a2:=af C U
 all_goals
  refine qk.upK n.kids.length (fun k st=>∃(p:List (Option Kd)) (L:List RS),p.length=k/\L.length=k/\st.tm 1=lVr (envS s)/\st.tm 3 = .ptr 0 0/\st.tm 5 = .ip (cNd n)/\st.tm 6 = .ptr 1 0/\st.tm 7 = .ptr 2 0/\st.tm 9=aI k/\st.mu[0]?=some (.arr (cVw c B))/\st.mu[1]?=some (.arr (aI 0 :: hB fun _=>false))/\st.mu[2]?=some (.arr [aI 0,aI 0])/\OwnF 3 st.mu 65 (st.tm 8) (L.map cRS)/\(∀(i:Nat) x,n.kids[i]?=some x->i<k->kd x.op=101->∃ q,p[i]?=some (some q)/\L[i]?=some (qn q))/\seqL X n.kids=(match seqL X (n.kids.drop k) with | .error e => .error e | .ok l => .ok (p++l))) ?_ ?_
  .refine ⟨[],[],rfl,rfl,by simp[go_sem],by simp[go_sem],by simp[go_sem],by simp[go_sem],by simp[go_sem],by simp[go_sem],by rw[a2];simp[go_sem],by simp[go_sem];rfl,by simp[go_sem],by simp[go_sem];exact OwnF.nil (by simp),fun i x _ h=>absurd h (by omega),?_⟩
   simp only[List.drop_zero,vf];cases seqL X n.kids<;>rfl
  rintro k st hk ⟨p,L,a8,a9,e1,e3,e5,e6,e7,e9,m0,m1,m2,ho,a0,I⟩;generalize h8:st.tm 8=av at *
  by_cases t:k<n.kids.length
  .have w1:qi.wrap ((k:Int)+1)=(k:Int)+1:=qg (by omega) (by omega)
   obtain⟨Sk,ck,aj⟩:=ag n.kids[k] (qy t);rw[zG t]at I;simp only[seqL]at I;simp[go_sem,e5,e9,t];refine qm.seg [0,1,2,3,4,5,6,7,8,9,10,11,12,13,14] [(0,0,[]),(1,0,[]),(2,0,[]),(3,0,[]),(4,0,[]),(5,0,[]),(6,0,[]),(7,1,[]),(8,0,[]),(9,0,[]),(10,0,[]),(11,2,[0,3,6]),(12,2,[0,3,6]),(13,1,[]),(14,1,[])] (by kernel_rfl) (by kernel_rfl) (by simp[go_sem]) ?_;have aa:2<st.mu.length:=(qj.1 m2).1;have o:∀(l:List Cell) (i:Nat),i<st.mu.length->(st.mu++l)[i]?=st.mu[i]?:=fun l i J=>qx J
   have p0:=fun l=>(o l 0 (by omega)).trans m0
   have p1:=fun l=>(o l 1 (by omega)).trans m1
   have p2:=fun l=>(o l 2 (by omega)).trans m2
   have g0:=(qj.1 m0).2;have g1:=(qj.1 m1).2;have g2:=(qj.1 m2).2;have a3:0<st.mu.length:=by omega
   have ak:1<st.mu.length:=by omega
   simp[go_sem,e1,e3,e5,e9,t,m0];refine qd.pure ck (wkE c _ _ _) ?_;cases hx:X n.kids[k] with
   |error e =>
    have he:=a1 _ _ hx;have al:¬e.1=0:=by omega
    rw[hx]at I;have I:seqL X n.kids = .error e:=I;obtain⟨an,ao⟩:=ah e I;rw[an,ao];simp[go_sem,e3,g0,a3,qq,dgOf];rw[if_pos (qT _)];generalize hP:putCells _ 0 (cRS Sk)=P;have R:P=cRS Sk:=by rw[<-hP];exact pc (aI 0) _ (fun _=>false) _
    subst R;clear hP;simp[go_sem,al];refine qm.seg [0,1,2,3] [(0,0,[]),(1,0,[]),(2,1,[1]),(3,1,[])] (by kernel_rfl) (by kernel_rfl) (by simp[go_sem]) ?_;simp[go_sem,e6,e7,a3,qq,g1,g2,ak,aa];exact .hf _ (ju zR e)
   |ok a =>
    rw[hx]at I;simp only at I;simp[go_sem,e3,g0,a3,qq,dgOf];rw[if_pos (qT _)];generalize hP:putCells _ 0 (cRS Sk)=P;have R:P=cRS Sk:=by rw[<-hP];exact pc (aI 0) _ (fun _=>false) _
    subst R;clear hP;simp[go_sem,h8,qq,QE.tk];rw[if_pos (qT _)];simp[go_sem];refine appRS (lo:=3) (xs:=L) (ys:=[Sk]) ⟨by simpa using Wa (Wa ho.1 _) _,ho.2.1,by have:=ho.2.2;simp;omega⟩ (by simp[qM]) (by simp;omega) fun aw m' aq a4=>?_
    simp[go_sem,e9,t,w1];refine Keep.mk' ⟨p++[a],L++[Sk],by simp[a8],by simp[a9],by simp[go_sem,e1],by simp[go_sem,e3],by simp[go_sem,e5],by simp[go_sem,e6],by simp[go_sem,e7],by simp[go_sem],?_,?_,?_,by simpa[go_sem] using aq,fun i x J ax T=>?_,?_⟩
    .simp only[zl];exact(a4 0 (by omega)).trans (p0 _)
    .simp only[zl];exact(a4 1 (by omega)).trans (p1 _)
    .simp only[zl];exact(a4 2 (by omega)).trans (p2 _)
    .by_cases ab:i=k
     .subst ab
      rw[qz t]at J;cases J;obtain⟨q,rfl,_⟩:=a7 _ a (qy t) hx T;refine⟨q,?_,?_⟩
      .rw [qV (by omega),a8];simp
      .rw [qV (by omega),a9];simp[aj T q hx]
     .obtain ⟨q,q1,q2⟩:=a0 i x J (by omega) T
      exact⟨q,by rw[qx (by omega)];exact q1,by rw[qx (by omega)];exact q2⟩
    .rw [I]
     cases seqL X (n.kids.drop (k+1)) with
     |error e=>rfl
     |ok l=>simp
  .have ad:k=n.kids.length:=by omega
   subst ad;rw[yH]at I;have I:seqL X n.kids = .ok p:=by rw[I];simp only[seqL,zO]
   obtain⟨S',b,q1,q2,q3⟩:=ai p I;have hL:((n.op=5\/n.op=11\/n.op=12\/n.op=13)\/(n.op=6\/n.op=14\/n.op=7\/n.op=8\/n.op=32\/n.op=33\/n.op=9\/n.op=10))->L=p.map setO:=fun h=>by
    have T:∀ x,x∈n.kids->kd x.op=101:=fun x hx=>qjV hw h x hx
    refine List.ext_getElem? fun i=>?_
    by_cases J:i<n.kids.length
    .obtain ⟨q,e1,e2⟩:=a0 i n.kids[i] (by simp[J]) J (T _ (qy J))
     rw[e2,List.getElem?_map,e1];rfl
    .rw [yF (by omega),yF (by simp;omega)]
   have hp:=q1 L hL;unfold prC at hp;have aa:2<st.mu.length:=(qj.1 m2).1;have o:∀(l:List Cell) (i:Nat),i<st.mu.length->(st.mu++l)[i]?=st.mu[i]?:=fun l i J=>qx J
   obtain⟨rr,ae⟩:=Xt m0 m1 m2;simp[go_sem,e3,e5,e9,h8,m0];refine qd.lend (args':=[eTS c.ts,eNd n,lRS L]) hp ⟨.hf _ (zq _),.hf _ (ze n),rdRS ho,trivial⟩ (fl_sb S' b) ?_;have ay:st.mu.length=rr.length+3:=by rw[ae];rfl
   clear m0 m1 m2 o ho;simp[go_sem,ae,qq];rw[if_pos (qT _)];generalize hP:putCells _ 0 (cRS S')=P;have R:P=cRS S':=by rw[<-hP];exact pc (aI 0) _ (fun _=>false) _
   subst R;clear hP;cases b with
   |true =>
    obtain⟨rfl,rfl⟩:=q2 rfl;simp[go_sem,e6,qq,QE.tk,pc];rw[if_pos (qT _)];simp[go_sem,e6,e7,qq,QE.tk];exact .hf _ (ju S (0,0))
   |false =>
    obtain⟨rfl,rfl⟩:=q3 rfl;simp[go_sem];refine qm.seg [0,1,2,3,4,5] [(0,0,[]),(1,0,[]),(2,0,[]),(3,0,[]),(4,1,[2]),(5,1,[])] (by kernel_rfl) (by kernel_rfl) (by simp[go_sem]) ?_;simp[go_sem,e5,e6,e7,qq];exact .hf _ (ju zR (42,n.pos))
theorem qjW(c:Ck)(t:okCk c)(s:Scp)(hs:ScOk c.ts.sorts.length s)(inn:Bool)(n:Nd)(C:WfN n)(h1:¬n.op=1)(h47:¬n.op=47)(hb:¬(n.op=15\/n.op=45\/n.op=46))(ht:(inn&&zK c n.op n.name)=false)(ih:∀ k,k∈n.kids->∀ inn,ExR c s inn k):ExR c s inn n:=by
 have hx:exam c s inn n=match qS c s (inn||decide (n.op=12)||decide (n.op=13)) n.kids with | .error e => .error e | .ok l=>zL c.ts.sorts.length n.op n.n n.pos l:=by
  rw[yy,ht,if_neg (by simp),if_neg h1,if_neg h47,if_neg hb];generalize qS c s _ n.kids=Z;cases Z<;>rfl
 have I:n.op=12\/n.op=13->(inn||decide (n.op=12)||decide (n.op=13))=true:=fun h=>by rcases h with h|h<;>simp[h]
 have a1:¬n.op=12->¬n.op=13->(inn||decide (n.op=12)||decide (n.op=13))=inn:=fun h h'=>by simp[h,h']
 generalize (inn||decide (n.op=12)||decide (n.op=13))=B at *
 obtain⟨S,D,J,hq,P,R⟩:∃ S D,dgOf (exam c s inn n)=D/\(kd n.op=101->∀ q,exam c s inn n = .ok (some q)->S=qn q)/\(∀ e,qS c s B n.kids = .error e->S=zR/\D=e) /\
   (∀ l,qS c s B n.kids = .ok l->∃ r b,(∀ L:List RS,((n.op=5\/n.op=11\/n.op=12\/n.op=13)\/(n.op=6\/n.op=14\/n.op=7\/n.op=8\/n.op=32\/n.op=33\/n.op=9\/n.op=10)->L=l.map setO)->prC c.ts n L r b)/\(b=true->S=r/\D=(0,0))/\(b=false->S=zR/\D=(42,n.pos))):=by
  rw[hx];cases hE:qS c s B n.kids with
  |error e=>exact⟨zR,e,rfl,(fun _ q h=>by cases h),(fun e' h=>by cases h;exact⟨rfl,rfl⟩),(fun l h=>by cases h)⟩
  |ok l =>
   obtain⟨a2,a3⟩:=J4 hE;have g:=(kR t.ts.ns C a2 (fun i k' a hi ha o=>uO t (szN k') k' s B a (qs _) (C.kid (List.mem_of_getElem? hi)) hs (a3 i k' a hi ha) o)).2;obtain⟨r,b,p1,j⟩:=qjO c.ts t.ts n l h1 (fun h=>hb (.inl h)) (fun h=>by
    rcases h with h|h|h|h
    .exact g.1 h
    .exact g.2.1 (.inl h)
    .exact g.2.1 (.inr (.inl h))
    .exact g.2.1 (.inr (.inr h))) g.2.2
   simp only;cases hA:zL c.ts.sorts.length n.op n.n n.pos l with
   |error e =>
    rw[hA]at j;have j:b=false:=j;refine⟨zR,e,rfl,(fun _ q h=>by cases h),(fun e' h=>by cases h),(fun l' h=>by cases h;exact⟨r,b,p1,(fun h=>by rw[j]at h;cases h),(fun _=>⟨rfl,qjQ hA⟩)⟩)⟩
   |ok ko =>
    rw[hA]at j;obtain⟨j,p3⟩:=j;refine⟨r,(0,0),rfl,(fun T q h=>?_),(fun e' h=>by cases h),(fun l' h=>by cases h;exact⟨r,b,p1,(fun _=>⟨rfl,rfl⟩),(fun h=>by rw[j]at h;cases h)⟩)⟩;obtain⟨q',e1,e2⟩:=p3 T;cases h;cases e1;exact e2
 refine⟨S,?_,hq⟩;rw[J];clear J hx hq;obtain⟨X,U⟩:∃ X:Nd->Res,X=exam c s B:=⟨_,rfl⟩;have a4:∀ k,k∈n.kids->∃ S,qe qc 233 [eVw c B,lVr (envS s),eNd k] (.tup [eRS S,eDg (dgOf (X k))])/\(kd k.op=101->∀ q,X k = .ok (some q)->S=qn q):=fun k T=>by rw[U];exact ih k T B
 have a0:∀ k a,k∈n.kids->X k = .ok a->kd k.op=101->∃ q,a=some q/\okKd c.ts.sorts.length q:=fun k a T h o=>by rw[U]at h;exact uO t (szN k) k s B a (qs _) (C.kid T) hs h o
 have p:∀ k e,X k = .error e->40<=e.1:=fun k e h=>by rw[U]at h;exact Ys c (szN k) k s B e (qs _) h
 rw[mi,<-U]at P R;clear U ih;have a5:=C.len;exact ex_t c t s n inn B X S D h1 h47 hb C a5 (fun hi=>by
  rw[hi,Bool.true_and,VH,Bool.or_eq_false_iff]at ht;exact ht.1) (fun h=>I (.inl h)) (fun h=>I (.inr h)) a1 a4 a0 p P R
theorem mj(c:Ck)(g:okCk c):∀(m:Nat) (n:Nd),depN n<=m->WfN n->∀(s:Scp),ScOk c.ts.sorts.length s->s.length+m<=80000->∀ inn,ExR c s inn n
 | 0,n,C,_,_,_,_,_=>by have:=nj n;omega
 |m+1,n,C,p,s,l,P,inn=>by
  have r:∀ k,k∈n.kids->∀ o,ScOk c.ts.sorts.length o->o.length<=s.length+1->∀ inn,ExR c o inn k:=fun k i o t R inn=>mj c g m k (by have:=nh i;rw[Zg]at C;omega) (p.kid i) o t (by omega) inn
  cases j:inn&&zK c n.op n.name with
  |true =>
   rw[qr]at j;rw[j.1];exact qjR c g s n j.2
  |false =>
   by_cases I:n.op=1
   .exact qjS c g s (by omega) inn n I
   by_cases h47:n.op=47
   .exact qjT c g s l inn n p h47 j fun k i=>r k i s l (by omega) true
   by_cases J:n.op=15\/n.op=45\/n.op=46
   .exact qjU c g s l (by omega) inn n p J j r
   .exact qjW c g s l inn n p I h47 J j fun k i inn=>r k i s l (by omega) inn
end QS
namespace QT
open YF Y9 Y10 Y1 Y2 Y14 Y15 Y16 YZ P1 P2 PA Q5 QD QE QI QJ QL QM QO QS
section
variable {ts:TS}
def ckR(ts:TS)(i:Nat):Ck:=⟨ts,i,tmsL ts ts.preds.length⟩
theorem VI(h:okTS ts){i:Nat}(g:i<=ts.preds.length):okCk (ckR ts i):=⟨h,g,by show i<=(tmsL ts ts.preds.length).length;rw[Q0 ts _ (qs _)];exact g⟩
theorem mm{c c':Ck}(g:c'.ts=c.ts)(r:∀ nm,zf c' nm=zf c nm)(t:∀ op nm,zK c' op nm=zK c op nm):∀(m:Nat) (n:Nd) (s:Scp) (inn:Bool),szN n<=m->exam c s inn n=exam c' s inn n
 | 0,n,_,_,J=>by obtain⟨op,nm,i,ks,p⟩:=n;simp[szN]at J
 |m+1,n,s,inn,J=>by
  have o:∀ k,k∈n.kids->∀(s:Scp) (inn:Bool),exam c s inn k=exam c' s inn k:=fun k o s inn=>mm g r t m k s inn (by have:=yx o;omega)
  refine gn rfl rfl rfl rfl (t _ _) (fun _=>?_) (by rw[g]) (r _) (by rw[g]) rfl (fun _ R=>gt fun k l=>o k l s true) (fun _ inn=>?_) (fun _ _ _ inn=>Vk fun k l=>o k l s inn)
  .rw [wu,wu,g]
  .cases C:n.kids with
   |nil=>rfl
   |cons k ks =>
    have j:∀ x,x∈k :: ks->x∈n.kids:=fun x I=>by rw[C];exact I
    simp only[zM];rw[o k (j k (qU ..)) s inn];have P:∀ a,qS c ((n.name,a) :: s) inn ks=qS c' ((n.name,a) :: s) inn ks:=fun a=>Vk fun x I=>o x (j x (qO _ I)) _ _
    simp only[P]
theorem qjX(h:okTS ts){i:Nat}(l:i<=ts.preds.length)(n:Nd)(s:Scp)(inn:Bool):exam (ckR ts i) s inn n=exam (mkCk ts i) s inn n:=by
 refine(mm (c:=mkCk ts i) (c':=ckR ts i) rfl (fun t=>rfl) (fun op t=>?_) (szN n) n s inn (qs _)).symm;unfold zK;have e:zf (ckR ts i) t=zf (mkCk ts i) t:=rfl;rw[e];cases o:zf (mkCk ts i) t with
 |none=>rfl
 |some p =>
  obtain⟨j,g⟩:=Qy (uN h l) o;have j:p<i:=j;have g:p<ts.preds.length:=g;simp only;have r:=PC.Vw ts p ts.preds.length g (qs _) g;have C:=PC.Vw ts p i j l g;show (zQ op||(decide (op=47)&&(tmsL ts ts.preds.length).getD p false))=(zQ op||(decide (op=47)&&(tmsL ts i).getD p false));rw[r,C]
theorem qjY(h:okTS ts){i:Nat}(g:i<=ts.preds.length)(env:List (ByteArray×Int))(n:Nd):jP (mkCk ts i) env n=if 30<=n.op then dgOf (exam (ckR ts i) (yP env) false n) else (43,n.pos):=by
 unfold jP;rw[qjX h g]
theorem mn(ts:TS)(h:okTS ts)(J:∀ p,p∈ts.preds->WfN p.body)(i:Nat)(o:i<=ts.preds.length)(env:List (ByteArray×Int))(t:We ts.sorts.length env)(j:env.length<=1000)(n:Nd)(R:WfN n)(T:depN n<=24) :
  qe qc 157 [eTS ts,aI i,lPm env,eNd n] (eDg (jP (mkCk ts i) env n)):=by
 rw[qjY h o];have U:=h.ns;have hs:=kU t;have a0:(yP env).length=env.length:=by
  have:=congrArg List.length (n6 env);rw[VG]at this;simpa[envV] using this.symm
 obtain⟨S,ce,_⟩:=mj (ckR ts i) (VI h o) 24 n T R (yP env) hs (by omega) false;have C:=envU env j (fun p hp=>by have:=t.r p hp;omega);rw[n6]at C;have c1:=qjD n;have c2:=qjA ts h J;refine qSV call157 func157 rfl ?_;simp[go_sem];refine qd.pure c1 (.cons (.hf (ze n)) .nil) ?_;by_cases g:30<=n.op
 .rw [if_pos g]
  generalize dgOf (exam (ckR ts i) (yP env) false n)=D at *
  simp[go_sem,g];refine qm.seg [0,1,3,5,7,2,4,6,8,9,10,11,12,13,14,15] [(0,0,[]),(1,0,[]),(3,0,[]),(5,0,[]),(7,0,[]),(2,1,[0,7]),(4,0,[]),(6,1,[0,7]),(8,1,[]),(9,0,[]),(10,0,[]),(11,0,[]),(12,2,[0,1,7]),(13,2,[0,1,7]),(14,1,[]),(15,1,[])] (by kernel_rfl) (by kernel_rfl) (by simp[go_sem]) ?_;simp[go_sem];refine qd.pure c2 (.cons (.hf (zq ts)) .nil) ?_;simp[go_sem];refine qd.pure C (.cons (.hf (Z8 env)) .nil) ?_;simp[go_sem];refine qd.pure ce (wkE (ckR ts i) false _ n) ?_;simp[go_sem,qq];rw[if_pos (qT _)];generalize I:putCells _ 0 (cRS S)=P;have l:P=cRS S:=by rw[<-I];exact pc (aI 0) _ (fun _=>false) _
  subst l;clear I;simp[go_sem];exact .hf _ (um D)
 .rw [if_neg g]
  simp[go_sem,g];exact .hf _ (um (43,n.pos))
theorem Xu(ts:TS)(h:okTS ts)(i:∀ p,p∈ts.preds->WfN p.body)(env:List (ByteArray×Int))(j:We ts.sorts.length env)(g:env.length<=1000)(n:Nd)(l:WfN n)(o:depN n<=24) :
  qe qc 75 [eTS ts,lPm env,eNd n] (eDg (yg ts env n)):=by
 have c1:=mn ts h i ts.preds.length (qs _) env j g n l o;have e:jP (mkCk ts ts.preds.length) env n=yg ts env n:=rfl;rw[e]at c1;generalize yg ts env n=D at *
 refine qSV call75 func75 rfl ?_;simp[go_sem];refine qd.pure c1 (.cons (.hf (zq ts)) (.cons (.hf (HF.sc _)) (.cons (.hf (Z8 env)) (.cons (.hf (ze n)) .nil)))) ?_;simp[go_sem];exact .hf _ (um D)
theorem Zp(a b:List Bool):dups (a++b)=dups a++dups b:=by simp[dups]
theorem un(b:Bool):dups [b]=if b=true then [(41,0)] else []:=by cases b<;>rfl
theorem ue(l:List Bool):(dups l).length<=l.length:=by
 unfold dups;rw[List.length_map];exact List.length_filter_le ..
theorem Xv{C:Type}(g:C->C->Bool)(l:List C)(k:Nat)(h:k<l.length):(repL g l).take (k+1)=(repL g l).take k++[(l.take k).any fun y=>g l[k] y]:=by
 have i:k<(repL g l).length:=by rw[uP];exact h
 rw[jH i];congr 2;have:=kV g l h;rw[qz i]at this;exact Option.some.inj this
theorem VJ{C:Type}(p:C->Bool)(l:List C)(k:Nat)(h:k<l.length):(l.take (k+1)).any p=((l.take k).any p||p l[k]):=by
 rw[jH h,List.any_append];simp only[List.any_cons,List.any_nil,Bool.or_false]
abbrev eS:ByteArray×Bool->ByteArray×Bool->Bool:=fun x y=>decide (x.1=y.1)
abbrev eF:Fld->Fld->Bool:=fun x y=>decide (x.name=y.name)&&decide (x.sorts=y.sorts)
abbrev eP:Pd->Pd->Bool:=fun x y=>decide (x.name=y.name)
abbrev eM:ByteArray×Int->ByteArray×Int->Bool:=fun x y=>decide (x.1=y.1)
abbrev eA:ByteArray×Nd->ByteArray×Nd->Bool:=fun x y=>decide (x.1=y.1)
theorem uX{mu:Mu}{lo:Nat}{s x:AV}{xs ys:List Dg}{K:AV->Mu->Prop}(o:OwnF lo mu 2 s (xs.map cDg))(t:qM mu x=some (ys.map cDg))(P:xs.length+ys.length<=100000)(C:∀ av g,OwnF lo g 2 av ((xs++ys).map cDg)->(∀ i,i<lo->g[i]?=mu[i]?)->K av g) :
  qD qc mu #[117,117] s x K:=by
 have j:∀ l:List Dg,zj 2 (l.map cDg):=fun l r I=>by
  obtain⟨n,_,rfl⟩:=qp.1 I;exact⟨rfl,rfl⟩
 refine qD.ownF (lo:=lo) (e:=137) (sz:=2) (bt:=16) (zv := .agg [aI 0,aI 0]) (xs:=xs.map cDg) (ys:=ys.map cDg) (by simp[go_sem]) (by simp[go_sem]) (by simp[go_sem]) rfl rfl (by omega) (by omega) o t (j xs) (j ys) (by simp;omega) ?_;intro av g h J;exact C av g (by rw[zg];exact h) J
theorem qjZ(ts:TS)(h:okTS ts)(mu:Mu):qP qc 134 [eTS ts] mu fun e m=>∃ av,e = .ret av/\OwnF mu.length m 2 av ((dups (repL eS ts.sorts)++dups (repL eF ts.fields)).map cDg)/\∀ i,i<mu.length->m[i]?=mu[i]?:=by
 refine qSW call134 func134 rfl {} ?_;have a6:=h.ns;have ab:=h.nf;simp[go_sem];refine qk.upK ts.sorts.length (fun i st=>st.tm 1 = .ip (cTS ts)/\st.tm 4=aI i/\OwnF mu.length st.mu 2 (st.tm 3) ((dups ((repL eS ts.sorts).take i)).map cDg)/\∀ i,i<mu.length->st.mu[i]?=mu[i]?) ?_ ?_
 .exact ⟨by simp[go_sem],by simp[go_sem],by simp[go_sem,dups];exact OwnF.nil (qs _),by simp[go_sem]⟩
 rintro i st U ⟨P,e4,I,hm⟩;have a0:(dups ((repL eS ts.sorts).take i)).length<=i:=zY (ue _) (List.length_take_le ..);generalize h3:st.tm 3=av at *
 by_cases o:i<ts.sorts.length
 .have t:=Xv eS ts.sorts i o
  have wi:qi.wrap ((i:Int)+1)=(i:Int)+1:=qg (by omega) (by omega);simp[go_sem,P,e4,o];refine qk.upK i (fun k st2=>st2.tm 1 = .ip (cTS ts)/\st2.tm 4=aI i/\st2.tm 3=av/\st2.tm 6=aI k/\st2.tm 5=aB ((ts.sorts.take k).any fun y=>eS ts.sorts[i] y)/\st2.mu=st.mu) ?_ ?_
  .exact ⟨by simp[go_sem,P],by simp[go_sem,e4],by simp[go_sem,h3],by simp[go_sem],by simp[go_sem],by simp[go_sem]⟩
  rintro k st2 hk ⟨f1,f4,f3,f6,f5,C⟩;generalize hT:(ts.sorts.take k).any (fun y=>eS ts.sorts[i] y)=T at *
  by_cases p:k<i
  .have r:k<ts.sorts.length:=by omega
   have wk:qi.wrap ((k:Int)+1)=(k:Int)+1:=qg (by omega) (by omega);have g:=VJ (fun y=>eS ts.sorts[i] y) ts.sorts k r;rw[hT]at g;simp[go_sem,f4,f6,p];refine qm.intro (by kernel_rfl) ?_;cases T with
   |true =>
    rw[Bool.true_or]at g;simp[go_sem,f6,f5,p,wk];exact Keep.mk' ⟨by simp[go_sem,f1],by simp[go_sem,f4],by simp[go_sem,f3],by simp[go_sem],by rw[g];simp[go_sem],by simp[go_sem,C]⟩
   |false =>
    rw[Bool.false_or]at g;by_cases J:ts.sorts[k].1=ts.sorts[i].1
    .have l:(ts.sorts.take (k+1)).any (fun y=>eS ts.sorts[i] y)=true:=by rw[g];exact decide_eq_true J.symm
     simp[go_sem,f1,f4,f6,f5,p,r,o,wk,J];exact Keep.mk' ⟨by simp[go_sem,f1],by simp[go_sem,f4],by simp[go_sem,f3],by simp[go_sem],by rw[l];simp[go_sem],by simp[go_sem,C]⟩
    .have l:(ts.sorts.take (k+1)).any (fun y=>eS ts.sorts[i] y)=false:=by rw[g];exact decide_eq_false fun e=>J e.symm
     simp[go_sem,f1,f4,f6,f5,p,r,o,wk,jO J];exact Keep.mk' ⟨by simp[go_sem,f1],by simp[go_sem,f4],by simp[go_sem,f3],by simp[go_sem],by rw[l];simp[go_sem],by simp[go_sem,C]⟩
  .have a1:k=i:=by omega
   subst a1;rw[hT]at t;cases T with
   |true =>
    simp[go_sem,f4,f3,f6,f5,C];refine uX (ys:=[(41,0)]) I (by simp[qM]) (by simp;omega) fun a7 m' a2 a3=>?_
    simp[go_sem,f4,wi];exact⟨o,Keep.mk' ⟨by simp[go_sem,f1],by simp[go_sem],by rw[t,Zp,un,if_pos rfl];simpa[go_sem] using a2,by simp only[zl];exact fun i U=>(a3 i U).trans (hm i U)⟩⟩
   |false =>
    simp[go_sem,f4,f6,f5,C,wi];exact⟨o,Keep.mk' ⟨by simp[go_sem,f1],by simp[go_sem],by rw[t,Zp,un,if_neg (by simp),zO];simpa[go_sem,f3,C] using I,by simp only[zl];exact hm⟩⟩
 .have a4:i=ts.sorts.length:=by omega
  subst a4;rw[zN (by rw[uP];exact qs _)]at I;simp[go_sem,P,e4];generalize a8:dups (repL eS ts.sorts)=a5 at *
  have ad:a5.length<=4:=by rw[<-a8];exact zY (ue _) (by rw[uP];exact a6)
  refine qk.upK ts.fields.length (fun i st=>st.tm 1 = .ip (cTS ts)/\st.tm 7=aI i/\OwnF mu.length st.mu 2 (st.tm 3) ((a5++dups ((repL eF ts.fields).take i)).map cDg)/\∀ i,i<mu.length->st.mu[i]?=mu[i]?) ?_ ?_
  .exact ⟨by simp[go_sem,P],by simp[go_sem],by simpa[go_sem,dups,h3] using I,by simpa[go_sem] using hm⟩
  clear a0 I hm P e4 h3 o U st;rintro i st U ⟨P,e4,I,hm⟩;have a0:(dups ((repL eF ts.fields).take i)).length<=i:=zY (ue _) (List.length_take_le ..);generalize h3:st.tm 3=a9 at *
  by_cases o:i<ts.fields.length
  .have t:=Xv eF ts.fields i o
   have wi:qi.wrap ((i:Int)+1)=(i:Int)+1:=qg (by omega) (by omega);simp[go_sem,P,e4,o];refine qk.upK i (fun k st2=>st2.tm 1 = .ip (cTS ts)/\st2.tm 7=aI i/\st2.tm 3=a9/\st2.tm 9=aI k/\st2.tm 8=aB ((ts.fields.take k).any fun y=>eF ts.fields[i] y)/\st2.mu=st.mu) ?_ ?_
   .exact ⟨by simp[go_sem,P],by simp[go_sem,e4],by simp[go_sem,h3],by simp[go_sem],by simp[go_sem],by simp[go_sem]⟩
   rintro k st2 hk ⟨f1,f4,f3,f6,f5,C⟩;generalize hT:(ts.fields.take k).any (fun y=>eF ts.fields[i] y)=T at *
   by_cases p:k<i
   .have r:k<ts.fields.length:=by omega
    have wk:qi.wrap ((k:Int)+1)=(k:Int)+1:=qg (by omega) (by omega);have g:=VJ (fun y=>eF ts.fields[i] y) ts.fields k r;rw[hT]at g;have ae:=h.fl _ (qy r);have aa:=qe5 ts.fields[k].sorts ts.fields[i].sorts (by omega);simp[go_sem,f4,f6,p];refine qm.intro (by kernel_rfl) ?_;cases T with
    |true =>
     rw[Bool.true_or]at g;simp[go_sem,f6,f5,p,wk];exact Keep.mk' ⟨by simp[go_sem,f1],by simp[go_sem,f4],by simp[go_sem,f3],by simp[go_sem],by rw[g];simp[go_sem],by simp[go_sem,C]⟩
    |false =>
     rw[Bool.false_or]at g;by_cases J:ts.fields[k].name=ts.fields[i].name
     .simp [go_sem,f1,f4,f6,f5,r,o,J]
      refine qd.pure aa (.cons (.hf (zi _)) (.cons (.hf (zi _)) .nil)) ?_;by_cases R:ts.fields[k].sorts=ts.fields[i].sorts
      .have l:(ts.fields.take (k+1)).any (fun y=>eF ts.fields[i] y)=true:=by rw[g];simp[eF,J.symm,R.symm]
       simp[go_sem,f6,p,wk,R];exact Keep.mk' ⟨by simp[go_sem,f1],by simp[go_sem,f4],by simp[go_sem,f3],by simp[go_sem],by rw[l];simp[go_sem],by simp[go_sem,C]⟩
      .have l:(ts.fields.take (k+1)).any (fun y=>eF ts.fields[i] y)=false:=by rw[g];simp[eF,J.symm];exact fun e=>R e.symm
       simp[go_sem,f6,p,wk,R];exact Keep.mk' ⟨by simp[go_sem,f1],by simp[go_sem,f4],by simp[go_sem,f3],by simp[go_sem],by rw[l];simp[go_sem],by simp[go_sem,C]⟩
     .have l:(ts.fields.take (k+1)).any (fun y=>eF ts.fields[i] y)=false:=by rw[g];simp[eF];exact fun e=>absurd e.symm J
      simp[go_sem,f1,f4,f6,f5,p,r,o,wk,jO J];exact Keep.mk' ⟨by simp[go_sem,f1],by simp[go_sem,f4],by simp[go_sem,f3],by simp[go_sem],by rw[l];simp[go_sem],by simp[go_sem,C]⟩
   .have a1:k=i:=by omega
    subst a1;rw[hT]at t;cases T with
    |true =>
     simp[go_sem,f4,f3,f6,f5,C];refine uX (ys:=[(41,0)]) I (by simp[qM]) (by simp;omega) fun a7 m' a2 a3=>?_
     simp[go_sem,f4,wi];exact⟨o,Keep.mk' ⟨by simp[go_sem,f1],by simp[go_sem],by rw[t,Zp,un,if_pos rfl,<-List.append_assoc];simpa[go_sem] using a2,by simp only[zl];exact fun i U=>(a3 i U).trans (hm i U)⟩⟩
    |false =>
     simp[go_sem,f4,f6,f5,C,wi];exact⟨o,Keep.mk' ⟨by simp[go_sem,f1],by simp[go_sem],by rw[t,Zp,un,if_neg (by simp),zO];simpa[go_sem,f3,C] using I,by simp only[zl];exact hm⟩⟩
  .have a4:i=ts.fields.length:=by omega
   subst a4;rw[zN (by rw[uP];exact qs _)]at I;simp[go_sem,P,e4,h3];exact⟨by simpa using I,hm⟩
end
end QT
end Go.Proofs.YtpagnklaanbmbaaGreatDoor
