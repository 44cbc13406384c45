/-
  Own library, part 8: an abstract reading of values and a calculus over it; contracts of functions; plain lemmas.
-/
import Derived.Test.YtlnbdknjkmmgbaaGreatDoorMg
set_option linter.unusedVariables false
set_option linter.unusedSimpArgs false
set_option maxRecDepth 100000
open Go renaming Program->qb,FuncId->zZ,undef->uk
open Go.Proofs.Tryz renaming prog->qc
open List renaming getElem?_eq_some_iff->qh,mem_map->qn,range->qs,getElem_mem->qt,mem_cons->qy,getElem?_set_self->qz,getElem?_eq_getElem->qB,getElem?_append_left->qG,not_mem_nil->qK,replicate->qM,mem_cons_of_mem->qN,mem_append->qO,mem_singleton->qS,mem_cons_self->qZ,all_eq_true->q8,map_cons->za,drop_eq_getElem_cons->zg,length_append->zh,take_length->zi,map_append->zx,getElem?_set_ne->zH,getD_eq_getElem?_getD->zT,drop_length->zU,length_map->yu,mem_filter->y5,getElem?_cons_succ->uj,take_succ_eq_append_getElem->uL,drop_eq_nil_of_le->WB
open Nat renaming le_refl->qj
open Go.IntKind renaming i64->ql
open Int renaming le_refl->vq
namespace Go.Proofs.YtlnbdknjkmmgbaaGreatDoor
open Go Go.Ev Go.Proofs Tryz
namespace QY
open Y1 YX YA YB YC P1 P2 PA QE QX
section
variable {es:List (tZ×Bool)}
structure ScOf (ts:TS) (body:Bool) (sc:List Sb) (env:IEnv):Prop where
 look:∀ nm,uK nm sc=getK nm env
 own:body=false->∀ nm v,getK nm env=some v->means ts nm≠[]
 sz:∀ e,e∈sc->0<=e.2.size/\e.2.size<=4000
def OutR(r:XR (Nd×Int))(s':ISt)(n':Nd)(z:Int):Prop:=match r with
 | .ok ((m,y),t)=>n'=m/\z=y/\s'=t
 | .error _=>4000<s'.sM/\s'.sM<=9000/\0<=z/\z<=4000
def renR(ts:TS)(es:List (tZ×Bool))(sc:List Sb)(nm:tZ)(body:Bool)(s:ISt):(List Sb×tZ)×ISt:=
 if body=true\/means ts nm≠[] then
  ((sc++[(nm,⟨none,0,vN (zp ts es (qm ts es) s.last)⟩)],vN (zp ts es (qm ts es) s.last)),⟨zp ts es (qm ts es) s.last,s.sM⟩)
 else ((sc,nm),s)
abbrev XO:=ISt×Nd×Int
def vW(E:Nd->ISt->XO):List (tZ×Int)->List Nd->List Sb->ISt->Except ISt (List Sb×ISt)
 |p :: g,k :: ks,own,s=>if 4000<(E k s).1.sM then .error (E k s).1 else vW E g ks (own++[(p.1,⟨some (E k s).2.1,(E k s).2.2,⟨#[]⟩⟩)]) (E k s).1
 |_,_,own,s => .ok (own,s)
def ui(E:List Sb->Nd->ISt->XO)(R:List Sb->tZ->ISt->(List Sb×tZ)×ISt)(bin:Bool):Nat->List Sb->tZ->List Nd->ISt->Except ISt ((tZ×List Nd×Int)×ISt)
 |_,_,nm,[],s => .ok ((nm,[],0),s)
 |i,sc,nm,k :: ks,s =>
  let r:=if bin=true/\i=1 then R sc nm s else ((sc,nm),s)
  let q:=E r.1.1 k r.2
  if 4000<q.1.sM then .error q.1 else match ui E R bin (i+1) r.1.1 r.1.2 ks q.1 with
   | .error e => .error e
   | .ok ((g,j,o),l) => .ok ((g,q.2.1 :: j,q.2.2+o),l)
def expR(ts:TS)(es:List (tZ×Bool)):Nat->List Sb->Nd->Bool->ISt->XO
 | 0,_,n,_,s=>(s,n,0)
 |f+1,sc,n,g,s =>
  if s.sM+1<=4000 then
   if n.op=1 then ((Qh sc n (payS 1 s)).2,(Qh sc n (payS 1 s)).1.1,(Qh sc n (payS 1 s)).1.2)
   else if n.op=47 then match ts.sT.find? fun p=>decide (p.name=n.name) with
    |none=>(payS 1 s,n,1)
    |some p=>match vW (fun k s=>expR ts es f sc k g s) p.params n.sD [] (payS 1 s) with
     | .error i=>(i,nd0,0)
     | .ok (own,i)=>expR ts es f own p.body true i
   else match ui (fun sc k s=>expR ts es f sc k g s) (fun sc nm s=>renR ts es sc nm g s) (binB n.op) 0 sc n.name n.sD (payS 1 s) with
    | .error i=>(i,nd0,0)
    | .ok ((nm,ks,m),i)=>(i,.mk n.op nm n.n ks n.pos,1+m)
  else (payS 1 s,nd0,0)
theorem Ws{F s s' z}(g:Gos F s s' z)(h:StOk F s):StOk F s'/\s.sM<=s'.sM/\z<=4000:=⟨g.ok h,zW2 g.cz g.z0,by have:=g.cz;have:=g.c1;have:=h.c0;omega⟩
theorem qeV{F f:Nat}{E E'}:∀ ps ks own i s,
  (∀ k,k∈ks->∀ s,StOk F s->4000<s.sM+(f:Int)->OutR (E k s) (E' k s).1 (E' k s).2.1 (E' k s).2.2)->(∀ k n' z s s',k∈ks->StOk F s->E k s = .ok ((n',z),s')->Gos F s s' z) ->
  StOk F s->4000<s.sM+(f:Int)->zm own->(∀ nm,uK nm i=getK nm own)->(∀ e,e∈i->0<=e.2.size/\e.2.size<=4000) ->
  match yE E ps ks own s with
  | .error _=>∃ t,vW E' ps ks i s = .error t/\4000<t.sM/\t.sM<=9000
  | .ok (l,s')=>∃ j,vW E' ps ks i s = .ok (j,s')/\zm l/\(∀ nm,uK nm j=getK nm l)/\(∀ e,e∈j->0<=e.2.size/\e.2.size<=4000)/\StOk F s'/\s.sM<=s'.sM
 | [],ks,own,i,s,_,_,o,_,J,P,R=>by simp only[yE,vW];exact⟨i,rfl,J,P,R,o,vq _⟩
 |p :: ps,[],own,i,s,_,_,o,_,J,P,R=>by simp only[yE,vW];exact⟨i,rfl,J,P,R,o,vq _⟩
 |p :: ps,k :: ks,own,i,s,hE,hG,o,hf,J,P,R=>by
  simp only[yE,vW];have C:=hE k (qZ ..) s o hf;have h2:=fun n' z s'=>hG k n' z s s' (qZ ..) o
  generalize E' k s=Q at *
  cases T:E k s with
  |error d =>
   rw[T]at C;simp only;rw[if_pos C.1];exact⟨_,rfl,C.1,C.2.1⟩
  |ok r =>
   obtain⟨⟨m,y⟩,t⟩:=r;rw[T]at C;obtain⟨e1,e2,e3⟩:=C;have g:=h2 m y t T;obtain⟨g1,g2,g3⟩:=Ws g o;have hc:=g.c1;simp only;rw[if_neg (by rw[e3];omega),e1,e2,e3];have ih:=qeV (F:=F) (f:=f) ps ks (setK p.1 ⟨some m,y,⟨#[]⟩⟩ own) (i++[(p.1,⟨some m,y,⟨#[]⟩⟩)]) t (fun k U=>hE k (qN _ U)) (fun k n' z s s' U=>hG k n' z s s' (qN _ U)) g1 zOm (J.set ⟨g.z0,g3⟩) (fun nm=>by
    rw[Wr,jy,P];by_cases e:p.1=nm
    .grind
    .rw [if_neg e,if_neg fun x=>e x.symm]) (fun e I=>by
    rcases qO.1 I with I|I
    .exact R e I
    .rw [qS]at I;subst I;exact⟨g.z0,g3⟩)
   grind
theorem qeW{ts env sc nm body s}(j:zm env)(h:ScOf ts body sc env) :
  ScOf ts body (renR ts es sc nm body s).1.1 (renI ts es env nm body s).1.1/\(renR ts es sc nm body s).1.2=(renI ts es env nm body s).1.2/\(renR ts es sc nm body s).2=(renI ts es env nm body s).2:=by
 unfold renR renI;by_cases l:body=true\/means ts nm≠[]
 .rw [if_pos l,if_pos l]
  refine⟨⟨fun x=>?_,fun i x v g=>?_,fun e o=>?_⟩,rfl,rfl⟩
  .simp only
   rw[Wr,jy,Qt j.nd,h.look];by_cases e:nm=x
   .grind
   .rw [if_neg e,if_neg fun y=>e y.symm,if_neg fun y=>e y.symm]
  .simp only at g
   rw[jy,Qt j.nd]at g;by_cases e:x=nm
   .grind
   .rw [if_neg e,if_neg e]at g
    exact h.own i x v g
  .rcases qO.1 o with o|o
   .exact h.sz e o
   grind
 .rw [if_neg l,if_neg l]
  refine⟨⟨fun x=>?_,fun i x v g=>?_,h.sz⟩,rfl,rfl⟩
  .simp only
   rw[Qt j.nd,h.look];by_cases e:x=nm
   .rw [if_pos e]
    cases p:getK x env with
    |none=>rfl
    |some v =>
     have i:body=false:=by grind
     exact absurd (h.own i x v p) (by grind)
   .rw [if_neg e]
  .simp only at g
   rw[Qt j.nd]at g;split at g
   .cases g
   .exact h.own i x v g
theorem qeX{ts es}(C:Free ts es){f:Nat}{body E E' bin}:∀ ks i env sc nm s,
  (∀ k,k∈ks->∀ env sc s,StOk (qm ts es) s->4000<s.sM+(f:Int)->zm env->ScOf ts body sc env->OutR (E env k s) (E' sc k s).1 (E' sc k s).2.1 (E' sc k s).2.2) ->
  (∀ env k n' z s s',k∈ks->StOk (qm ts es) s->zm env->E env k s = .ok ((n',z),s')->Gos (qm ts es) s s' z) ->
  0<=s.last->0<=s.sM->s.sM<=4000->dueN (qm ts es) bin i<=pot (qm ts es) s->4000<s.sM+(f:Int)->zm env->ScOf ts body sc env ->
  match zE E (fun env nm s=>renI ts es env nm body s) bin i env nm ks s with
  | .error _=>∃ t,ui E' (fun sc nm s=>renR ts es sc nm body s) bin i sc nm ks s = .error t/\4000<t.sM/\t.sM<=9000
  | .ok r=>ui E' (fun sc nm s=>renR ts es sc nm body s) bin i sc nm ks s = .ok r
 | [],i,env,sc,nm,s,_,_,_,_,_,_,_,_,_=>by simp only[zE,ui]
 |k :: ks,i,env,sc,nm,s,hE,hG,l0,c0,c1,hp,hf,R,I=>by
  simp only[zE,ui];obtain⟨r,J⟩:∃ r,(if bin=true/\i=1 then renI ts es env nm body s else ((env,nm),s))=r:=⟨_,rfl⟩;obtain⟨l,j⟩:∃ l,(if bin=true/\i=1 then renR ts es sc nm body s else ((sc,nm),s))=l:=⟨_,rfl⟩;have hR:ScOf ts body l.1.1 r.1.1/\l.1.2=r.1.2/\l.2=r.2/\zm r.1.1/\StOk (qm ts es) r.2/\r.2.sM=s.sM/\dueN (qm ts es) bin (i+1)<=pot (qm ts es) r.2:=by
   by_cases hb:bin=true/\i=1
   .rw [if_pos hb]at J j
    subst J;subst j;obtain⟨a1,a2,a3⟩:=qeW (es:=es) (nm:=nm) (s:=s) R I;have a4:=J9 (ts:=ts) (es:=es) (nm:=nm) (body:=body) (s:=s) R;obtain⟨b1,b2,T⟩:=Va (body:=body) (nm:=nm) (env:=env) C l0;have hd:dueN (qm ts es) bin i=(qm ts es:Int):=by simp_all[dueN,if_pos]
    have a0:dueN (qm ts es) bin (i+1)=0:=by simp_all[dueN,if_neg]
    rw[hd]at hp;have P:0<=pot (qm ts es) (renI ts es env nm body s).2:=by
     grind [pot]
    exact⟨a1,a2,a3,a4,⟨b1,by rw[T];exact c0,by rw[T];exact c1,P⟩,T,zOm⟩
   .rw [if_neg hb]at J j
    subst J;subst j;have hd:dueN (qm ts es) bin (i+1)<=dueN (qm ts es) bin i:=by
     unfold dueN;split
     .grind
     omega
    have a5:0<=dueN (qm ts es) bin i:=by grind [dueN]
    exact⟨I,rfl,rfl,R,⟨l0,c0,c1,by grind⟩,rfl,by grind⟩
  rw[J,j];obtain⟨q1,q2,q3,q4,q5,q6,q7⟩:=hR;rw[q2,q3];have o:=hE k (qZ ..) r.1.1 l.1.1 r.2 q5 zOm q4 q1;have h2:=fun n' z s'=>hG r.1.1 k n' z r.2 s' (qZ ..) q5 q4
  generalize E' l.1.1 k r.2=Q at *
  cases U:E r.1.1 k r.2 with
  |error d =>
   rw[U]at o;simp only;rw[if_pos o.1];exact⟨_,rfl,o.1,o.2.1⟩
  |ok x =>
   obtain⟨⟨m,y⟩,t⟩:=x;rw[U]at o;obtain⟨e1,e2,e3⟩:=o;have g:=h2 m y t U;obtain⟨g1,g2,g3⟩:=Ws g q5;have hc:=g.c1;have a6:=g.p;simp only;rw[if_neg (by rw[e3];omega),e1,e2,e3];have ih:=qeX C (f:=f) (body:=body) (E:=E) (E':=E') (bin:=bin) ks (i+1) r.1.1 l.1.1 r.1.2 t (fun k hk=>hE k (qN _ hk)) (fun env k n' z s s' hk=>hG env k n' z s s' (qN _ hk)) g1.l0 g1.c0 g1.c1 zOm zOm q4 q1;cases hx:zE E (fun env nm s=>renI ts es env nm body s) bin (i+1) r.1.1 r.1.2 ks t with
   |error d =>
    rw[hx]at ih;obtain⟨t',a1,a2,a3⟩:=ih
    grind
   |ok x =>
    grind
theorem Je(ts es)(i:Free ts es)(hb:∀ p,p∈ts.sT->WfN p.body/\yK ts p.body):∀(f:Nat)(env sc n body s),
  4000<s.sM+(f:Int)->StOk (qm ts es) s->zm env->WfN n->yK ts n->ScOf ts body sc env->OutR (expI ts es f env n body s) (expR ts es f sc n body s).1 (expR ts es f sc n body s).2.1 (expR ts es f sc n body s).2.2
 | 0,env,sc,n,body,s,hf,g,_,_,_,_=>zW1 g.c1
 |f+1,env,sc,n,body,s,hf,g,o,hw,I,l=>by
  have a8:=g.c0;have a9:=g.c1;have p1:(payS 1 s).sM=s.sM+1:=rfl;simp only[expI,expR];by_cases J:s.sM+1<=4000
  case neg =>
   rw[if_neg J,if_neg J];exact⟨by rw[p1];omega,by rw[p1];omega,zSp,zSp⟩
  rw[if_pos J,if_pos J];have C:=(Qd g (n:=1) zOm J).ok g;by_cases h1:n.op=1
  .rw [if_pos h1,if_pos h1]
   unfold Qh ve;rw[l.look];cases hg:getK n.name env with
   |none=>exact⟨rfl,rfl,rfl⟩
   |some v =>
    have hv:=o.sz _ ((Qs o.nd).1 hg);have hv:0<=v.size/\v.size<=4000:=hv;simp only;cases P:v.arg with
    |none=>exact⟨rfl,rfl,rfl⟩
    |some a =>
     simp only;have e2:(payS v.size (payS 1 s)).sM=(payS 1 s).sM+v.size:=rfl;by_cases R:(payS 1 s).sM+v.size<=4000
     .rw [if_pos R];exact⟨rfl,rfl,rfl⟩
     .rw [if_neg R]
      exact⟨by rw[e2];omega,by rw[e2];omega,hv.1,hv.2⟩
  rw[if_neg h1,if_neg h1];by_cases h47:n.op=47
  .rw [if_pos h47,if_pos h47]
   obtain⟨p,T,a7⟩:=I n (vV n) h47;have a0:=List.mem_of_find?_eq_some T;rw[T];simp only;have P:=qeV (F:=qm ts es) (f:=f) (E:=fun k s=>expI ts es f env k body s) (E':=fun k s=>expR ts es f sc k body s) p.params n.sD [] [] (payS 1 s)
    (fun k j s g hf=>Je ts es i hb f env sc k body s hf g o (hw.kid j) (I.kid j) l)
    (fun k n' z s s' j g e=>jJ ts i f g o e) C (by rw[p1];omega) .nil (fun nm=>rfl) (fun e hm=>absurd hm qK)
   cases U:yE (fun k s=>expI ts es f env k body s) p.params n.sD [] (payS 1 s) with
   |error d =>
    rw[U]at P;obtain⟨t,a1,a2,a3⟩:=P;rw[a1];exact⟨a2,a3,zSp,zSp⟩
   |ok x =>
    obtain⟨own,s'⟩:=x;rw[U]at P;obtain⟨L,a1,a2,a3,a4,a5,a6⟩:=P;rw[a1];obtain⟨b1,b2⟩:=hb p a0;exact Je ts es i hb f own L p.body true s' zOm a5 a2 b1 b2 ⟨a3,fun h=>absurd h zSp,a4⟩
  .rw [if_neg h47,if_neg h47]
   have j:=qeX i (f:=f) (body:=body) (E:=fun env k s=>expI ts es f env k body s) (E':=fun sc k s=>expR ts es f sc k body s) (bin:=binB n.op) n.sD 0 env sc n.name (payS 1 s)
    (fun k j env sc s g hf o l=>Je ts es i hb f env sc k body s hf g o (hw.kid j) (I.kid j) l)
    (fun env k n' z s s' j g o e=>jJ ts i f g o e) C.l0 C.c0 C.c1 (by
     rw[ZR];have:=g.p
     grind [dueN]) (by rw[p1];omega) o l
   cases U:zE (fun env k s=>expI ts es f env k body s) (fun env nm s=>renI ts es env nm body s) (binB n.op) 0 env n.name n.sD (payS 1 s) with
   |error d =>
    rw[U]at j;obtain⟨t,a1,a2,a3⟩:=j;rw[a1];exact⟨a2,a3,zSp,zSp⟩
   |ok x =>
    obtain⟨⟨nm,ks,m⟩,s'⟩:=x;rw[U]at j;rw[j];exact⟨rfl,rfl,rfl⟩
end
end QY
namespace QZ
open YF Y9 Y10 Y1 YX YB YC P1 P2 PA QE QI QS QT QX QY
section
variable {mu:Mu}
abbrev eXO(ts:TS)(l:List tZ)(q:XO):AV := .tup [eWk ts l q.1,eNd q.2.1,aI q.2.2]
theorem Wt(x):∀ c,c∈cSb x->HF c:=fun c g=>by
 rcases qO.1 g with g|g
 .rcases qO.1 g with g|g
  .simp only[qy,qK,or_false]at g
   rcases g with rfl|rfl|rfl<;>exact HF.sc _
  grind [qq6]
 grind [qS,HF.sc]
theorem qrB(x):(cSb x).length=9:=by simp[qq5]
theorem Jf(l:List Sb):qW 9 (l.map cSb):=fun r g=>by
 obtain⟨x,_,rfl⟩:=qn.1 g;refine⟨qrB x,?_⟩;obtain⟨nm,⟨a,z,w⟩⟩:=x;cases a<;>simp[yP,go_sem]
theorem qeY(l):HF (lSb l):=HF.lst fun r g c i=>by
 obtain⟨x,_,rfl⟩:=qn.1 g;exact Wt x c i
theorem wkX(ts l s sc n b):WKs [eWk ts l s,lSb sc,eNd n,aB b] [eWk ts l s,lSb sc,eNd n,aB b] := .zk (wE ts l s) (.zk (qeY sc) (.zk (qE n) (.zs .nil)))
theorem k9(ts l q):HF (eXO ts l q):=HF.tup fun x g=>by
 simp only[qy,qK,or_false]at g;rcases g with rfl|rfl|rfl
 .exact wE ts l _
 .exact qE _
 .exact HF.sc _
structure Pre (ts:TS) (es:List (tZ×Bool)) (f:Nat) (env:IEnv) (sc:List Sb) (n:Nd) (body:Bool) (s:ISt):Prop where
 fu:4000<s.sM+(f:Int)
 st:StOk (qm ts es) s
 en:zm env
 wf:WfN n
 cl:yK ts n
 so:ScOf ts body sc env
 le:(sc.length:Int)<=s.sM+8
theorem rd0:Rd mu (.agg [aI 0,aS ⟨#[]⟩,aI 0,.lst true [],aI 0]) (eNd nd0) := .agg _ _ rfl fun k x y g i=>by
 match k,g,i with
 | 0,g,i=>cases g;cases i;exact .zsc _
 | 1,g,i=>cases g;cases i;exact .zsc _
 | 2,g,i=>cases g;cases i;exact .zsc _
 | 3,g,i=>cases g;cases i;exact .wk _ true _ (.hf _ (HF.lst fun r j=>absurd j qK))
 | 4,g,i=>cases g;cases i;exact .zsc _
 |k+5,g,i=>cases g
theorem rdZ(ts l s):Rd mu (.tup [eWk ts l s,.agg [aI 0,aS ⟨#[]⟩,aI 0,.lst true [],aI 0],aI 0]) (eXO ts l (s,nd0,0)) := .tup _ _ rfl fun k x y g i=>by
 match k,g,i with
 | 0,g,i=>cases g;cases i;exact .hf _ (wE ts l s)
 | 1,g,i=>grind [rd0]
 | 2,g,i=>cases g;cases i;exact .zsc _
 |k+3,g,i=>cases g
theorem qeZ{lo s xs y K}(g:OwnF lo mu 9 s (xs.map cSb))(j:xs.length<=100000)(o:∀ av mu',OwnF lo mu' 9 av ((xs++[y]).map cSb)->(∀ i,i<lo->mu'[i]?=mu[i]?)->K av mu') :
  qw qc mu #[254,254] s (.lst true [cSb y]) K:=by
 refine qw.ownF (lo:=lo) (e:=261) (sz:=9) (bt:=112) (zv := .agg [aS ⟨#[]⟩,aS ⟨#[]⟩,aB false,aI 0,aS ⟨#[]⟩,aI 0,.lst true [],aI 0,aI 0]) (xs:=xs.map cSb) (ys:=[cSb y]) zSi zSi zSi rfl rfl zOm zOm g (by simp[qA]) (Jf xs) (Jf [y]) zSo ?_
 grind
abbrev ExpW(ts:TS)(l:List tZ)(es:List (tZ×Bool))(f:Nat)(sc:List Sb)(n:Nd)(body:Bool)(s:ISt):Prop:=
 qg qc 137 [eWk ts l s,lSb sc,eNd n,aB body] (eXO ts l (expR ts es f sc n body s))
theorem expN(ts l es f env sc n body s)(p:Pre ts es (f+1) env sc n body s)(j:s.sM+1<=4000)(i:n.op=1):ExpW ts l es (f+1) sc n body s:=by
 have o:=p.st.c0;have J:=p.le;have t:=leafU ts l sc zOm n (payS 1 s) ⟨by show 0<=s.sM+1;omega,by show s.sM+1<=_;omega⟩ (fun e C=>zW1 (p.so.sz e C));unfold ExpW;simp only[expR];rw[if_pos j,if_pos i];have I:ql.wrap (s.sM+1)=s.sM+1:=zWr;have g:¬ 4000<s.sM+1:=zOm;generalize Qh sc n (payS 1 s)=Q at *
 refine qSQ call137 func137 rfl { mt:=[4] } ?_;simp[go_sem,I,g,i,q9];refine tU t (.zk (wE ts l (payS 1 s)) (.zk (qeY sc) (.zk (qE n) .nil))) ?_;simp[go_sem,q9];exact .hf _ (k9 ts l (Q.2,Q.1.1,Q.1.2))
theorem expZ(ts l es f env sc n body s)(p:Pre ts es (f+1) env sc n body s)(i:¬s.sM+1<=4000):ExpW ts l es (f+1) sc n body s:=by
 have j:=p.st.c0;have o:=p.st.c1;unfold ExpW;simp only[expR];rw[if_neg i];have t:ql.wrap (s.sM+1)=s.sM+1:=zWr;have g:4000<s.sM+1:=zOm;refine qSQ call137 func137 rfl { mt:=[4] } ?_;simp[go_sem,t,g,q9]
 grind [rdZ,payS]
def repR(ts : TS)(es : List (tZ × Bool))(f : Nat)(sc : List Sb)(n : Nd)(body : Bool)(s : ISt)(p : Pd) : XO := match vW (fun k s => expR ts es f sc k body s) p.params n.sD [] s with
          | .error g=>(g,nd0,0)
          | .ok (own,g)=>expR ts es f own p.body true g
theorem expC(ts l es f env sc n body s)(p:Pre ts es (f+1) env sc n body s)(j:s.sM+1<=4000)(h47:n.op=47)(g)(o:(ts.sT.find? fun p=>decide (p.name=n.name))=some g)
  (t:qg qc 199 [eWk ts l (payS 1 s),lSb sc,eNd n,aB body] (eXO ts l (repR ts es f sc n body (payS 1 s) g))):ExpW ts l es (f+1) sc n body s:=by
 have C:=p.st.c0;unfold ExpW;simp only[expR];rw[if_pos j,zIn,if_pos h47,o];simp only;have I:ql.wrap (s.sM+1)=s.sM+1:=zWr;have i:¬ 4000<s.sM+1:=zOm;show qg qc 137 [eWk ts l s,lSb sc,eNd n,aB body] (eXO ts l (repR ts es f sc n body (payS 1 s) g));generalize repR ts es f sc n body (payS 1 s) g=Q at *
 refine qSQ call137 func137 rfl { mt:=[4] } ?_;simp[go_sem,I,i,h47,q9];refine tU t (wkX ts l (payS 1 s) sc n body) ?_;simp[go_sem,q9];exact .hf _ (k9 ts l Q)
theorem replW(ts)(h:okTS ts)(l es)(ah:Free ts es)(hb:∀ p,p∈ts.sT->WfN p.body/\yK ts p.body)(f)(ih:∀ env sc n body s,Pre ts es f env sc n body s->ExpW ts l es f sc n body s)(env sc n body s)(p:Pre ts es f env sc n body s)(h47:n.op=47)
  (R) (hp:(ts.sT.find? fun p=>decide (p.name=n.name))=some R) (ay:R.params.length=n.sD.length):qg qc 199 [eWk ts l s,lSb sc,eNd n,aB body] (eXO ts l (repR ts es f sc n body s R)):=by
 have a8:=List.mem_of_find?_eq_some hp;have b0:=(h.pl R a8).1;have b1:=h.np;obtain⟨i,hi,a2,ai⟩:∃ i,∃ hi:i<ts.sT.length,ts.sT[i]=R/\zl (ckR ts ts.sT.length) n.name=some i:=by
  cases hc:zl (ckR ts ts.sT.length) n.name with
  |none =>
   unfold zl at hc;rw[List.findIdx?_eq_none_iff]at hc;have:=hc R (by show R∈ts.sT.take ts.sT.length;rw[zi];exact a8);have h2:=List.find?_some hp;rw[h2]at this;cases this
  |some i =>
   obtain⟨h1,h2⟩:=Qz (Wo h (qj _)) hc;have h2:i<ts.sT.length:=h2;have h3:=PF.qdB hc h2;have h3:(ts.sT.find? fun p=>decide (p.name=n.name))=some ts.sT[i]:=h3;rw[hp]at h3;exact⟨i,h2,(Option.some.inj h3).symm,rfl⟩
 have cp:=Vq (ckR ts ts.sT.length) (Wo h (qj _)) n.name;rw[ai]at cp;have I:=Qy;have a9:¬(i:Int)<0:=zOm;obtain⟨E',hE⟩:∃ E':Nd->ISt->XO,E'=fun k s=>expR ts es f sc k body s:=⟨_,rfl⟩
 obtain⟨a6,a7⟩:∃ a6,a6=repR ts es f sc n body s R:=⟨_,rfl⟩;have al:∀ k,k∈n.sD->∀ C,StOk (qm ts es) C->s.sM<=C.sM->qg qc 137 [eWk ts l C,lSb sc,eNd k,aB body] (eXO ts l (E' k C)):=fun k hk C J a9=>by
  rw[hE];exact ih env sc k body C ⟨zW1 p.fu,J,p.en,p.wf.kid hk,p.cl.kid hk,p.so,zW1 p.le⟩
 have an:∀ k,k∈n.sD->∀ C,StOk (qm ts es) C->s.sM<=C.sM->4000<(E' k C).1.sM\/(¬ 4000<(E' k C).1.sM/\Gos (qm ts es) C (E' k C).1 (E' k C).2.2):=fun k hk C J a9=>by
  have ho:=Je ts es ah hb f env sc k body C (zW1 p.fu) J p.en (p.wf.kid hk) (p.cl.kid hk) p.so;have ao:E' k C=expR ts es f sc k body C:=by rw[hE]
  rw[ao];cases hx:expI ts es f env k body C with
  |error d=>rw[hx]at ho;exact .inl ho.1
  |ok r =>
   obtain⟨⟨m,y⟩,t⟩:=r;rw[hx]at ho;obtain⟨e1,e2,e3⟩:=ho;have g:=jJ ts ah f J p.en hx;rw[e2,e3];exact .inr ⟨zW1 g.c1,g⟩
 have aq:∀ t,vW E' R.params n.sD [] s = .error t->a6=(t,nd0,0):=fun t ht=>by
  rw[a7];unfold repR;rw[<-hE,ht]
 have ar:∀ own t O,vW E' R.params n.sD [] s = .ok (own,t)->StOk (qm ts es) t->s.sM<=t.sM->zm O->(∀ nm,uK nm own=getK nm O)->(∀ e,e∈own->0<=e.2.size/\e.2.size<=4000)->own.length<=8->qg qc 137 [eWk ts l t,lSb own,eNd R.body,aB true] (eXO ts l a6):=fun own t O ht J a9 hO aa ab h8=>by
  have e:a6=expR ts es f own R.body true t:=by rw[a7];unfold repR;rw[<-hE,ht]
  rw[e];have b2:=J.c0;exact ih O own R.body true t ⟨zW1 p.fu,J,hO,(hb R a8).1,(hb R a8).2,⟨aa,fun h=>absurd h zSp,ab⟩,zOm⟩
 rw[<-a7];have aj:=p.st;clear a7 hE ih;refine qSQ call199 func199 rfl { mt:=[4] } ?_;simp[go_sem,q9];refine tU cp (.zk (zw ts) (.zs (.zs .nil))) ?_;simp[go_sem,q9,idxO,a9];refine aA n.sD.length (fun k U=>∃(C:ISt) (L:List Sb) (O:IEnv),U.tm 1=lSb sc/\U.tm 3=aB body/\U.tm 4 = .ptr 0 0/\U.tm 6 = .ip (cNd n)/\U.tm 8 = .ptr 1 0/\U.tm 9 = .ptr 2 0/\U.tm 12=aI i/\U.tm 14=aI k/\U.mu[0]?=some (.arr (cWk ts l C))/\U.mu[1]?=some (.arr zWc)/\U.mu[2]?=some (.arr [aI 0,aS ⟨#[]⟩,aI 0,.lst true [],aI 0])/\OwnF 3 U.mu 9 (U.tm 13) (L.map cSb)/\vW E' R.params n.sD [] s=vW E' (R.params.drop k) (n.sD.drop k) L C/\StOk (qm ts es) C/\s.sM<=C.sM/\zm O/\(∀ nm,uK nm L=getK nm O)/\(∀ e,e∈L->0<=e.2.size/\e.2.size<=4000)/\L.length=k) ?_ ?_
 .exact ⟨s,[],[],zSi,zSi,zSi,zSi,zSi,zSi,zSi,zSi,zSi,zSi,zSi,by simp[go_sem];exact OwnF.nil zSp,rfl,aj,vq _,.nil,fun nm=>rfl,fun e he=>absurd he qK,rfl⟩
 rintro k U hk ⟨C,L,O,e1,e3,e4,e6,e8,e9,a1,a3,m0,m1,m2,ho,hI,J,ad,hO,aa,ab,au⟩;generalize a4:U.tm 13=av at *
 obtain⟨rr,T⟩:=kW m0 m1 m2;have b3:U.mu.length=rr.length+3:=by rw[T];rfl
 have az:n.sD.length<=8:=zOm;by_cases P:k<n.sD.length
 .have a5:k<R.params.length:=by omega
  have w1:=zWk k;rw[zg P,zg a5]at hI;simp only[vW]at hI;have x1:=al n.sD[k] (qt P) C J ad;have x2:=an n.sD[k] (qt P) C J ad;generalize E' n.sD[k] C=q at *
  clear m0 m1 m2;simp[go_sem,e1,e3,e4,e6,e8,e9,a1,a3,a4,T,P,a5,hi,a2,I,q9];refine fG [0,1,2,3,4,5,6,7,8,9,10,11,12,17,13,14,15,16] [(0,0,[]),(1,0,[]),(2,0,[]),(3,0,[]),(4,0,[]),(5,0,[]),(6,0,[]),(7,0,[]),(8,1,[]),(9,0,[]),(10,0,[]),(11,0,[]),(12,0,[]),(17,0,[]),(13,2,[0,3,6]),(14,2,[0,3,6]),(15,1,[]),(16,1,[])] zKr zKr zSi ?_;simp[go_sem,e1,e3,e4,e6,e8,e9,a1,a3,a4,T,P,a5,hi,a2,I,q9];refine tU x1 (wkX ts l C sc n.sD[k] body) ?_;simp[go_sem,e1,e3,e4,e6,e8,e9,a1,a3,a4,T,P,a5,hi,a2,I,q9];by_cases a0:4000<q.1.sM
  .have aw:a6=(q.1,nd0,0):=aq _ (by rw[hI,if_pos a0])
   simp[go_sem,e1,e3,e4,e6,e8,e9,a1,a3,a4,T,P,a5,hi,a2,I,q9,a0];rw[aw];exact rdZ ts l q.1
  .rcases x2 with x2|⟨_,g⟩
   .exact absurd x2 a0
   rw[if_neg a0]at hI;simp[go_sem,e1,e3,e4,e6,e8,e9,a1,a3,a4,T,P,a5,hi,a2,I,q9,a0];refine tR zKr ?_;simp[go_sem,e1,e3,e4,e6,e8,e9,a1,a3,a4,T,P,a5,hi,a2,I,q9,a0];obtain⟨g1,g2,g3⟩:=Ws g J;have gz:=g.z0;have hy:(AV.sc (.string R.params[k].1) :: AV.sc (.string ⟨#[]⟩) :: AV.sc (.bool true) :: (cNd q.2.1++[AV.sc (.int .i64 q.2.2)]))=cSb (R.params[k].1,⟨some q.2.1,q.2.2,⟨#[]⟩⟩):=zSi;rw[hy];generalize ae:(R.params[k].1,(⟨some q.2.1,q.2.2,⟨#[]⟩⟩:IV))=en at *
   refine qeZ (lo:=3) (xs:=L) (y:=en) ?_ zOm ?_
   .have h1:OwnF 3 (U.mu++[Cell.arr (cWk ts l q.1),Cell.arr (cNd q.2.1)]) 9 av (L.map cSb):=YD.Zj ho zSo fun i _ hi=>qG hi
    rw[T]at h1;have h2:=OwnF.set (i:=0) (c:=Cell.arr (cWk ts l q.1)) h1 zOm;simpa using h2
   intro b4 o af ag;have n0:=ag 0 zOm;have n1:=ag 1 zOm;have n2:=ag 2 zOm;simp at n0 n1 n2;obtain⟨r2,ak⟩:=kW n0 n1 n2;simp[go_sem,e1,e3,e4,e6,e8,e9,a1,a3,a4,ak,P,a5,hi,a2,I,q9,a0,w1];refine aC ⟨q.1,L++[en],setK en.1 en.2 O,zS1 e1,zS1 e3,zS1 e4,zS1 e6,zS1 e8,zS1 e9,zS1 a1,zSi,zSi,zSi,zSi,?_,?_,g1,?_,?_,?_,?_,?_⟩
   .have h2:=OwnF.set (i:=0) (c:=Cell.arr (cWk ts l q.1)) af zOm
    simp[go_sem];rw[ak]at af;simpa using af
   .rw [hI,<-ae]
   .omega
   .rw [<-ae];exact hO.set ⟨gz,g3⟩
   .intro nm
    rw[Wr,jy,aa];by_cases e:en.1=nm
    .rw [if_pos e,if_pos e.symm]
    .rw [if_neg e,if_neg fun x=>e x.symm]
   .intro e he
    rcases qO.1 he with he|he
    .exact ab e he
    .rw [qS]at he;subst he;rw[<-ae];exact⟨gz,g3⟩
   .simp [au]
 .simp [go_sem,e1,e3,e4,e6,e8,e9,a1,a3,a4,T,P,hi,a2,I,q9]
  refine fG [0,1,2,3,4,5,6,7,8,9,10,11,12,15,13,14] [(0,0,[]),(1,0,[]),(2,0,[]),(3,0,[]),(4,0,[]),(5,0,[]),(6,0,[]),(7,0,[]),(8,0,[]),(9,1,[]),(10,0,[]),(11,0,[]),(12,0,[]),(15,0,[]),(13,1,[]),(14,1,[])] zKr zKr zSi ?_;simp[go_sem,e1,e3,e4,e6,e8,e9,a1,a3,a4,T,P,hi,a2,I,q9];refine fZ (qv.freeze (args1:=[eWk ts l C,lSb L,eNd R.body,aB true]) (fun j=>decide (3<=j)) ⟨.inl rfl,.inr ?_,.inl rfl,.inl rfl,trivial⟩ (qg.toSound _ (ar L C O ?_ J ad hO aa ab zOm) (wkX ts l C L R.body true))) ?_ ?_
  .have h1:=Y13.UD ho (Jf L).ok fun r hr c hc=>by
    obtain⟨x,_,rfl⟩:=qn.1 hr;exact Wt x c hc
   rw[T]at h1;exact h1
  .rw [hI,WB zOm,WB zOm];rfl
  .rintro r m ⟨hv,rfl⟩
   cases hv;simp[go_sem,cutM,q9,e1,e3,e4,e6,e8,e9];exact .hf _ (k9 ts l a6)
  .rintro r m ⟨hv,rfl⟩
   cases hv
end
end QZ
end Go.Proofs.YtlnbdknjkmmgbaaGreatDoor
set_option maxHeartbeats 1000000
namespace Go.Ev
theorem awp.cut{P pl l j g C i Q st}(J)
  (h:awp P pl l (seqQ (awp P pl j (seqQ (Keep J .mk) (vI i (seqQ (awp P pl C Q) Q)))) Q) st)
  (o:∀ st,J st->awp P pl g (vI i (seqQ (awp P pl C Q) Q)) st):awp P pl (.seq l (.seq (.block i (.seq j g)) C)) Q st:=by
 refine awp.mono l (Q:=seqQ (awp P pl j (seqQ (Keep J .mk) (vI i (seqQ (awp P pl C Q) Q)))) Q) h (fun e st h=>?_);cases e with
 |normal =>
  refine awp.mono j (Q:=seqQ (Keep J .mk) (vI i (seqQ (awp P pl C Q) Q))) h (fun e st h=>?_);cases e with
  |normal=>exact o st h
  |exit i=>exact h
  |ret=>exact h
  |pan v=>exact h
 |exit i=>exact h
 |ret=>exact h
 |pan v=>exact h
theorem qrC{K:St->Prop}(J){st}(h:FzQ (fun _=>J) (.exit 0) st)(k:∀ st2,J st2->K st2):FzQ (fun _ st=>K st) (.exit 0) st:=by
 obtain⟨g,f,q,j⟩:=h;exact⟨g,f,q,k _ j⟩
end Go.Ev
namespace Go.Proofs.YtlnbdknjkmmgbaaGreatDoor
open Go Go.Ev Go.Proofs Tryz
namespace RA
open YF Y9 Y10 Y1 YX YA YB YC P1 P2 PA QD QE QK QX QY QZ
section
variable {av:AV}{es:List (tZ×Bool)}{l:List tZ}
theorem four{J:Type}{l}{a b c d:J}(g:l[0]?=some a)(i:l[1]?=some b)(j:l[2]?=some c)(o:l[3]?=some d):∃ r,l=a :: b :: c :: d :: r:=by
 match l,g,i,j,o with
 |_ :: _ :: _ :: _ :: r,g,i,j,o =>
  grind
def resK(n:Nd)(acc:List Nd)(z:Int):Except ISt ((tZ×List Nd×Int)×ISt)->XO
 | .error s=>(s,nd0,0)
 | .ok ((nm,ks,m),s)=>(s,.mk n.op nm n.n (acc++ks) n.pos,z+m)
structure AtK (ts:TS) (l:List tZ) (es:List (tZ×Bool)) (n:Nd) (body:Bool) (s:ISt) (k:Nat) (sc2:List Sb) (env2:IEnv) (nm2:tZ) (s3:ISt) (acc:List Nd) (av:AV) (z:Int) (st:St):Prop where
 e3:st.tm 3=aB body
 e4:st.tm 4 = .ptr 0 0
 e6:st.tm 6 = .ip (cNd n)
 e8:st.tm 8 = .ptr 1 0
 e9:st.tm 9 = .ptr 2 0
 e11:st.tm 11 = .ptr 3 0
 e12:st.tm 12=aI z
 e13:st.tm 13=aI k
 m0:st.mu[0]?=some (.arr (cWk ts l s3))
 m1:st.mu[1]?=some (.arr zWc)
 m2:st.mu[2]?=some (.arr [aI 0,aS ⟨#[]⟩,aI 0,.lst true [],aI 0])
 m3:st.mu[3]?=some (.arr [aI n.op,aS nm2,aI n.n,av,aI n.pos])
 ho:OwnF 4 st.mu 5 av (acc.map cNd)
 so:ScOf ts body sc2 env2
 en:zm env2
 al:acc.length=k
 l0:0<=s3.last
 c0:s.sM+1<=s3.sM
 c1:s3.sM<=4000
 z1:0<=z
 z2:z<=1+4000*(k:Int)
theorem AtK.same{ts n body s k j i o I acc z st g}(A:AtK ts l es n body s k j i o I acc av z st)
  (J:g.tm 3=aB body) (P:g.tm 4 = .ptr 0 0) (R:g.tm 6 = .ip (cNd n)) (T:g.tm 8 = .ptr 1 0) (U:g.tm 9 = .ptr 2 0) (p:g.tm 11 = .ptr 3 0) (t:g.tm 12=aI z) (C:g.tm 13=aI k) (em:g.mu=st.mu):AtK ts l es n body s k j i o I acc av z g:=
 ⟨J,P,R,T,U,p,t,C,by rw[em];exact A.m0,by rw[em];exact A.m1,by rw[em];exact A.m2,by rw[em];exact A.m3,by rw[em];exact A.ho,A.so,A.en,A.al,A.l0,A.c0,A.c1,A.z1,A.z2⟩
theorem qe0{g lo sz mu mu' xs}(h:OwnF g mu sz av xs)(i:∀ b s o q,av = .sl b s o q->b<lo)(p:g<=mu'.length)(t:∀ j,g<=j->j<lo->mu'[j]?=mu[j]?):OwnF g mu' sz av xs:=by
 obtain⟨C,l,_⟩:=h;refine⟨?_,l,p⟩;rcases C with rfl|⟨b,rfl,I⟩
 .exact .inl rfl
 .exact .inr ⟨b,rfl,by rw[t b (l b _ _ _ rfl) (i b _ _ _ rfl)];exact I⟩
theorem AtK.keep{ts n body s k p i t T acc z st g}(A:AtK ts l es n body s k p i t T acc av z st)
  (U:g.tm 3=aB body) (e4:g.tm 4 = .ptr 0 0) (e6:g.tm 6 = .ip (cNd n)) (e8:g.tm 8 = .ptr 1 0) (e9:g.tm 9 = .ptr 2 0) (I:g.tm 11 = .ptr 3 0) (J:g.tm 12=aI z) (P:g.tm 13=aI k) (lo) (h4:4<=lo) (R:∀ b s o q,av = .sl b s o q->b<lo) (hl:4<=g.mu.length) (C:∀ j,j<lo->g.mu[j]?=st.mu[j]?):AtK ts l es n body s k p i t T acc av z g:=
 ⟨U,e4,e6,e8,e9,I,J,P,by rw[C 0 zOm];exact A.m0,by rw[C 1 zOm];exact A.m1,by rw[C 2 zOm];exact A.m2,by rw[C 3 zOm];exact A.m3,qe0 A.ho R hl (fun j _=>C j),A.so,A.en,A.al,A.l0,A.c0,A.c1,A.z1,A.z2⟩
theorem qrD{mu lo s x}{xs ys:List Sb}{K}(g:OwnF lo mu 9 s (xs.map cSb))(j:qA mu x=some (ys.map cSb))(p:xs.length+ys.length<=100000)(l:∀ av mu',OwnF lo mu' 9 av ((xs++ys).map cSb)->(∀ i,i<lo->mu'[i]?=mu[i]?)->K av mu') :
  qw qc mu #[254,254] s x K:=by
 refine qw.ownF (lo:=lo) (e:=261) (sz:=9) (bt:=112) (zv := .agg [aS ⟨#[]⟩,aS ⟨#[]⟩,aB false,aI 0,aS ⟨#[]⟩,aI 0,.lst true [],aI 0,aI 0]) (xs:=xs.map cSb) (ys:=ys.map cSb) zSi zSi zSi rfl rfl zOm zOm g j (Jf xs) (Jf ys) zSo ?_;intro av mu' h o;exact l av mu' (by rw[zx];exact h) o
theorem expK(ts)(h:okTS ts)(l es)(t:Tn l es)(hl:l.length<=400000)(hF:qm ts es<=200000)(b4:Free ts es)(hb:∀ p,p∈ts.sT->WfN p.body/\yK ts p.body)(f)(ih:∀ env sc n body s,Pre ts es f env sc n body s->ExpW ts l es f sc n body s)
  (env) (sc) (n) (body) (s) (p:Pre ts es (f+1) env sc n body s) (hc:s.sM+1<=4000) (h1:¬n.op=1) (h47:¬n.op=47):ExpW ts l es (f+1) sc n body s:=by
 have dh:=p.st.c0;have di:=p.st.c1;have dj:=p.wf.len;obtain⟨E',hE⟩:∃ E':List Sb->Nd->ISt->XO,E'=fun sc k s=>expR ts es f sc k body s:=⟨_,rfl⟩
 obtain⟨R',bg⟩:∃ R':List Sb->tZ->ISt->(List Sb×tZ)×ISt,R'=fun sc nm s=>renR ts es sc nm body s:=⟨_,rfl⟩
 have bh:∀ k,k∈n.sD->∀ P I sk,StOk (qm ts es) sk->s.sM+1<=sk.sM->zm P->ScOf ts body I P->(I.length:Int)<=sk.sM+8->qg qc 137 [eWk ts l sk,lSb I,eNd k,aB body] (eXO ts l (E' I k sk)):=fun k hk P I sk b5 ch b6 bi bj=>by
  rw[hE];exact ih P I k body sk ⟨zW1 p.fu,b5,b6,p.wf.kid hk,p.cl.kid hk,bi,bj⟩
 have bk:∀ k,k∈n.sD->∀ P I sk,StOk (qm ts es) sk->s.sM+1<=sk.sM->zm P->ScOf ts body I P->4000<(E' I k sk).1.sM\/(¬ 4000<(E' I k sk).1.sM/\Gos (qm ts es) sk (E' I k sk).1 (E' I k sk).2.2):=fun k hk P I sk b5 ch b6 bi=>by
  have ho:=Je ts es b4 hb f P I k body sk (zW1 p.fu) b5 b6 (p.wf.kid hk) (p.cl.kid hk) bi;have cj:E' I k sk=expR ts es f I k body sk:=by rw[hE]
  rw[cj];cases hx:expI ts es f P k body sk with
  |error d=>rw[hx]at ho;exact .inl ho.1
  |ok r =>
   obtain⟨⟨m,y⟩,t⟩:=r;rw[hx]at ho;obtain⟨e1,e2,e3⟩:=ho;have g:=jJ ts b4 f b5 b6 hx;rw[e2,e3];exact .inr ⟨zW1 g.c1,g⟩
 obtain⟨ax,b9⟩:∃ ax,ax=resK n [] 1 (ui E' R' (binB n.op) 0 sc n.name n.sD (payS 1 s)):=⟨_,rfl⟩;have bb:expR ts es (f+1) sc n body s=ax:=by
  simp only[expR];rw[if_pos hc,if_neg h1,if_neg h47,b9,hE,bg];cases ui (fun sc k s=>expR ts es f sc k body s) (fun sc nm s=>renR ts es sc nm body s) (binB n.op) 0 sc n.name n.sD (payS 1 s) with
  |error e=>rfl
  |ok r=>rfl
 unfold ExpW;rw[bb];clear hE bb ih;have bc:StOk (qm ts es) (payS 1 s):=(Qd p.st zOm hc).ok p.st;have w1:ql.wrap (s.sM+1)=s.sM+1:=zWr;have bj:¬ 4000<s.sM+1:=zOm;have ck:=yP n;refine qSQ call137 func137 rfl { mt:=[4] } ?_;simp[go_sem,w1,bj,h1,h47,ck];refine aA n.sD.length (fun k U=>∃(full:Bool) (I:List Sb) (P:IEnv) (a9:tZ) (s2:ISt) (ad:List Nd) (av:AV) (z:Int),U.tm 1 = .lst full (I.map cSb)/\AtK ts l es n body s k I P a9 s2 ad av z U/\(I.length:Int)+(if k<=1 then 1 else 0)<=s2.sM+8/\dueN (qm ts es) (binB n.op) k<=pot (qm ts es) s2/\(k<=1->a9=n.name)/\resK n ad z (ui E' R' (binB n.op) k I a9 (n.sD.drop k) s2)=ax) ?_ ?_
 .refine ⟨false,sc,env,n.name,payS 1 s,[],.lst true [],1,zSi,⟨zSi,zSi,by simp[go_sem,yP n],zSi,zSi,zSi,zSi,zSi,by simp[go_sem];exact⟨rfl,rfl⟩,zSi,zSi,zSi,by simp[go_sem];exact OwnF.nil zSp,p.so,p.en,rfl,bc.l0,by show _<=s.sM+1;omega,bc.c1,zOm,zOm⟩,by show _<=s.sM+1+8;have:=p.le;simp;omega,?_,fun _=>rfl,b9.symm⟩
  rw[ZR];have:=p.st.p;unfold dueN;split<;>omega
 .rintro k U hk ⟨full,I,P,a9,s2,ad,av,z,J,A,af,an,b7,hI⟩
  obtain⟨rr,T⟩:=four A.m0 A.m1 A.m2 A.m3;have e3:=A.e3;have e4:=A.e4;have e6:=A.e6;have e8:=A.e8;have e9:=A.e9;have a0:=A.e11;have a5:=A.e12;have a6:=A.e13;have ai:=A.ho.one;have aj:=A.ho.cells;by_cases a7:k<n.sD.length
  .have w2:=zWk k
   rw[zg a7]at hI;simp only[ui]at hI;refine awp.cut (fun U=>∃(full:Bool) (lo:Nat) (sl:AV) (ab:List Sb) (ag:IEnv) (ar:tZ) (s3:ISt) (av:AV),(if binB n.op=true/\k=1 then R' I a9 s2 else ((I,a9),s2))=((ab,ar),s3)/\U.tm 1=sl/\(sl = .lst full (ab.map cSb)\/(OwnF lo U.mu 9 sl (ab.map cSb)/\(∀ b s o q,av = .sl b s o q->b<lo)/\4<=lo))/\AtK ts l es n body s k ab ag ar s3 ad av z U/\(ab.length:Int)+(if k+1<=1 then 1 else 0)<=s3.sM+8/\dueN (qm ts es) (binB n.op) (k+1)<=pot (qm ts es) s3/\(k+1<=1->ar=n.name)) ?_ ?_
   .clear bh bk
    by_cases aq:k=1
    .subst aq
     have be:=b7 (qj _);have de:U.mu.length=rr.length+4:=by rw[T];rfl
     have az:∀ b s o q,av = .sl b s o q->b<rr.length+4:=fun b s o q e=>by
      rcases A.ho.1 with h|⟨c,h,hc⟩
      .rw [h]at e;cases e
      .rw [h]at e;cases e;have:=(qh.1 hc).1;omega
     have aa:(1:Int)<n.sD.length:=zOm;have cm:=A.c0;have b8:=A.l0;have cp:=A.c1;by_cases ak:binB n.op=true
     .have a8:n.op=15\/n.op=45\/n.op=46:=by simpa[binB,or_assoc] using ak
      have dk:=h.ns;have dm:=h.nf;have dn:qm ts es<=l.length+40:=by have:=t.len;unfold qm;omega
      have cq:okNm ts:=⟨h.sl,zOm,zOm,fun f hf=>zW1 (h.fl f hf)⟩;have cn:=kH ts cq n.name;have aw:=kG ts n.name;have cr:(named ts n.name).2=(means ts n.name).length:=by rw[kU h]
      rw[cr]at cn;generalize (named ts n.name).1=C at *
      have bt:StOk (qm ts es) s2:=⟨b8,zOm,cp,zW1 (ZS (qm ts es) (binB n.op) 1)⟩;have cs:=bt.last;have cf:=qq4 ts h l es t hl s2 ⟨b8,zOm⟩ (b4 s2.last b8);by_cases ae:body=true\/means ts n.name≠[]
      .have hq:(if binB n.op=true/\1=1 then R' I a9 s2 else ((I,a9),s2))=((I++[(n.name,⟨none,0,vN (zp ts es (qm ts es) s2.last)⟩)],vN (zp ts es (qm ts es) s2.last)),⟨zp ts es (qm ts es) s2.last,s2.sM⟩):=by
        rw[if_pos ⟨ak,rfl⟩,bg,be];show renR ts es I n.name body s2=_;unfold renR;rw[if_pos ae]
       have ct:body=true\/(body=false/\0<(means ts n.name).length):=by
        cases body with
        |true=>exact .inl rfl
        |false=>exact .inr ⟨rfl,List.length_pos_iff.2 (ae.resolve_left zSp)⟩
       clear hI;have bu:renR ts es I n.name body s2=((I++[(n.name,⟨none,0,vN (zp ts es (qm ts es) s2.last)⟩)],vN (zp ts es (qm ts es) s2.last)),⟨zp ts es (qm ts es) s2.last,s2.sM⟩):=by
        unfold renR;rw[if_pos ae]
       obtain⟨a1,a2,a3⟩:=qeW (es:=es) (nm:=n.name) (s:=s2) A.en A.so;have a4:=J9 (ts:=ts) (es:=es) (nm:=n.name) (body:=body) (s:=s2) A.en;obtain⟨b1,b2,b3⟩:=Va (body:=body) (nm:=n.name) (env:=P) b4 b8;rw[bu]at a1 a3;rw[<-a3]at b1 b2;simp only at b1 b2 a1;have bl:dueN (qm ts es) (binB n.op) 1=(qm ts es:Int):=by unfold dueN;rw[if_pos ⟨ak,zOm⟩]
       have bm:dueN (qm ts es) (binB n.op) 2=0:=by unfold dueN;rw[zIn]
       rw[bl]at an;unfold pot at an;generalize (renI ts es P n.name body s2).1.1=ag at *
       clear a2 a3 b3;generalize dp:zp ts es (qm ts es) s2.last=R at *
       rcases a8 with a8|a8|a8<;>rcases ct with au|⟨au,cu⟩
       all_goals
        simp[go_sem,e3,e4,e6,e8,e9,a0,a5,a6,J,T,a7,aa,a8,q9];refine tU cn (.zk (zw ts) (.zs .nil)) ?_;simp[go_sem,e3,e4,e6,e8,e9,a0,a5,a6,J,T,a7,aa,a8,q9,aw.len];rw[if_pos aw.one];generalize putCells _ 0 C=PC
        first
        |simp[go_sem,e3,e4,e6,e8,e9,a0,a5,a6,J,T,a7,aa,a8,q9,au,cu]
        |simp[go_sem,e3,e4,e6,e8,e9,a0,a5,a6,J,T,a7,aa,a8,q9,au]
        refine tU cf (.zk (wE ts l s2) .nil) ?_;simp[go_sem,e3,e4,e6,e8,e9,a0,a5,a6,J,T,a7,aa,a8,q9,au];refine qi.move 2 2 zKr zKr ?_ ?_
        all_goals
         simp[go_sem,e3,e4,e6,e8,e9,a0,a5,a6,J,T,a7,aa,a8,q9,au];refine qrD (lo:=rr.length+6) (xs:=[]) (ys:=I) (OwnF.nil zSp) (by simp[qA]) (by simp at af⊢;omega) ?_;intro dq dr cv aq;simp[go_sem,e3,e4,e6,e8,e9,a0,a5,a6,J,T,a7,aa,a8,q9,au];refine qeZ (y:=(n.name,⟨none,0,vN R⟩)) cv (by simp at af⊢;omega) ?_;intro cw ds ay ah;have n0:=(ah 0 zOm).trans (aq 0 zOm);have n1:=(ah 1 zOm).trans (aq 1 zOm);have n2:=(ah 2 zOm).trans (aq 2 zOm);have n3:=(ah 3 zOm).trans (aq 3 zOm);simp at n0 n1 n2 n3;simp[go_sem,e3,e4,e6,e8,e9,a0,a5,a6,J,a7,aa,a8,q9,au];refine aC ⟨false,rr.length+6,cw,I++[(n.name,⟨none,0,vN R⟩)],ag,vN R,⟨R,s2.sM⟩,av,hq,zSi,.inr ⟨zVs ay,?_,zOm⟩,⟨zS2 e3 au,zS1 e4,zS1 e6,zS1 e8,zS1 e9,zS1 a0,zS1 a5,zS1 a6,by simp[go_sem,n0],zS1 n1,zS1 n2,zS2 n3 a8,?_,a1,a4,A.al,b1,A.c0,A.c1,A.z1,A.z2⟩,?_,?_,fun h=>zOm⟩
         .intro b s o q e;have:=az b s o q e;omega
         .simp only[qI]
          refine qe0 A.ho az (zW1 ay.2.2) fun j h4 hj=>?_
          obtain⟨i,rfl⟩:∃ i,j=i+4:=⟨j-4,zOm⟩;rw[ah _ zOm,aq _ zOm,T];simp only[uj];rw[zGa]
         .simp at af⊢;omega
         .rw [bm];unfold pot;simp only;omega
      .have bv:body=false:=by cases body with
        |true=>exact absurd (.inl rfl) ae
        |false=>rfl
       have cx:means ts n.name=[]:=Classical.byContradiction fun x=>ae (.inr x)
       have hq:(if binB n.op=true/\1=1 then R' I a9 s2 else ((I,a9),s2))=((I,a9),s2):=by
        rw[if_pos ⟨ak,rfl⟩,bg,be];show renR ts es I n.name body s2=_;unfold renR;rw[if_neg ae]
       rcases a8 with a8|a8|a8
       all_goals
        simp[go_sem,e3,e4,e6,e8,e9,a0,a5,a6,J,T,a7,aa,a8,q9];refine tU cn (.zk (zw ts) (.zs .nil)) ?_;simp[go_sem,e3,e4,e6,e8,e9,a0,a5,a6,J,T,a7,aa,a8,q9,aw.len];rw[if_pos aw.one];generalize putCells _ 0 C=PC;simp[go_sem,e3,e4,e6,e8,e9,a0,a5,a6,J,T,a7,aa,a8,q9,bv,cx];refine aC ⟨full,rr.length+5,.lst full (I.map cSb),I,P,a9,s2,av,hq,zS1 J,.inl rfl,A.keep (zS2 e3 bv) (zS1 e4) (zS1 e6) (zS1 e8) (zS1 e9) (zS1 a0) (zS1 a5) (zS1 a6) (rr.length+4) zOm ?_ zSi (fun j hj=>?_),?_,?_,fun h=>zOm⟩
        .exact az
        .simp only[qI]
         rw[T]
         match j,hj with
         | 0,_=>rfl
         | 1,_=>rfl
         | 2,_=>rfl
         | 3,_=>simp[a8]
         |i+4,hj =>
          simp only[uj];rw[zGa]
        .simp at af⊢;omega
        .have bl:dueN (qm ts es) (binB n.op) 1=(qm ts es:Int):=by unfold dueN;rw[if_pos ⟨ak,zOm⟩]
         have bm:dueN (qm ts es) (binB n.op) 2=0:=by unfold dueN;rw[zIn]
         rw[bl]at an;rw[bm];omega
     .have bw:¬n.op=15:=fun e=>ak (by simp[binB,e])
      have ca:¬n.op=45:=fun e=>ak (by simp[binB,e])
      have cb:¬n.op=46:=fun e=>ak (by simp[binB,e])
      simp[go_sem,e3,e4,e6,e8,e9,a0,a5,a6,J,T,a7,aa,bw,ca,cb,q9];refine aC ⟨full,4,.lst full (I.map cSb),I,P,a9,s2,av,by rw[if_neg (fun x=>ak x.1)],zS1 J,.inl rfl,A.same (zS1 e3) (zS1 e4) (zS1 e6) (zS1 e8) (zS1 e9) (zS1 a0) (zS1 a5) (zS1 a6) (zS1 T),?_,?_,fun h=>zOm⟩
      .simp at af⊢;omega
      .rw [<-UW (fun x=>ak x.1)];exact an
    .have cc:¬(k:Int)=1:=by omega
     simp[go_sem,e3,e4,e6,e8,e9,a0,a5,a6,J,T,a7,cc,q9];refine aC ⟨full,4,.lst full (I.map cSb),I,P,a9,s2,av,by rw[if_neg (fun x=>aq x.2)],zS1 J,.inl rfl,A.same (zS1 e3) (zS1 e4) (zS1 e6) (zS1 e8) (zS1 e9) (zS1 a0) (zS1 a5) (zS1 a6) (zS1 T),?_,?_,fun h=>b7 zOm⟩
     .split at af<;>split<;>omega
     .rw [<-UW (fun x=>aq x.2)];exact an
   .rintro U ⟨full,lo,sl,ab,ag,ar,s3,av,hq,J,bn,A,af,an,b7⟩
    rw[hq]at hI;simp only at hI;have b0:StOk (qm ts es) s3:=⟨A.l0,zW1 A.c0,A.c1,zW1 (ZS (qm ts es) (binB n.op) (k+1))⟩;have bo:(ab.length:Int)<=s3.sM+8:=by split at af<;>omega
    have x1:=bh n.sD[k] (qt a7) ag ab s3 b0 A.c0 A.en A.so bo;have x2:=bk n.sD[k] (qt a7) ag ab s3 b0 A.c0 A.en A.so;generalize E' ab n.sD[k] s3=q at *
    clear bh bk;rw[qiL,qiM];refine qi.fz (qrC (fun U=>∃ full,U.tm 1 = .lst full (ab.map cSb)/\AtK ts l es n body s k ab ag ar s3 ad av z U) ?_ ?_)
    .rcases bn with bn|⟨cy,az,h4⟩
     .exact FzQ.skip ⟨full,by rw[J,bn],A⟩
     .refine FzQ.own (d:=1) J cy (Jf ab) (fun r hr c hc=>by obtain⟨x,_,rfl⟩:=qn.1 hr;exact Wt x c hc) ?_
      intro da bq dt ah;refine⟨bq,zSi,A.keep (by simp[go_sem,A.e3]) (by simp[go_sem,A.e4]) (by simp[go_sem,A.e6]) (by simp[go_sem,A.e8]) (by simp[go_sem,A.e9]) (by simp[go_sem,A.e11]) (by simp[go_sem,A.e12]) (by simp[go_sem,A.e13]) lo h4 az ?_ ?_⟩
      .have:=A.ho.2.2;simp only[qI];omega
      .intro j hj;simp only[qI];exact ah j hj
    rintro U ⟨full,J,A⟩;obtain⟨rr,T⟩:=four A.m0 A.m1 A.m2 A.m3;have e3:=A.e3;have e4:=A.e4;have e6:=A.e6;have e8:=A.e8;have e9:=A.e9;have a0:=A.e11;have a5:=A.e12;have a6:=A.e13;have ai:=A.ho.one;have aj:=A.ho.cells;refine fG [0,1,2,3,4,5,6,7,8,9,10,11,12,17,13,14,15,16] [(0,0,[]),(1,0,[]),(2,0,[]),(3,0,[]),(4,0,[]),(5,0,[]),(6,0,[]),(7,0,[]),(8,1,[]),(9,0,[]),(10,0,[]),(11,0,[]),(12,0,[]),(17,0,[]),(13,2,[0,3,6]),(14,2,[0,3,6]),(15,1,[]),(16,1,[])] zKr zKr zSi ?_;simp[go_sem,e3,e4,e6,e8,e9,a0,a5,a6,J,T,a7,q9,ai,aj];refine tU x1 (.zk (wE ts l s3) (.cons (WK.lst fun r hr c hc=>by
     obtain⟨x,_,rfl⟩:=qn.1 hr;exact Wt x c hc) (.zk (qE _) (.zs .nil)))) ?_
    simp[go_sem,e3,e4,e6,e8,e9,a0,a5,a6,J,T,a7,q9,ai,aj];by_cases ao:4000<q.1.sM
    .rw [if_pos ao]at hI
     have hI:ax=(q.1,nd0,0):=hI.symm;simp[go_sem,e3,e4,e6,e8,e9,a0,a5,a6,J,T,a7,q9,ai,aj,ao];rw[hI];exact rdZ ts l q.1
    .rcases x2 with x2|⟨_,g⟩
     .exact absurd x2 ao
     rw[if_neg ao]at hI;simp[go_sem,e3,e4,e6,e8,e9,a0,a5,a6,J,T,a7,q9,ai,aj,ao];obtain⟨g1,g2,g3⟩:=Ws g b0;have gz:=g.z0;have du:=g.cz;have db:=g.c1;have gp:=g.p;have dv:=A.z1;have dw:=A.z2;have cm:=A.c0;have dc:=A.al;have df:=A.ho.2.2;refine YD.UY (lo:=4) (xs:=ad) ?_ zOm ?_
     .have h1:OwnF 4 (U.mu++[Cell.arr (cWk ts l q.1),Cell.arr (cNd q.2.1)]) 5 av (ad.map cNd):=YD.Zj A.ho zSo fun i _ hi=>qG hi
      rw[T]at h1;have h2:=OwnF.set (i:=0) (c:=Cell.arr (cWk ts l q.1)) h1 zOm;simpa using h2
     intro cd da ay ah;have n0:=ah 0 zOm;have n1:=ah 1 zOm;have n2:=ah 2 zOm;have n3:=ah 3 zOm;simp at n0 n1 n2 n3;obtain⟨r2,cg⟩:=four n0 n1 n2 n3;have br:=ay.one;have bs:=ay.cells;have w3:ql.wrap (z+q.2.2)=z+q.2.2:=zWr;simp[go_sem,e3,e4,e6,e8,e9,a0,a5,a6,J,cg,a7,q9,br,bs,ao,w2,w3];refine aC ⟨full,ab,ag,ar,q.1,ad++[q.2.1],cd,z+q.2.2,zS1 J,⟨zS1 e3,zS1 e4,zS1 e6,zS1 e8,zS1 e9,zS1 a0,zSi,zSi,zSi,zSi,zSi,zSi,?_,A.so,A.en,zP1 dc,g1.l0,zOm,db,zOm,zOm⟩,zOm,zOm,b7,?_⟩
     .have h2:=OwnF.set (i:=3) (c:=Cell.arr [aI n.op,aS ar,aI n.n,cd,aI n.pos]) ay zOm
      rw[cg]at h2;simpa[go_sem] using h2
     .rw [<-hI]
      generalize ui E' R' (binB n.op) (k+1) ab ar (List.drop (k+1) n.sD) q.1=X;cases X with
      |error e=>rfl
      |ok r =>
       obtain⟨⟨a,b,c⟩,d⟩:=r;simp[resK];omega
  .simp [go_sem,e3,e4,e6,e8,e9,a0,a5,a6,J,T,a7,q9,ai,aj]
   refine fG [0,1,2,5,3,4] [(0,0,[]),(1,0,[]),(2,0,[]),(5,0,[]),(3,1,[1]),(4,1,[])] zKr zKr zSi ?_;simp[go_sem,e3,e4,e6,e8,e9,a0,a5,a6,J,T,a7,q9,ai,aj];rw[WB zOm]at hI;have hI:ax=(s2,.mk n.op a9 n.n ad n.pos,z):=by rw[<-hI];simp[ui,resK]
   rw[hI];refine .tup _ _ rfl fun k x y hx hy=>?_
   match k,hx,hy with
   | 0,hx,hy=>cases hx;cases hy;exact .hf _ (wE ts l s2)
   | 1,hx,hy =>
    cases hx;cases hy;have dd:eNd (.mk n.op a9 n.n ad n.pos) = .agg [aI n.op,aS a9,aI n.n,.lst false (ad.map cNd),aI n.pos]:=by
     show AV.agg (cNd _)=_;rw[yP];rfl
    show Rd _ _ (eNd (.mk n.op a9 n.n ad n.pos));rw[dd];refine .agg _ _ rfl fun k x y hx hy=>?_
    match k,hx,hy with
    | 0,hx,hy=>cases hx;cases hy;exact .zsc _
    | 1,hx,hy=>cases hx;cases hy;exact .zsc _
    | 2,hx,hy=>cases hx;cases hy;exact .zsc _
    | 3,hx,hy =>
     cases hx;cases hy;have h1:=OwnF.set (i:=1) (c:=Cell.arr (cWk ts l s2)) A.ho zOm;have h2:=OwnF.set (i:=2) (c:=Cell.arr [aI n.op,aS a9,aI n.n,av,aI n.pos]) h1 zOm;rw[T]at h2;exact h2.1.rd (YD.UX ad).ok fun r hr c hc=>by
      obtain⟨x,_,rfl⟩:=qn.1 hr;exact y8 x c hc
    | 4,hx,hy=>cases hx;cases hy;exact .zsc _
    |k+5,hx,hy=>cases hx
   | 2,hx,hy=>cases hx;cases hy;exact .zsc _
   |k+3,hx,hy=>cases hx
end
end RA
namespace RB
open YF Y9 Y1 YX YZ YB YC YE YG YH P1 P2 Q4 Q6 PF QE QT QW QX QY QZ RA
theorem qe1(l):∀ es nm,getK nm (putN es l)=some true↔(getK nm es=some true\/∃ x,x∈l/\x.name=nm):=by
 induction l with
 |nil=>intro es nm;exact⟨fun h => .inl h,fun h=>h.elim id fun⟨x,g,_⟩=>absurd g qK⟩
 |cons a l i =>
  intro es nm;have e:putN es (a :: l)=putN (setK a.name true es) l:=rfl;rw[e,i,jy];by_cases e:nm=a.name
  .grind
  .rw [if_neg e]
   constructor
   .grind
   .rintro (h|⟨x,g,j⟩)
    .exact .inl h
    .rcases qy.1 g with rfl|g
     .grind
     grind
theorem qrE(l:List Pd):∀ es nm,getK nm (l.foldl (fun es p=>putN es (preN p.body)) es)=some true↔(getK nm es=some true\/∃ p,p∈l/\∃ x,x∈preN p.body/\x.name=nm):=by
 induction l with
 |nil=>simp
 |cons a l i =>
  intro es nm;rw[List.foldl_cons,i,qe1];constructor
  .grind
  .rintro (h|⟨p,g,h⟩)
   .grind
   .rcases qy.1 g with rfl|g
    .grind
    grind
structure Ti (es:List (tZ×Bool)):Prop where
 nd:(es.map Prod.fst).Nodup
 tr:∀ e,e∈es->e.2=true
theorem Ti.put(l):∀{es},Ti es->Ti (putN es l):=by
 induction l with
 |nil=>intro es h;exact h
 |cons a l i =>
  intro es h;refine i (es:=setK a.name true es) ⟨u6 h.nd,fun e g=>?_⟩;rcases U1 g with rfl|g
  .rfl
  .exact h.tr e g
theorem tT(l:List Pd):∀{es},Ti es->Ti (l.foldl (fun es p=>putN es (preN p.body)) es):=by
 induction l with
 |nil=>grind
 |cons a l g=>intro es h;exact g (h.put _)
theorem pb{nm}(n)(i:nm≠⟨#[]⟩):nm∈namL n↔∃ x,x∈preN n/\x.name=nm:=by
 unfold namL;rw[qn];constructor
 .rintro ⟨x,g,e⟩
  exact⟨x,(y5.1 g).1,e⟩
 .rintro ⟨x,g,e⟩
  exact⟨x,y5.2 ⟨g,by rw[e];simpa using i⟩,e⟩
theorem takTn(ts n):Tn (takL ts n) (yT ts n):=by
 have i:∀ nm:tZ,nm≠⟨#[]⟩->(nm∈takL ts n↔getK nm (yT ts n)=some true):=fun nm o=>by
  unfold takL yT;rw[qrE,qe1,qO,pb n o,List.mem_flatMap];constructor
  .grind [pb]
  .rintro ((h|h)|⟨p,P,h⟩)
   .cases h
   .exact .inl h
   grind [pb]
 refine⟨i,?_⟩;have g:Ti (yT ts n):=tT _ (Ti.put _ ⟨.nil,fun e t=>absurd t qK⟩);have:=List.Nodup.length_le_of_subset (l₂:=⟨#[]⟩ :: takL ts n) g.nd fun x C=>by
  by_cases e:x=⟨#[]⟩
  .grind
  .refine qN _ ((i x e).2 ?_)
   obtain⟨q,l,rfl⟩:=qn.1 C;have I:=g.tr q l;have J:=(Qs g.nd (k:=q.1) (v:=q.2)).2 l;rw[J,I]
 grind
theorem qe2(ts)(h:okTS ts)(l es)(t:Tn l es)(J:l.length<=400000)(P:qm ts es<=200000)(g:Free ts es)(j:∀ p,p∈ts.sT->WfN p.body/\yK ts p.body):∀ f env sc n body s,Pre ts es f env sc n body s->ExpW ts l es f sc n body s
 | 0,env,sc,n,body,s,p=>zW2 p.fu p.st.c1
 |f+1,env,sc,n,body,s,p=>by
  have R:=qe2 ts h l es t J P g j f;by_cases o:s.sM+1<=4000
  case neg=>grind [expZ]
  by_cases T:n.op=1
  .grind [expN]
  by_cases h47:n.op=47
  .obtain ⟨C,I,i⟩:=p.cl n (vV n) h47
   have U:(payS 1 s).sM=s.sM+1:=rfl;exact expC ts l es f env sc n body s p o h47 C I (replW ts h l es g j f R env sc n body (payS 1 s) ⟨zW1 p.fu,(Qd p.st zOm o).ok p.st,p.en,p.wf,p.cl,p.so,zW1 p.le⟩ h47 C I i)
  grind [expK]
theorem inlRU(ts)(h:okTS ts)(hv:∀ p,p∈ts.sT->qT p.body=true)(hb:∀ p,p∈ts.sT->WfN p.body/\yK ts p.body)(n)(hn:qT n=true)(a7:(zQ ts [] n).1=0->yK ts n):qg qc 68 [eTS ts,eNd n] (.tup [eNd (qU ts n).1,aI (qU ts n).2]):=by
 have U:=jr hn;have a8:=uI.1 hn;have C:∀ p,p∈ts.sT->WfN p.body:=fun p hp=>(hb p hp).1
 have a9:∀ p,p∈ts.sT->(preN p.body).length<=400:=fun p hp=>by grind [uI,Vf]
 have aa:(preN n).length<=400:=by grind [Vf]
 have hF:=ki h hv hn;have hT:=takTn ts n;have af:=h.np;have ab:(takL ts n).length<=400000:=by
  have h1:∀ L:List Pd,(∀ p,p∈L->(preN p.body).length<=400)->(L.flatMap fun p=>namL p.body).length<=400*L.length:=by
   intro L;induction L with
   |nil=>intro _;simp
   |cons a L ih =>
    intro hL;have a1:=ih fun p hp=>hL p (qN _ hp)
    have a2:=Wq a.body;have a3:=hL a (qZ ..);rw[List.flatMap_cons,zh,List.length_cons];omega
  grind [Wq,takL,zh]
 have J:=KW ts (yT ts n);have P:StOk (qm ts (yT ts n)) ⟨0,0⟩:=⟨zSp,zSp,zSp,by simp[pot]⟩;have cf:=qeM ts h C [] ⟨zSp,zSp⟩ zSp n U a8.2.2.2;have l:=qaY (szN n) n (qj _) U.small;have ct:=qqZ ts h C n U aa a9;have T:WKs [eTS ts,.lst true [],eNd n] [eTS ts,lPm [],eNd n] := .zk (zw ts) (.cons (WK.lst fun r hr=>absurd hr qK) (.zk (qE n) .nil));have ad:WKs [eTS ts,eNd n] [eTS ts,eNd n] := .zk (zw ts) (.zk (qE n) .nil);generalize i:qU ts n=R;unfold qU at i;by_cases j:(zQ ts [] n).1=0
 case neg =>
  rw[if_pos j]at i;subst i;refine qSU call68 func68 rfl ?_;refine tU cf T ?_;simp[go_sem,j];refine fG [0,1,2,4,3] [(0,0,[]),(1,0,[]),(2,0,[]),(4,0,[]),(3,1,[2])] zKr zKr zSi ?_;simp_all[go_sem,YP]
 rw[if_neg (zUs j)]at i;cases ha:anyN (fun n=>decide (n.op=47)) n with
 |false =>
  rw[ha]at i l;rw[if_pos rfl]at i;subst i;refine qSU call68 func68 rfl ?_;refine tU cf T ?_;simp[go_sem,j];refine tU l (.zk (qE n) .nil) ?_;simp[go_sem,j];exact .hf _ (HF.tup fun x hx=>by
   simp only[qy,qK,or_false]at hx;rcases hx with rfl|rfl
   .exact qE n
   .exact HF.sc _)
 |true =>
  rw[ha]at i l;rw[if_neg zSp]at i;have a0:=a7 j;have cx:=qe2 ts h (takL ts n) (yT ts n) hT ab hF J hb 4001 [] [] n false ⟨0,0⟩ ⟨zSp,P,.nil,U,a0,⟨fun nm=>rfl,fun _ nm v hv=>(by cases hv),fun e he=>absurd he qK⟩,zSp⟩;have ho:=Je ts (yT ts n) J hb 4001 [] [] n false ⟨0,0⟩ zSp P .nil U a0 ⟨fun nm=>rfl,fun _ nm v hv=>(by cases hv),fun e he=>absurd he qK⟩;have a4:=fun {n' z s'}=>YN ts C (yT ts n) 4001 (env:=[]) (n:=n) (n':=n') (body:=false) (s:=⟨0,0⟩) (s':=s') (z:=z) (fun e he=>absurd he qK) U
  have a5:=fun {n' z s'}=>jJ ts J 4001 (env:=[]) (n:=n) (n':=n') (body:=false) (s':=s') (z:=z) P .nil
  have a6:=fun {d}=>Vc ts (yT ts n) 4001 (env:=[]) (n:=n) (body:=false) (s:=⟨0,0⟩) (d:=d)
  unfold outI at i;unfold ExpW at cx;generalize expR ts (yT ts n) 4001 [] n false ⟨0,0⟩=q at *
  generalize expI ts (yT ts n) 4001 [] n false ⟨0,0⟩=E at *
  have ae:(4000<q.1.sM/\R=(nd0,2))\/(¬ 4000<q.1.sM/\Small q.2.1/\depN q.2.1<=1000000/\((400<q.2.2/\R=(nd0,2))\/(¬ 400<q.2.2/\24<depN q.2.1/\R=(nd0,2))\/(¬ 400<q.2.2/\¬ 24<depN q.2.1/\R=(q.2.1,0)))):=by
   cases E with
   |error d =>
    have:=a6 rfl;subst this;exact .inl ⟨ho.1,i.symm⟩
   |ok r =>
    obtain⟨⟨m,y⟩,t⟩:=r;obtain⟨o1,o2,o3⟩:=ho;obtain⟨s1,s2⟩:=a4 rfl;have g:=a5 rfl;have gc:=g.c1;have gz:=g.cz;have dl:=KS m;rw[o1,o2,o3];have gz:0+y<=t.sM:=gz;refine .inr ⟨zOm,s2,zOm,?_⟩;simp only at i;by_cases z1:y<=400
    .by_cases z2:depN m<=24
     .grind
     grind
    .rw [if_neg (fun x=>z1 x.1)]at i
     grind
  clear i ho a4 a5 a6;refine qSU call68 func68 rfl ?_;refine tU cf T ?_;simp[go_sem,j];refine tU l (.zk (qE n) .nil) ?_;simp[go_sem,j];refine fG [0,1,2,5,3,4,6,7,8,9,10,15,11,12,13,14] [(0,0,[]),(1,0,[]),(2,0,[]),(5,0,[]),(3,1,[0,5]),(4,0,[]),(6,1,[]),(7,0,[]),(8,0,[]),(9,0,[]),(10,0,[]),(15,0,[]),(11,2,[0,1,2,5]),(12,2,[0,1,2,5]),(13,1,[]),(14,1,[])] zKr zKr zSi ?_;simp[go_sem,j];refine tU ct ad ?_;simp[go_sem,j];refine tU cx ?_ ?_
  .exact .zk (wE ts (takL ts n) ⟨0,0⟩) (.cons (WK.lst fun r hr=>absurd hr qK) (.zk (qE n) (.zs .nil)))
  simp[go_sem,j];have ag:∀ I:Mu,Rd I (.tup [eNd q.2.1,aI 0]) (.tup [eNd q.2.1,aI 0]):=fun I => .hf _ (HF.tup fun x hx=>by
   simp only[qy,qK,or_false]at hx;rcases hx with rfl|rfl
   .exact qE _
   .exact HF.sc _)
  rcases ae with ⟨g1,g2⟩|⟨g1,gs,gd,⟨g2,g3⟩|⟨g2,g3,g4⟩|⟨g2,g3,g4⟩⟩
  .simp_all [go_sem,g1,YP]
  .rw [g3]
   simp[go_sem,j,g1,g2];exact YP _ _
  .rw [g4]
   simp[go_sem,j,g1,g2];refine tU (k7 (szN q.2.1) q.2.1 (qj _) gs gd) (.zk (qE _) .nil) ?_;simp_all[go_sem,g1,YP]
  .rw [g4]
   simp[go_sem,j,g1,g2];refine tU (k7 (szN q.2.1) q.2.1 (qj _) gs gd) (.zk (qE _) .nil) ?_;simp[go_sem, *]
end RB
namespace FF
end FF
namespace IB
open QU P1 P2 Y1 YF Y9 Y10 Y16 PA YC YG YH Q4 Q6 PF RB FE
section
variable {ts:TS}
structure SpD (ts:TS):Prop where
 h:okTS ts
 wp:∀ p,p∈ts.sT->WfN p.body
 wf:∀ f,f∈ts.sP->WfN f.2
 hv:∀ p,p∈ts.sT->qT p.body=true
 hf:∀ f,f∈ts.sP->qT f.2=true
theorem SpD.chk(S:SpD ts):qg qc 30 [eTS ts] (lDg (yY ts)):=
 qqU ts S.h S.wp S.wf (fun p g=>(uI.1 (S.hv p g)).2.2.2) (fun f hf=>(uI.1 (S.hf f hf)).2.2.2)
theorem qe3(S:SpD ts)(j:yY ts=[]):∀ p,p∈ts.sT->WfN p.body/\yK ts p.body:=fun p g=>⟨S.wp p g,by
 obtain⟨i,l,rfl⟩:=List.mem_iff_getElem.1 g;obtain⟨_,t,o⟩:=Ve (qdD j i l);exact kf (vu S.h zOm) (szN ts.sT[i].body) _ _ _ _ (qj _) o (S.wp _ g)⟩
theorem qe4(S:SpD ts){n}(g:qT n=true)(i:(zQ ts [] n).1=0):yK ts n:=by
 obtain⟨_,l,j⟩:=Ve i;exact kf (vu S.h (qj _)) (szN n) _ _ _ _ (qj _) j (jr g)
theorem inlC(S:SpD ts)(i:yY ts=[]){n}(g:qT n=true):qg qc 47 [eTS ts,eNd n] (.tup [eNd (qU ts n).1,aI (qU ts n).2]):=
 qnM ts S.h (qe3 S i) n (jr g) (qe4 S g) (ki S.h S.hv g)
theorem inlR(S:SpD ts)(i:yY ts=[]){n}(g:qT n=true):qg qc 68 [eTS ts,eNd n] (.tup [eNd (qU ts n).1,aI (qU ts n).2]):=
 inlRU ts S.h S.hv (qe3 S i) n g (qe4 S g)
theorem pf(S:SpD ts)(o:yY ts=[]){n}(j:qT n=true)(g:(qU ts n).2=0):qT (qU ts n).1=true:=by
 by_cases i:(zQ ts [] n).1=0
 .cases l:anyN (fun n=>decide (n.op=47)) n with
  |false =>
   have:qU ts n=(n,0):=by unfold qU;rw[if_neg (zUs i),if_pos l]
   rw[this];exact j
  |true=>exact(qdG S.h S.hv o j i l (Prod.ext rfl g)).1
 .unfold qU at g
  rw[if_pos i]at g;exact absurd g i
def qrF(ts:TS)(a s:Int)(l:List Nd):Bool:=l.all fun b=>!(decide ((qU ts b).2=0)&&decide (3000<wkN a s (qU ts b).1))
def qe5(ts:TS)(a s:Int)(n:Nd):Bool:=qrF ts a s (ts.sP.map Prod.snd++[n])
theorem qrG(S:SpD ts)(g:yY ts=[]){n}(i:qT n=true)(j:(qU ts n).2=0):Small (qU ts n).1:=(jr (pf S g i j)).small
end
end IB
namespace IN
open Y1 P1 YF
def Zm(I:Nd->Nd×Int)(W:Nd->Int)(l:List Nd):Bool:=l.all fun b=>!(decide ((I b).2=0)&&decide (3000<W (I b).1))
theorem qrH(ts I W)(a3:ts.sP.length<=1000)(a s n)(step:∀ b,b∈ts.sP.map Prod.snd++[n]->qg qc 68 [eTS ts,eNd b] (.tup [eNd (I b).1,aI (I b).2]))(yf:∀ b,b∈ts.sP.map Prod.snd++[n]->(I b).2=0->qg qc 35 [eNd (I b).1,aI a,aI s] (aI (W (I b).1))):qg qc 36 [eTS ts,aI a,aI s,eNd n] (aB (Zm I W (ts.sP.map Prod.snd++[n]))):=by
 have a4:(ts.sP.map Prod.snd++[n]).length=ts.sP.length+1:=zSp;have C:∀(k:Nat)(h:k<ts.sP.length)(h2:k<(ts.sP.map Prod.snd++[n]).length),(ts.sP.map Prod.snd++[n])[k]=ts.sP[k].2:=fun k h h2=>by grind
 have J:∀(h2:ts.sP.length<(ts.sP.map Prod.snd++[n]).length),(ts.sP.map Prod.snd++[n])[ts.sP.length]=n:=fun h2=>zSp
 generalize ts.sP.map Prod.snd++[n]=L at *
 generalize hR:Zm I W L=R;refine qSU call36 func36 rfl ?_;refine aA (ts.sP.length+1) (fun k U=>U.tm 1=aI a/\U.tm 2=aI s/\U.tm 4 = .ip (cTS ts)/\U.tm 7 = .ip (cNd n)/\U.tm 9=aI k/\Zm I W (L.drop k)=R) ?_ ?_
 .simp [go_sem, *]
 rintro k U a5 ⟨P,T,p,e7,t,g⟩;have wi:∀ b:Nd,WKs [eTS ts,eNd b] [eTS ts,eNd b]:=fun b => .zk (zw ts) (.zk (qE b) .nil)
 have ww:∀ b:Nd,WKs [eNd b,aI a,aI s] [eNd b,aI a,aI s]:=fun b => .zk (qE b) (.zs (.zs .nil))
 have w1:=zWk k;by_cases l:k<ts.sP.length+1
 .have i:k<L.length:=by omega
  have a1:k<=ts.sP.length:=zOm;have a0:(k:Int)<=ts.sP.length:=zOm;have c1:=step _ (qt i);have c2:=yf _ (qt i);rw[zg i,Zm,List.all_cons]at g;by_cases hf:k<ts.sP.length
  .rw [C k hf i]at g c1 c2
   generalize I ts.sP[k].2=ib at *
   obtain⟨b',e'⟩:=ib;simp only at g c1 c2;simp[go_sem,p,e7,t,hf,a1,a0];refine fR c1 (wi _) ?_;by_cases he:e'=0
   .subst he
    have c3:=c2 rfl;simp[go_sem,P,T];refine tU c3 (ww b') ?_;generalize W b'=w at *
    by_cases j:3000<w
    .simp [j]at g
     subst g;simp[go_sem,j];exact .zsc _
    .simp [j]at g
     simp[go_sem,j,t,w1,l];exact aC ⟨zS1 P,zS1 T,zS1 p,by simp[go_sem,e7],zSi,by simpa[Zm] using g⟩
   simp_all[go_sem,aC,Zm]
  .have o:k=ts.sP.length:=by omega
   subst o;rw[J i]at g c1 c2;generalize I n=ib at *
   obtain⟨b',e'⟩:=ib;simp only at g c1 c2;simp[go_sem,p,e7,t];refine fR c1 (wi _) ?_;by_cases he:e'=0
   .subst he
    have c3:=c2 rfl;simp[go_sem,P,T];refine tU c3 (ww b') ?_;generalize W b'=w at *
    by_cases j:3000<w
    .simp [j]at g
     subst g;simp[go_sem,j];exact .zsc _
    .simp [j]at g
     simp[go_sem,j,t,w1,l];exact aC ⟨zS1 P,zS1 T,zS1 p,by simp[go_sem,e7],zSi,by simpa[Zm] using g⟩
   .simp [he]at g
    simp[go_sem,he,t,w1,l];exact aC ⟨zS1 P,zS1 T,zS1 p,by simp[go_sem,e7],zSi,by simpa[Zm] using g⟩
 .have o:k=ts.sP.length+1:=by omega
  subst o;rw[WB zOm]at g;have a2:R=true:=by rw[<-g];rfl
  subst a2;simp[go_sem,p,t,show ¬((ts.sP.length:Int)+1<=ts.sP.length) by omega];exact .zsc _
end IN
namespace IF
open P1 Y1 YF Y16 YG Q4 FE IB IN
theorem qrI{ts}(S:SpD ts)(i:yY ts=[])(a s)(l:0<=a/\a<=100)(o:0<=s/\s<=100){n}(p:qT n=true):qg qc 36 [eTS ts,aI a,aI s,eNd n] (aB (qe5 ts a s n)):=by
 have j:∀ b,b∈ts.sP.map Prod.snd++[n]->qT b=true:=fun b g=>by
  rcases qO.1 g with h|h
  .obtain ⟨f,hf,rfl⟩:=qn.1 h
   exact S.hf f hf
  .rw [qS]at h;subst h;exact p
 exact qrH ts (qU ts) (wkN a s) (zW1 S.h.nfa) a s n (fun b g=>inlR S i (j b g)) (fun b g t=>k8 a s l o _ _ (qj _) (qrG S i (j b g) t))
end IF
set_option maxHeartbeats 1000000
namespace OJ
open Y1 P1 YF Y16 Q4 Q8 OI
def vp(n:Nd):Bool:=decide (cntN n 40<=40)&&qT n
theorem pg(n):qg qc 28 [eNd n] (aB (vp n)):=by
 refine qSV call28 func28 rfl ?_;unfold vp;simp[go_sem];refine tU (qrA n 40 zOm) (.zk (qE n) (.zs .nil)) ?_;by_cases h:cntN n 40<=40
 .simp [go_sem,h]
  refine fR (qlU n) (.zk (qE n) .nil) ?_;exact .zsc _
 .simp [go_sem,h]
  exact .zsc _
def sz1(b:Bd):Bool:=decide (b.lo.ts.length<=200)&&decide (b.up.ts.length<=200)
theorem qrJ(bs)(hl:bs.length<=1000000):qg qc 33 [lBd bs] (aB (bs.all sz1)):=by
 refine qSV call33 func33 rfl ?_;generalize C:bs.all sz1=R;simp[go_sem];refine aA bs.length (fun k U=>U.tm 0=lBd bs/\U.tm 3=aI k/\(bs.drop k).all sz1=R) ?_ ?_
 .exact ⟨zSi,zSi,zUs C⟩
 rintro k U hk ⟨o,t,g⟩;by_cases i:k<bs.length
 .have w1:=zWk k
  rw[zg i,List.all_cons]at g;generalize I:bs[k]=b at *
  by_cases P:b.lo.ts.length<=200
  .have j:¬(200:Int)<b.lo.ts.length:=by omega
   by_cases T:b.up.ts.length<=200
   .have l:¬(200:Int)<b.up.ts.length:=by omega
    have p:sz1 b=true:=by unfold sz1;simp[P,T]
    rw[p,Bool.true_and]at g;simp[go_sem,o,t,i,I,j,l,w1]
    try refine⟨i,aC ?_⟩
    exact⟨zS1 o,zSi,g⟩
   .have l:(200:Int)<b.up.ts.length:=by omega
    have p:sz1 b=false:=by unfold sz1;simp[T]
    rw[p,Bool.false_and]at g;subst g;simp[go_sem,o,t,i,I,j,l];exact .zsc _
  .have j:(200:Int)<b.lo.ts.length:=by omega
   have p:sz1 b=false:=by unfold sz1;simp[P]
   rw[p,Bool.false_and]at g;subst g;simp[go_sem,o,t,i,I,j];exact .zsc _
 .have J:k=bs.length:=by omega
  subst J;rw[zU]at g;replace g:true=R:=g;subst g;simp[go_sem,o,t];exact .zsc _
def srt1(ns:Nat)(x:Int):Bool:=decide (0<=x)&&decide (x<ns)
def prB(ns:Nat)(p:Pd):Bool:=p.params.all fun q=>srt1 ns q.2
def shpB(ts:TS):Bool:=ts.sA.all (fldB ts.sS.length)&&ts.sT.all (prB ts.sS.length)
theorem qrK(ts)(hf:ts.sA.length<=1000000)(hp:ts.sT.length<=1000000)(hq:∀ p,p∈ts.sT->p.params.length<=1000000)(hs:ts.sS.length<=1000000):qg qc 29 [eTS ts] (aB (shpB ts)):=by
 refine qSV call29 func29 rfl ?_;generalize a2:shpB ts=R;simp[go_sem];refine aA ts.sA.length (fun k U=>U.tm 1 = .ip (cTS ts)/\U.tm 3=aI k/\((ts.sA.drop k).all (fldB ts.sS.length)&&ts.sT.all (prB ts.sS.length))=R) ?_ ?_
 .exact ⟨zSi,zSi,by simpa[shpB] using a2⟩
 rintro k U hk ⟨l,T,g⟩;by_cases i:k<ts.sA.length
 .have w1:=zWk k
  rw[zg i,List.all_cons]at g;generalize I:ts.sA[k]=f at *
  by_cases h1:1<=f.sS.length
  .have a0:¬(f.sS.length:Int)<1:=by omega
   by_cases h3:f.sS.length<=3
   .have a1:¬(3:Int)<f.sS.length:=by omega
    have hF:fldB ts.sS.length f=f.sS.all (srt1 ts.sS.length):=by unfold fldB;simp[h1,h3];rfl
    rw[hF]at g;simp[go_sem,l,T,i,I,a0,a1];rw[Bool.and_assoc]at g;refine aA f.sS.length (fun j U=>U.tm 1 = .ip (cTS ts)/\U.tm 3=aI k/\U.tm 4=aI j/\((f.sS.drop j).all (srt1 ts.sS.length)&&((ts.sA.drop (k+1)).all (fldB ts.sS.length)&&ts.sT.all (prB ts.sS.length)))=R) ?_ ?_
    .exact ⟨zS1 l,zS1 T,zSi,zUs g⟩
    clear l T g;rintro j U hj ⟨l,T,e4,g⟩;by_cases o:j<f.sS.length
    .have w2:=zWk j
     rw[zg o,List.all_cons,Bool.and_assoc]at g;generalize hx:f.sS[j]=x at *
     simp[go_sem,l,T,e4,i,I,o];refine fG [0,1,2,3,4,5,6,7,8,9,10,11,12,13,14,15,16,17,18,19,20,21,22,23,24] [(0,0,[]),(1,0,[]),(2,0,[]),(3,0,[]),(4,0,[]),(5,0,[]),(6,0,[]),(7,0,[]),(8,0,[]),(9,0,[]),(10,0,[]),(11,0,[]),(12,0,[]),(13,0,[]),(14,0,[]),(15,0,[]),(16,0,[]),(17,0,[]),(18,0,[]),(19,0,[]),(20,0,[]),(21,0,[]),(22,0,[]),(23,0,[]),(24,0,[])] zKr zKr zSi ?_;by_cases x0:0<=x
     .have C:¬x<0:=by omega
      by_cases xl:x<ts.sS.length
      .have J:¬(ts.sS.length:Int)<=x:=by omega
       have t:srt1 ts.sS.length x=true:=by unfold srt1;simp[x0,xl]
       rw[t,Bool.true_and]at g;simp[go_sem,l,T,e4,i,I,o,hx,C,J,w2]
       try refine⟨o,aC ?_⟩
       exact⟨zS1 l,zS1 T,zSi,g⟩
      .have J:(ts.sS.length:Int)<=x:=by omega
       have t:srt1 ts.sS.length x=false:=by unfold srt1;simp[xl]
       rw[t,Bool.false_and]at g;subst g;simp[go_sem,l,T,e4,i,I,o,hx,C,J];exact .zsc _
     .have C:x<0:=by omega
      have t:srt1 ts.sS.length x=false:=by unfold srt1;simp[x0]
      rw[t,Bool.false_and]at g;subst g;simp[go_sem,l,T,e4,i,I,o,hx,C];exact .zsc _
    .have P:j=f.sS.length:=by omega
     subst P;rw[zU]at g;replace g:(true&&((ts.sA.drop (k+1)).all (fldB ts.sS.length)&&ts.sT.all (prB ts.sS.length)))=R:=g;rw[Bool.true_and]at g;simp[go_sem,l,T,e4,i,I,w1]
     try refine⟨i,aC ?_⟩
     exact⟨zS1 l,zSi,g⟩
   .have a1:(3:Int)<f.sS.length:=by omega
    have hF:fldB ts.sS.length f=false:=by unfold fldB;simp[h3]
    rw[hF,Bool.false_and,Bool.false_and]at g;subst g;simp[go_sem,l,T,i,I,a0,a1];exact .zsc _
  .have a0:(f.sS.length:Int)<1:=by omega
   have hF:fldB ts.sS.length f=false:=by unfold fldB;simp[h1]
   rw[hF,Bool.false_and,Bool.false_and]at g;subst g;simp[go_sem,l,T,i,I,a0];exact .zsc _
 .have P:k=ts.sA.length:=by omega
  subst P;rw[zU]at g;replace g:(true&&ts.sT.all (prB ts.sS.length))=R:=g;rw[Bool.true_and]at g;simp[go_sem,l,T];refine aA ts.sT.length (fun k U=>U.tm 1 = .ip (cTS ts)/\U.tm 5=aI k/\(ts.sT.drop k).all (prB ts.sS.length)=R) ?_ ?_
  .exact ⟨zS1 l,zSi,zUs g⟩
  clear l T g;rintro k U hk ⟨l,e5,g⟩;by_cases i:k<ts.sT.length
  .have w1:=zWk k
   rw[zg i,List.all_cons]at g;have a3:=hq _ (qt i);generalize I:ts.sT[k]=f at *
   unfold prB at g;simp[go_sem,l,e5,i,I];refine aA f.params.length (fun j U=>U.tm 1 = .ip (cTS ts)/\U.tm 5=aI k/\U.tm 6=aI j/\((f.params.drop j).all (fun q=>srt1 ts.sS.length q.2)&&(ts.sT.drop (k+1)).all (prB ts.sS.length))=R) ?_ ?_
   .exact ⟨zS1 l,zS1 e5,zSi,g⟩
   clear l e5 g;rintro j U hj ⟨l,e5,e6,g⟩;by_cases o:j<f.params.length
   .have w2:=zWk j
    rw[zg o,List.all_cons,Bool.and_assoc]at g;generalize hx:f.params[j]=x at *
    obtain⟨xn,xs⟩:=x;simp only at g;simp[go_sem,l,e5,e6,i,I,o];refine fG [0,1,2,3,4,5,6,7,8,9,10,11,12,13,14,15,16,17,18,19,20,21,22,23,24,25,26] [(0,0,[]),(1,0,[]),(2,0,[]),(3,0,[]),(4,0,[]),(5,0,[]),(6,0,[]),(7,0,[]),(8,0,[]),(9,0,[]),(10,0,[]),(11,0,[]),(12,0,[]),(13,0,[]),(14,0,[]),(15,0,[]),(16,0,[]),(17,0,[]),(18,0,[]),(19,0,[]),(20,0,[]),(21,0,[]),(22,0,[]),(23,0,[]),(24,0,[]),(25,0,[]),(26,0,[])] zKr zKr zSi ?_;by_cases x0:0<=xs
    .have C:¬xs<0:=by omega
     by_cases xl:xs<ts.sS.length
     .have J:¬(ts.sS.length:Int)<=xs:=by omega
      have t:srt1 ts.sS.length xs=true:=by unfold srt1;simp[x0,xl]
      rw[t,Bool.true_and]at g;simp[go_sem,l,e5,e6,i,I,o,hx,C,J,w2]
      try refine⟨o,aC ?_⟩
      exact⟨zS1 l,zS1 e5,zSi,g⟩
     .have J:(ts.sS.length:Int)<=xs:=by omega
      have t:srt1 ts.sS.length xs=false:=by unfold srt1;simp[xl]
      rw[t,Bool.false_and]at g;subst g;simp[go_sem,l,e5,e6,i,I,o,hx,C,J];exact .zsc _
    .have C:xs<0:=by omega
     have t:srt1 ts.sS.length xs=false:=by unfold srt1;simp[x0]
     rw[t,Bool.false_and]at g;subst g;simp[go_sem,l,e5,e6,i,I,o,hx,C];exact .zsc _
   .have P:j=f.params.length:=by omega
    subst P;rw[zU]at g;replace g:(true&&(ts.sT.drop (k+1)).all (prB ts.sS.length))=R:=g;rw[Bool.true_and]at g;simp[go_sem,l,e5,e6,i,I,w1]
    try refine⟨i,aC ?_⟩
    exact⟨zS1 l,zSi,g⟩
  .have P:k=ts.sT.length:=by omega
   subst P;rw[zU]at g;replace g:true=R:=g;subst g;simp[go_sem,l,e5];exact .zsc _
def prT(p:Pd):Bool:=vp p.body&&decide (p.params.length<=4)
structure wF (ts:TS) (sc:Sc) (bs:List Bd) (n:Nd):Prop where
 so:ts.sS.length<=4
 fl:ts.sA.length<=4
 pr:ts.sT.length<=4
 fa:ts.sP.length<=4
 at4:sc.sC.length<=4
 bl:bs.length<=4
 tn:vp n=true
 tp:∀ p,p∈ts.sT->prT p=true
 tf:∀ f,f∈ts.sP->vp f.2=true
 sh:shpB ts=true
def Vv(ts:TS)(sc:Sc)(bs:List Bd)(n:Nd)(D:List Dg)(g v:Bool)(wk:Int)(lt:Bool):Bool:=
 decide (ts.sS.length<=4)&&(decide (ts.sA.length<=4)&&(decide (ts.sT.length<=4)&&(decide (ts.sP.length<=4)&&(decide (sc.sC.length<=4)&&(decide (bs.length<=4)&&(vp n&&(ts.sT.all prT&&((ts.sP.all fun f=>vp f.2)&&(shpB ts&&(decide (D.length=0)&&(g&&(decide (sumI sc.sC<=5)&&(bs.all sz1&&(v&&(decide (wk<=2000)&&lt)))))))))))))))
theorem qrL(ts sc bs n D o v wk lt)
  (hD:wF ts sc bs n->qg qc 30 [eTS ts] (lDg D))
  (hS:wF ts sc bs n->qg qc 31 [eTS ts,eSc sc] (aB o))
  (hA:o=true->qg qc 32 [eSc sc] (aI (sumI sc.sC)))
  (hV:wF ts sc bs n->D=[]->o=true->sumI sc.sC<=5->bs.all sz1=true->qg qc 34 [eTS ts,eSc sc,lBd bs] (aB v))
  (hW:wF ts sc bs n->qg qc 35 [eNd n,aI 5,aI 4] (aI wk))
  (hL:wF ts sc bs n->D=[]->qg qc 36 [eTS ts,aI 5,aI 4,eNd n] (aB lt)) :
  qg qc 7 [eTS ts,eSc sc,lBd bs,eNd n] (aB (Vv ts sc bs n D o v wk lt)):=by
 generalize g:Vv ts sc bs n D o v wk lt=R;unfold Vv at g;refine qSV call7 func7 rfl ?_;by_cases ms:ts.sS.length<=4
 case neg =>
  have ls:(4:Int)<ts.sS.length:=zOm;rw[decide_eq_false ms]at g;simp at g;subst g;simp[go_sem,ls];exact .zsc _
 have ls:¬(4:Int)<ts.sS.length:=zOm;rw[decide_eq_true ms]at g;by_cases mf:ts.sA.length<=4
 case neg =>
  have lf:(4:Int)<ts.sA.length:=zOm;rw[decide_eq_false mf]at g;simp at g;subst g;simp[go_sem,ls,lf];exact .zsc _
 have lf:¬(4:Int)<ts.sA.length:=zOm;rw[decide_eq_true mf]at g;by_cases mp:ts.sT.length<=4
 case neg =>
  have lp:(4:Int)<ts.sT.length:=zOm;rw[decide_eq_false mp]at g;simp at g;subst g;simp[go_sem,ls,lf,lp];exact .zsc _
 have lp:¬(4:Int)<ts.sT.length:=zOm;rw[decide_eq_true mp]at g;by_cases ma:ts.sP.length<=4
 case neg =>
  have la:(4:Int)<ts.sP.length:=zOm;rw[decide_eq_false ma]at g;simp at g;subst g;simp[go_sem,ls,lf,lp,la];exact .zsc _
 have la:¬(4:Int)<ts.sP.length:=zOm;rw[decide_eq_true ma]at g;by_cases mc:sc.sC.length<=4
 case neg =>
  have lc:(4:Int)<sc.sC.length:=zOm;rw[decide_eq_false mc]at g;simp at g;subst g;simp[go_sem,ls,lf,lp,la,lc];exact .zsc _
 have lc:¬(4:Int)<sc.sC.length:=zOm;rw[decide_eq_true mc]at g;by_cases mb:bs.length<=4
 case neg =>
  have lb:(4:Int)<bs.length:=zOm;rw[decide_eq_false mb]at g;simp at g;subst g;simp[go_sem,ls,lf,lp,la,lc,lb];exact .zsc _
 have lb:¬(4:Int)<bs.length:=zOm;rw[decide_eq_true mb]at g;simp only[Bool.true_and]at g;simp[go_sem,ls,lf,lp,la,lc,lb];refine tU (pg n) (.zk (qE n) .nil) ?_;cases ht:vp n with
 |false =>
  rw[ht]at g;replace g:false=R:=g;subst g;simp[go_sem];exact .zsc _
 |true =>
 rw[ht,Bool.true_and]at g;simp[go_sem];refine aA ts.sT.length (fun k U=>U.tm 2=lBd bs/\U.tm 4 = .ip (cTS ts)/\U.tm 5 = .ip [lI sc.sC,aI sc.sN]/\U.tm 7 = .ip (cNd n)/\U.tm 9=aI k/\(∀ p,p∈ts.sT.take k->prT p=true)) ?_ ?_
 .exact ⟨zSi,zSi,zSi,zSi,zSi,zSp⟩
 rintro k U hk ⟨e2,l,e5,e7,e9,j⟩;by_cases i:k<ts.sT.length
 .have w1:=zWk k
  have a0:ts.sT.take (k+1)=ts.sT.take k++[ts.sT[k]]:=uL i;have C:=qt i;generalize hp:ts.sT[k]=I at *
  have t:prT I=false->R=false:=fun h=>by
   rw[<-g];have:ts.sT.all prT=false:=List.all_eq_false.2 ⟨I,C,zP1 h⟩;rw[this];rfl
  simp[go_sem,l,e9,i,hp];refine tU (pg I.body) (.zk (qE I.body) .nil) ?_;cases hb:vp I.body with
  |false =>
   rw[t (by unfold prT;rw[hb];rfl)];simp[go_sem];exact .zsc _
  |true =>
   by_cases c:I.params.length<=4
   .have c':¬(4:Int)<I.params.length:=by omega
    have hy:prT I=true:=by unfold prT;rw[hb,decide_eq_true c];rfl
    simp[go_sem,l,e9,i,hp,c',w1]
    try refine⟨i,aC ?_⟩
    refine⟨zS1 e2,zS1 l,zS1 e5,by simp[go_sem,e7],zSi,fun p J=>?_⟩;rw[a0]at J;rcases qO.1 J with h|h
    .exact j p h
    .rw [qS]at h;subst h;exact hy
   .have c':(4:Int)<I.params.length:=by omega
    rw[t (by unfold prT;rw[decide_eq_false c];simp)];simp[go_sem,l,e9,i,hp,c'];exact .zsc _
 have a1:k=ts.sT.length:=zOm;subst a1;rw[zi]at j;rw[q8.2 j,Bool.true_and]at g;simp[go_sem,l,e9];refine aA ts.sP.length (fun k U=>U.tm 2=lBd bs/\U.tm 4 = .ip (cTS ts)/\U.tm 5 = .ip [lI sc.sC,aI sc.sN]/\U.tm 7 = .ip (cNd n)/\U.tm 10=aI k/\(∀ p,p∈ts.sP.take k->vp p.2=true)) ?_ ?_
 .exact ⟨zS1 e2,zS1 l,zS1 e5,by simp[go_sem,e7],zSi,zSp⟩
 clear e2 l e5 e7 e9;rintro k U hk ⟨e2,l,e5,e7,a2,T⟩;by_cases i:k<ts.sP.length
 .have w1:=zWk k
  have a0:ts.sP.take (k+1)=ts.sP.take k++[ts.sP[k]]:=uL i;have C:=qt i;generalize hp:ts.sP[k]=I at *
  obtain⟨fn,fb⟩:=I;simp[go_sem,l,a2,i,hp];refine tU (pg fb) (.zk (qE fb) .nil) ?_;cases hb:vp fb with
  |false =>
   have t:R=false:=by
    rw[<-g];have:(ts.sP.all fun f=>vp f.2)=false:=List.all_eq_false.2 ⟨(fn,fb),C,zP1 hb⟩;rw[this];rfl
   rw[t];simp[go_sem];exact .zsc _
  |true =>
   simp[go_sem,l,a2,w1]
   try refine⟨i,aC ?_⟩
   refine⟨zS1 e2,zS1 l,zS1 e5,by simp[go_sem,e7],zSi,fun p J=>?_⟩;rw[a0]at J;rcases qO.1 J with h|h
   .exact T p h
   .rw [qS]at h;subst h;exact hb
 have a1:k=ts.sP.length:=zOm;subst a1;rw[zi]at T;rw[q8.2 T,Bool.true_and]at g;simp[go_sem,l,a2];refine tU (qrK ts zOm zOm (fun p hp=>by have:=j p hp;unfold prT at this;simp at this;omega) zOm) (.zk (zw ts) .nil) ?_;cases a3:shpB ts with
 |false =>
  rw[a3]at g;replace g:false=R:=g;subst g;simp[go_sem];exact .zsc _
 |true =>
 rw[a3,Bool.true_and]at g;have P:wF ts sc bs n:=⟨ms,mf,mp,ma,mc,mb,ht,j,T,a3⟩;simp[go_sem,l];refine tU (hD P) (.zk (zw ts) .nil) ?_;cases D with
 |cons d D' =>
  have t:R=false:=by
   rw[<-g];rfl
  have a4:¬(D'.length:Int)+1=0:=zOm;rw[t];simp[go_sem,a4];exact .zsc _
 |nil =>
 replace g:(o&&(decide (sumI sc.sC<=5)&&(bs.all sz1&&(v&&(decide (wk<=2000)&&lt)))))=R:=g;simp[go_sem,l,e5];refine tU (hS P) (.zk (zw ts) (.zk (zD _) .nil)) ?_;cases o with
 |false =>
  replace g:false=R:=g;subst g;simp[go_sem];exact .zsc _
 |true =>
 rw[Bool.true_and]at g;simp[go_sem,e5];refine tU (hA rfl) (.zk (zD _) .nil) ?_;by_cases c5:sumI sc.sC<=5
 case neg =>
  rw[decide_eq_false c5]at g;replace g:false=R:=g;subst g;simp[go_sem,c5];exact .zsc _
 rw[decide_eq_true c5,Bool.true_and]at g;simp[go_sem,c5,e2];refine tU (qrJ bs zOm) (.zk (jd _) .nil) ?_;cases hz:bs.all sz1 with
 |false =>
  rw[hz]at g;replace g:false=R:=g;subst g;simp[go_sem];exact .zsc _
 |true =>
 rw[hz,Bool.true_and]at g;simp[go_sem,e2,l,e5];refine tU (hV P rfl rfl c5 hz) (.zk (zw ts) (.zk (zD _) (.zk (jd _) .nil))) ?_;cases v with
 |false =>
  replace g:false=R:=g;subst g;simp[go_sem];exact .zsc _
 |true =>
 rw[Bool.true_and]at g;simp[go_sem,e7];refine tU (hW P) (.zk (qE n) (.zs (.zs .nil))) ?_;by_cases cw:wk<=2000
 case neg =>
  rw[decide_eq_false cw]at g;replace g:false=R:=g;subst g;simp[go_sem,cw];exact .zsc _
 rw[decide_eq_true cw,Bool.true_and]at g;subst g;simp[go_sem,cw,l,e7];refine fR (hL P rfl) (.zk (zw ts) (.zs (.zs (.zk (qE n) .nil)))) ?_;exact .zsc _
end OJ
namespace O8
open Y1 EO F4 GF
theorem tK{P mu}{t g e sz bt b:Nat}{x cells ys zv K}(I:qH P t=some (e,sz,bt))(j:(qH P g).isSome=true)(J:qC P e=some zv)
  (l:zv.cells.length=sz) (o:zv.cells.all AV.one=true) (p:sz≠0) (R:bt<=16384) (T:mu[b]?=some (.arr cells)) (U:qA mu x=some ys) (wy:qW sz ys) (hl:ys.length<=4294967296)
  (k:∀ av mu',Own mu' sz av ys->(∀ i,i<mu.length->i≠b->mu'[i]?=mu[i]?)->(∀ b,qu av=some b->b=mu.length)->mu.length<=mu'.length->K av mu'):qw P mu #[t,g] (.sl b sz 0 0) x K:=by
 refine .inl ?_;refine⟨t,g,e,sz,bt,ys,rfl,I,j,⟨zv,J,l,o⟩,p,R,U,wy,?_⟩;refine .inr ⟨b,0,cells,rfl,T,zOm,zOm,?_⟩;refine k _ _ (.inr ⟨mu.length,zSp,?_⟩) (fun i hi C=>?_) (fun b h=>by cases h;rfl) zSp
 .rw [List.getElem?_append_right zSp];simp
 .rw [qG (zUs hi)]
  rw[zH (fun e=>C (by rw[e]))]
def OwnZ(mu:Mu)(sz:Nat)(av:AV):Prop:=av = .lst true []\/∃ b c,av = .sl b sz 0 0/\mu[b]?=some (.arr c)
theorem growN(mu)(n:Nat)(I:n<=1000000):qv qc 110 [.lst true [],aI n] mu fun e m=>∃ av,e = .ret av/\OwnZ m 5 av/\(∀ i,i<mu.length->m[i]?=mu[i]?)/\mu.length<=m.length/\∀ b,qu av=some b->mu.length<=b:=by
 refine qSW call110 func110 rfl {} ?_;have l:ql.wrap 0=0:=zWr;have p:ql.wrap (n:Int)=n:=zWr;have g:¬(n:Int)<0:=zOm;by_cases t:n=0
 .subst t
  simp[go_sem,l];exact⟨.inl rfl,by simp[qu]⟩
 .have o:0<n:=by omega
  simp[go_sem,l,p,g,o];refine⟨⟨_,_,⟨rfl,rfl⟩,fun r j=>by simp at j⟩,?_⟩;refine .inr (.inr ⟨_,_,34,5,64,.agg [aI 0,aS ⟨#[]⟩,aI 0,.lst true [],aI 0],n,[],rfl,zSi,zSi,zSi,rfl,rfl,zOm,zOm,rfl,o,rfl,fun r j=>by simp at j,zSo,?_⟩);simp[go_sem];refine⟨.inr ⟨mu.length,_,rfl,by simp;rfl⟩,fun i C=>by rw[qG C],by simp[qu]⟩
theorem qrM(mu a b)(ha:a.length<=100000)(hb:b.length<=100000):qv qc 45 [.lst true [[lNd a],[lNd b]]] mu fun e m=>∃ av,e = .ret av/\Own m 5 av ((a++b).map cNd):=by
 refine qSW call45 func45 rfl {} ?_;have v1:ql.wrap 1=1:=zWr;have v2:ql.wrap 2=2:=zWr;have J:=Yh a;have wb:=Yh b;simp[go_sem];have n0:¬((a.length:Int)+b.length)<0:=zOm;refine qk.up 2 (fun k U=>U.tm 0 = .lst true [[lNd a],[lNd b]]/\U.tm 3=aI ((if 0<k then (a.length:Int) else 0)+(if 1<k then (b.length:Int) else 0))/\U.tm 9 = .lst true [[lNd a],[lNd b]]/\U.tm 10=aI 2/\U.tm 11=aI k/\U.mu=mu) ?_ ?_
 .simp [go_sem]
 rintro k U hk ⟨e0,e3,e9,P,R,hm⟩;by_cases T:k<2
 .have:k=0\/k=1:=by omega
  rcases this with rfl|rfl
  .have w1:ql.wrap (a.length:Int)=a.length:=zWr
   have n1:¬(a.length:Int)<0:=zOm;simp[go_sem, *]
  .have w1:ql.wrap ((a.length:Int)+b.length)=a.length+b.length:=zWr
   simp[go_sem, *]
 .have:k=2:=by omega
  subst this;have g:=growN mu (a.length+b.length) zOm;simp[go_sem,e3,P,R,hm];refine fZ (zUs g) ?_ ?_
  .rintro r m ⟨av,h,j,hs,hl,a1⟩
   cases h;simp[go_sem,e0];refine qk.up 2 (fun k U=>U.tm 25 = .lst true [[lNd a],[lNd b]]/\U.tm 26=aI 2/\U.tm 27=aI k/\(if k=0 then OwnZ U.mu 5 (U.tm 6) else Own U.mu 5 (U.tm 6) ((if k=1 then a else a++b).map cNd))) ?_ ?_
   .simp_all [go_sem]
   rintro k a2 hk ⟨f25,f26,f27,j⟩;by_cases T:k<2
   .have:k=0\/k=1:=by omega
    rcases this with rfl|rfl
    .rw [if_pos rfl]at j
     rcases j with h6|⟨b6,c6,h6,a0⟩
     .simp [go_sem,f25,f26,f27,h6]
      refine qw.own (sz:=5) (e:=34) (bt:=64) (zv := .agg [aI 0,aS ⟨#[]⟩,aI 0,.lst true [],aI 0]) (xs:=[]) (ys:=a.map cNd) zSi zSi zSi rfl rfl zOm zOm (.inl rfl) (by simp[qA]) (fun r hr=>by simp at hr) J zSo ?_;intro t o i C I;simp at i;simp[go_sem,f25,f26,f27,v1];exact i
     .simp [go_sem,f25,f26,f27,h6]
      refine tK (e:=34) (bt:=64) (zv := .agg [aI 0,aS ⟨#[]⟩,aI 0,.lst true [],aI 0]) (ys:=a.map cNd) zSi zSi zSi rfl rfl zOm zOm a0 (by simp[qA]) J zSo ?_;intro t o i C I a3;simp[go_sem,f25,f26,f27,v1];exact i
    .rw [zIn,if_pos rfl]at j
     simp[go_sem,f25,f26,f27];refine qw.own (sz:=5) (e:=34) (bt:=64) (zv := .agg [aI 0,aS ⟨#[]⟩,aI 0,.lst true [],aI 0]) (xs:=a.map cNd) (ys:=b.map cNd) zSi zSi zSi rfl rfl zOm zOm j (by simp[qA]) J wb zSo ?_;intro t o i C I;simp[go_sem,f25,f26,f27,v2];exact i
   .have:k=2:=by omega
    simp_all[go_sem]
  grind
end O8
set_option maxHeartbeats 1000000
namespace OD
open Y1 Y9 P2 EO F4 GF GR KA O8
theorem Wg{n a b}(g:n.op=41)(j:n.sD=[a,b]):conj n=conj a++conj b:=by
 obtain⟨op,nm,i,ks,p⟩:=n;cases j;rw[conj,uG,uG,uG];exact if_pos g
theorem ph{n a}(g:n.op=48)(j:n.sD=[a]):conj n=(conj a).map (vf n.pos):=by
 obtain⟨op,nm,i,ks,p⟩:=n;cases j;have h:¬op=41:=by intro h;rw[h]at g;cases g
 rw[conj,uG,uG];rw[if_neg h];exact if_pos g
theorem pi{n}(g:¬n.op=41)(j:¬n.op=48):conj n=[n]:=by
 obtain⟨op,nm,i,ks,p⟩:=n;rw[conj];exact(if_neg g).trans (if_neg j)
theorem shp2{n}(h:WfN n)(j:n.op=41):∃ a b,n.sD=[a,b]:=by
 have g:(n.sD.map fun k=>kd k.op)=[102,102]:=by
  have g:=h.shape;unfold shp at g
  grind
 have i:=congrArg List.length g
 match l:n.sD,i with
 | [a,b],_=>exact⟨a,b,rfl⟩
theorem shp1{n}(h:WfN n)(j:n.op=48):∃ a,n.sD=[a]:=by
 have g:(n.sD.map fun k=>kd k.op)=[102]:=by
  have g:=h.shape;unfold shp at g
  grind
 have i:=congrArg List.length g
 match l:n.sD,i with
 | [a],_=>exact⟨a,rfl⟩
def cW(pos:Int)(k:Nd):List AV:=if k.op=48 then cNd k else [aI 48,aS ⟨#[]⟩,aI 0,.lst true [cNd k],aI pos]
theorem qe6{mu}:∀{l},(∀ c,c∈l->HF c)->Rds mu l l
 | [],_=>trivial
 |c :: l,h=>⟨.hf _ (h c zSp),qe6 fun x g=>h x (zP1 g)⟩
theorem cW_rd(mu pos k):Rds mu (cW pos k) (cNd (vf pos k)):=by
 unfold cW vf;split
 .rename_i h
  exact qe6 (y8 k)
 .exact ⟨.hf _ (HF.sc _),.hf _ (HF.sc _),.hf _ (HF.sc _),.wk _ true _ (.hf _ (HF.lst fun r g=>by rw[qS]at g;subst g;exact y8 k)),.hf _ (HF.sc _),trivial⟩
theorem Wu(pos)(xs:List Nd):qW 5 (xs.map (cW pos)):=fun r g=>by
 obtain⟨n,_,rfl⟩:=qn.1 g;unfold cW;split
 .cases n;exact⟨rfl,rfl⟩
 .exact ⟨rfl,rfl⟩
theorem qrN(pos)(xs:List Nd):qW 5 (xs.map fun x=>cNd (vf pos x)):=fun r g=>by
 obtain⟨n,_,rfl⟩:=qn.1 g;cases vf pos n;exact⟨rfl,rfl⟩
theorem Vw:∀ m n,szN n<=m->WfN n->(conj n).length<=100000->qg qc 13 [eNd n] (lNd (conj n))
 | 0,n,hm,_,_=>by obtain⟨op,nm,i,ks,q⟩:=n;simp[szN]at hm
 |m+1,n,hm,hw,hl=>by
  refine qSV call13 func13 rfl ?_;by_cases o1:n.op=41
  .obtain ⟨a,b,j⟩:=shp2 hw o1
   rw[Wg o1 j]at hl⊢;have ha:=zf (n:=n) (k:=a) (by rw[j];simp);have hb:=zf (n:=n) (k:=b) (by rw[j];simp);rw[zh]at hl;have ca:=Vw m a zOm (hw.kid (by rw[j];simp)) zOm;have cb:=Vw m b zOm (hw.kid (by rw[j];simp)) zOm;simp[go_sem,o1,j];refine fG [0,1,2,3,5,6,7,8,4,9,10,11,12] [(0,0,[]),(1,0,[]),(2,0,[]),(3,0,[]),(5,0,[]),(6,0,[]),(7,0,[]),(8,0,[]),(4,1,[6,8]),(9,1,[]),(10,0,[]),(11,1,[]),(12,0,[])] zKr zKr zSi ?_;simp[go_sem,j];refine tU ca (.zk (qE a) .nil) ?_;simp[go_sem,j];refine fR cb (.zk (qE b) .nil) ?_;refine fZ (qrM _ (conj a) (conj b) zOm zOm) ?_ ?_
   .rintro r m' ⟨t,h,ho⟩
    cases h;simp[go_sem];exact Own.rd ho (Yh _).ok fun r hr c hc=>by
     obtain⟨x,_,rfl⟩:=qn.1 hr;exact y8 x c hc
   .rintro r m' ⟨t,h,ho⟩
    cases h
  by_cases o2:n.op=48
  .obtain ⟨a,j⟩:=shp1 hw o2
   rw[ph o2 j]at hl⊢;have ha:=zf (n:=n) (k:=a) (by rw[j];simp);rw[yu]at hl;have ca:=Vw m a zOm (hw.kid (by rw[j];simp)) hl;simp[go_sem,o1,o2,j];refine fR ca (.zk (qE a) .nil) ?_;refine qk.up (conj a).length (fun k U=>U.tm 1 = .ip (cNd n)/\U.tm 28=lNd (conj a)/\U.tm 29=aI (conj a).length/\U.tm 30=aI k/\Own U.mu 5 (U.tm 3) (((conj a).take k).map (cW n.pos))) ?_ ?_
   .simp [go_sem]
    exact .inl rfl
   rintro k U a6 ⟨e1,C,I,J,ho⟩;by_cases P:k<(conj a).length
   .have w1:=zWk k
    generalize hx:(conj a)[k]=x;have a1:(conj a).take (k+1)=(conj a).take k++[x]:=by rw[uL P,hx]
    have wf:qW 5 (((conj a).take k).map (cW n.pos)):=Wu _ _;have a2:∀ c,Own (U.mu++[c]) 5 (U.tm 3) (((conj a).take k).map (cW n.pos)):=fun c=>by
     rcases ho with h|⟨b,h1,h2⟩
     .exact .inl h
     .exact .inr ⟨b,h1,by rw[qG (qh.1 h2).1];exact h2⟩
    have a7:(((conj a).take k).map (cW n.pos)).length<=100000:=zSo;by_cases ox:x.op=48
    .have a0:cW n.pos x=cNd x:=by unfold cW;rw[if_pos ox]
     have R:=Wu n.pos [x];simp[go_sem,e1,C,I,J,P,hx,ox];refine qw.own (sz:=5) (e:=34) (bt:=64) (zv := .agg [aI 0,aS ⟨#[]⟩,aI 0,.lst true [],aI 0]) (xs:=((conj a).take k).map (cW n.pos)) (ys:=[x].map (cW n.pos)) zSi zSi zSi rfl rfl zOm zOm (a2 _) (by simp[qA,a0]) wf R zSo ?_;intro a3 o T a4 a5;rw[<-zx,<-a1]at T;simp[go_sem,e1,C,I,J,w1];exact⟨P,by simpa[List.map_take] using T⟩
    .have a0:cW n.pos x=[aI 48,aS ⟨#[]⟩,aI 0,.lst true [cNd x],aI n.pos]:=by unfold cW;rw[if_neg ox]
     have R:=Wu n.pos [x];simp[go_sem,e1,C,I,J,P,hx,ox];refine qw.own (sz:=5) (e:=34) (bt:=64) (zv := .agg [aI 0,aS ⟨#[]⟩,aI 0,.lst true [],aI 0]) (xs:=((conj a).take k).map (cW n.pos)) (ys:=[x].map (cW n.pos)) zSi zSi zSi rfl rfl zOm zOm (a2 _) (by simp[qA,a0]) wf R zSo ?_;intro a3 o T a4 a5;rw[<-zx,<-a1]at T;simp[go_sem,e1,C,I,J,w1];exact⟨P,by simpa[List.map_take] using T⟩
   .have:k=(conj a).length:=by omega
    subst this;rw[zi]at ho;simp[go_sem,e1,C,I,J];have hm:=cD (g:=fun x=>cNd (vf n.pos x)) ho (Wu n.pos (conj a)).ok (qrN n.pos (conj a)).ok (fun x _=>cW_rd U.mu n.pos x);rw[show (conj a).map (fun x=>cNd (vf n.pos x))=((conj a).map (vf n.pos)).map cNd by rw[List.map_map];rfl]at hm;exact hm
  .rw [pi o1 o2]at hl⊢
   simp[go_sem,o1,o2];exact .wk _ true _ (.hf _ (HF.lst fun r hr=>by rw[qS]at hr;subst hr;exact y8 n))
end OD
namespace O0
open P1 YF E4 GF
section
variable {bv:AV}{args:List AV}{bs:List Bd}{mu mu':Mu}{p:Nat}{P:qb}
def yr(P:qb)(f:zZ)(args:List AV)(mu:Mu)(r:AV):Prop:=qv P f args mu fun e o=>e = .ret r/\MuLe mu o
theorem qrO{lo}(h:MuLe mu mu')(j:mu.length<=lo):MuLe mu (cutM (fun i=>!decide (lo<=i)) mu' 0):=by
 intro b c g;have l:b<mu.length:=(qh.1 g).1;rw[j5,h b c g];simp;omega
theorem yr.of{f r}(h:qv P f args mu fun e mu'=>∃ x,e = .ret x/\MuLe mu mu'/\Rd (cutM (fun i=>decide (mu.length<=i)) mu' 0) x r):yr P f args mu r:=by
 refine⟨h.1,fun G w o s p=>(h.2 G w o s p).mono fun e J ⟨R,mu',U,t⟩=>?_⟩;rcases t with ⟨x,v,⟨C,g,j,l⟩,rfl,I⟩|⟨x,v,⟨C,g,_⟩,_⟩
 .cases g
  exact⟨_,_,U.trans s (wM U.sim _),.inl ⟨r,v,⟨rfl,qrO j (qj _)⟩,rfl,VO U.sim _ l I⟩⟩
 .exact absurd g zSp
theorem qe.mem{g caps r K i}(j:yr P g (args++caps) mu r)(k:∀ mu',MuLe mu mu'->K r mu'):qe P false mu (.fn (.func g) [] caps) args K i:=
 fY j (fun r m h=>by obtain⟨e,h⟩:=h;cases e;exact k m h) (fun r m h=>absurd h.1 zSp)
theorem tA{f args' v}(mu)(h:qg P f args' v)(p:WKs args args'):yr P f args mu v:=by
 have i:=qg.toSound mu h p;refine⟨i.1,fun G w t s C=>(i.2 G w t s C).mono fun e R ⟨I,o,U,J⟩=>⟨I,o,U,?_⟩⟩;rcases J with ⟨x,u,⟨g,j⟩,l⟩|⟨x,u,⟨g,j⟩,l⟩
 .exact .inl ⟨x,u,⟨g,by rw[j];exact MuLe.refl _⟩,l⟩
 .exact absurd g zSp
theorem MuLe.app(h:MuLe mu mu')(c:List Cell):MuLe mu (mu'++c):=fun b x g=>by
 have:=h b x g;rw[qG (qh.1 this).1];exact this
theorem MuLe.len(h:MuLe mu mu'):mu.length<=mu'.length:=by
 cases i:mu.length with
 |zero=>omega
 |succ n =>
  have g:mu[n]?=some mu[n]:=qB zOm;have:=(qh.1 (h n _ g)).1;omega
def Zn(P:qb)(mu:Mu)(l:AV){J:Type}(enc:J->AV)(ok:J->Prop)(g:J->AV):Prop:=
 ∃ j i,l = .fn (.func j) [] i/\∀ x,ok x->∀ o,MuLe mu o->yr P j ([enc x]++i) o (g x)
theorem Zn.call{i J enc ok g}(h:Zn P mu i enc ok g){x:J}(l:ok x)(o:MuLe mu mu'){K p}(k:∀ m,MuLe mu' m->K (g x) m):qe P false mu' i [enc x] K p:=by
 obtain⟨t,j,rfl,h⟩:=h;exact qe.mem (h x l mu' o) k
def Qi(P:qb)(mu:Mu)(l:AV){J:Type}(enc:J->AV)(ok:J->J->Prop)(g:J->J->AV):Prop:=
 ∃ j i,l = .fn (.func j) [] i/\∀ x y,ok x y->∀ o,MuLe mu o->yr P j ([enc x,enc y]++i) o (g x y)
theorem Qi.call{i J enc ok g}(h:Qi P mu i enc ok g){x y:J}(l:ok x y)(o:MuLe mu mu'){K p}(k:∀ m,MuLe mu' m->K (g x y) m):qe P false mu' i [enc x,enc y] K p:=by
 obtain⟨t,j,rfl,h⟩:=h;exact qe.mem (h x y l mu' o) k
theorem MuLe.setN(h:MuLe mu mu'){i}(l:mu.length<=i)(c):MuLe mu (mu'.set i c):=fun b x g=>by
 have j:=(qh.1 g).1;rw[zGl];exact h b x g
abbrev cNs(ts:TS)(sc:Sc)(bv:AV)(n:Int)(g:Bool):List AV:=cTS ts++[lI sc.sC,aI sc.sN,bv,aI n,aB g]
def BvR(mu:Mu)(bv:AV)(bs:List Bd):Prop:=bv=lBd bs\/Own mu 4 bv (bs.map cBd)
theorem BvR.le(h:BvR mu bv bs)(g:MuLe mu mu'):BvR mu' bv bs:=by
 rcases h with rfl|rfl|⟨b,rfl,i⟩
 .exact .inl rfl
 .exact .inr (.inl rfl)
 .exact .inr (.inr ⟨b,rfl,g _ _ i⟩)
structure NsR (mu:Mu) (p:Nat) (ts:TS) (sc:Sc) (bs:List Bd) (ch:Bool) (bv:AV):Prop where
 st:mu[p]?=some (.arr (cNs ts sc bv (sumI sc.sC) ch))
 bv:BvR mu bv bs
theorem NsR.le{ts sc g}(h:NsR mu p ts sc bs g bv)(i:MuLe mu mu'):NsR mu' p ts sc bs g bv:=⟨i _ _ h.st,h.bv.le i⟩
theorem zA{c}(h:mu[p]?=some c)(l:List Cell):(mu++l)[p]?=some c:=by
 rw[qG (qh.1 h).1];exact h
theorem Qj(xs:List Bd):qW 4 (xs.map cBd):=fun r g=>by
 obtain⟨n,_,rfl⟩:=qn.1 g;exact⟨rfl,rfl⟩
theorem BvR.rd(h:BvR mu bv bs):Rd mu bv (lBd bs):=by
 rcases h with rfl|h
 .exact .hf _ (jd bs)
 .exact Own.rd h (Qj bs).ok fun r g c i=>by
   obtain⟨b,_,rfl⟩:=qn.1 g;exact UI b c i
theorem NsR.rd{ts sc l}(h:NsR mu p ts sc bs l bv):Rd mu (.ptr p 0) (.ip (cNs ts sc (lBd bs) (sumI sc.sC) l)):=by
 refine .ptr p 0 _ _ h.st zSp fun k x y g i=>?_
 have j:=Uo ts
 match k with
 | 0=>simp at g i;subst g;subst i;exact .hf _ (j _ (by simp[cTS]))
 | 1=>simp at g i;subst g;subst i;exact .hf _ (j _ (by simp[cTS]))
 | 2=>simp at g i;subst g;subst i;exact .hf _ (j _ (by simp[cTS]))
 | 3=>simp at g i;subst g;subst i;exact .hf _ (j _ (by simp[cTS]))
 | 4=>simp at g i;subst g;subst i;exact .hf _ (zC _)
 | 5=>simp at g i;subst g;subst i;exact .zsc _
 | 6=>simp at g i;subst g;subst i;exact h.bv.rd
 | 7=>simp at g i;subst g;subst i;exact .zsc _
 | 8=>simp at g i;subst g;subst i;exact .zsc _
 |k+9=>simp at g
end
end O0
namespace O1
open E1 EO EW
def divN(n x:Int):Nat->Int
 | 0=>x
 |j+1=>divN n x j / n
theorem pj{n x m}(o:1<=n)(i:0<=x)(l:x<=m):∀ j,0<=divN n x j/\divN n x j<=m
 | 0=>⟨i,l⟩
 |j+1=>by
  have g:=pj o i l j;have d0:0<=divN n x j / n:=Int.ediv_nonneg g.1 zOm;have d1:divN n x j / n<=divN n x j:=Int.ediv_le_self n g.1;exact⟨d0,Int.le_trans d1 g.2⟩
def digN(n r:Int):Nat->List Int
 | 0=>[]
 |k+1=>divN n r k % n :: digN n r k
theorem pm(n r):∀ k,(digN n r k).length=k
 | 0=>rfl
 |k+1=>by simp[digN,pm n r k]
theorem u9(xs:List Int):(xs.map rI).flatten=xs.map aI:=by
 induction xs with
 |nil=>rfl
 |cons x xs g=>simp[g]
theorem pn(n r)(g:1<=n):∀ k,divN n r k=r / n ^ k
 | 0=>by simp[divN]
 |k+1=>by
  rw[divN,pn n r g k,Int.pow_succ,Int.ediv_ediv_of_nonneg];exact Int.pow_nonneg zOm
theorem qrP{n r}(g:1<=n){k}(i:0<=r)(h:r<n ^ k):divN n r k=0:=by
 rw[pn n r g,Int.ediv_eq_zero_of_lt i h]
theorem tC{lo b n mu}{xs:List Int}(j:lo<=b)(g:mu[b]?=some (.arr (xs.map aI)))(i:xs.length=n):OwnF lo mu 1 (.sl b 1 0 n) (xs.map rI):=by
 have p:b<mu.length:=(qh.1 g).1;refine⟨.inr ⟨b,zP1 i,by rw[g,u9]⟩,fun t s o l e=>?_,zOm⟩;injection e;omega
theorem qrQ(m z v)(l:List AV):(qM (m+1) z++l).set m v=qM m z++v :: l:=by
 induction m with
 |zero=>rfl
 |succ m g =>
  rw[List.replicate_succ,List.cons_append,List.set_cons_succ,g];rfl
theorem qrR(sc)(g:GSc sc)(J:1<=sumI sc.sC)(l:Nat)(P:l<=3)(r)(R:0<=r)(hr:r<sumI sc.sC ^ l):qg qc 163 [eSc sc,aI l,aI r] (lI (digN (sumI sc.sC) r l)):=by
 refine qSU call163 func163 rfl ?_;refine tU (UA l 0 3) (.zs (.zs (.zs .nil))) ?_;simp[go_sem,show (0:Int)<=l by omega,show (l:Int)<=3 by omega,show ¬r<0 by omega];refine tU (ZL sc g) (.zk (zD sc) .nil) ?_;have C:=g.sum sc.sC.length;rw[zi]at C;generalize hn:sumI sc.sC=n at *
 have a8:=Yl (n:=n) zOm zOm l P;have T:n≠0:=zOm;simp[go_sem,show (0:Int)<=l by omega,show (l:Int)<=4294967296 by omega];refine qk.up l (fun j U=>U.tm 7=aI n/\U.tm 8 = .sl 0 1 0 l/\U.tm 2=aI (divN n r j)/\U.tm 9=aI (l-1-j)/\U.mu=[.arr (qM (l-j) (aI 0)++(digN n r j).map aI)]) ?_ ?_
 .simp [go_sem,divN,digN]
  exact zWr
 rintro j U hj ⟨e7,e8,e2,e9,hm⟩;have hd:=pj (n:=n) (m:=8000) J R zOm j;by_cases a0:j<l
 .have a9:=pj (n:=n) (m:=8000) J R zOm (j+1)
  have hq:(divN n r j).tdiv n=divN n r (j+1):=by rw[divN,Int.tdiv_eq_ediv_of_nonneg hd.1]
  have a1:(divN n r j).tmod n=divN n r j % n:=Int.tmod_eq_emod_of_nonneg hd.1;have I:qM (l-j) (aI 0)=qM ((l-(j+1))+1) (aI 0):=by congr 1;omega
  have o:=qrQ (l-(j+1)) (aI 0) (aI (divN n r j % n)) ((digN n r j).map aI);rw[<-I]at o;have a7:(qM (l-j) (aI 0)++(digN n r j).map aI).length=l:=by simp[pm];omega
  have a2:ql.wrap ((l:Int)-1-j-1)=(l:Int)-1-(j+1:Nat):=by rw[zWr];omega
  have a3:ql.wrap (divN n r (j+1))=divN n r (j+1):=zWr;generalize aa:qM (l-j) (aI 0)++(digN n r j).map aI=cells at *
  have t:0<=(l:Int)-1-j:=zOm;have a4:(l:Int)-1-j<l:=zOm;have a5:((l:Int)-1-j).toNat=l-(j+1):=zOm;generalize (l:Int)-1-j=c at *
  simp[go_sem,e7,e8,e2,e9,hm,t,a4,a5,T,a1,hq,a3,show l-(j+1)+1<=cells.length by omega,o];refine⟨a0,?_,?_⟩
  .rw [a2];omega
  .rw [digN];rfl
 .have a6:j=l:=by omega
  subst a6;have hz:=qrP J R hr;have t:¬(0:Int)<=(j:Int)-1-j:=zOm;generalize (j:Int)-1-j=c at *
  rw[hz]at e2;simp[go_sem,e7,e8,e2,e9,hm,t];refine(tC (lo:=0) (xs:=digN n r j) (Nat.zero_le _) ?_ (pm n r j)).rdI;simp
end O1
namespace O2
open P1 E1 EO F4 GF KA O0 ET EQ
theorem Jg(r):qg qc 81 [eRel r] (eBd (exR r)):=by
 refine qSU call81 func81 rfl ?_;exact .hf _ (z8 (exR r))
theorem Wv(r e):qg qc 95 [eRel r,aI e] (eRel r):=by
 refine qSU call95 func95 rfl ?_;exact .hf _ (qx r)
theorem OwnV.rdN{mu av l}(h:OwnV mu av l):RdN mu av (lI l):=by
 rcases h with ⟨rfl,rfl⟩|⟨b,cells,rfl,j,t,o⟩
 .exact RdN.nil (.inr rfl)
 .refine RdN.sl j zOm zSp (je l).ok (fun k y g=>?_) (fun k u y i g=>?_)
  .rw [O1.u9]at g
   obtain⟨z,_,rfl⟩:=qn.1 (List.mem_of_getElem? g);exact FL.sc _
  .rw [O1.u9]at g
   rw[Nat.zero_add]at i;have p:k<l.length:=by have:=(qh.1 g).1;simpa using this
   rw[<-o,List.getElem?_take_of_lt p,i]at g;cases g;rfl
theorem tP{mu i av l}(h:OwnV mu av l):RdN mu (.agg [aI i,av]) (eRel ⟨i,l⟩):=by
 intro G p v s r;cases r with
 |agg _ j t o =>
  refine .agg _ j (zUs t) fun k x g=>?_
  match k with
  | 0 =>
   simp at g;subst g;have:=o 0 (aI i) rfl;generalize j.getD 0 uk=u at *
   cases this with
   |sc _ h=>exact .sc _ h
  | 1 =>
   simp at g;subst g;exact OwnV.rdN h G p _ s (o 1 av rfl)
  |k+2=>simp at g
theorem Qb{n:Int}(g:0<=n)(l:n<=12){j}(i:j<=3):0<=n ^ j/\n ^ j<=8000:=Yl g zOm j i
theorem allF(ts sc bs ch n)(h0:0<=n)(h1:n<=12)(k)(hk:0<=k)(h3:k<=3) :
  uT qc 82 [.ip (cNs ts sc (lBd bs) n ch),aI k] (eRel (KA.allN n k)):=by
 obtain⟨K,rfl⟩:=Int.eq_ofNat_of_zero_le hk;refine uT.of_sound ?_;refine qSW call82 func82 rfl {} ?_;simp[go_sem];refine aA K (fun j U=>U.tm 0 = .ip (cNs ts sc (lBd bs) n ch)/\U.tm 4 = .ptr 0 0/\U.tm 5 = .ptr 1 0/\U.tm 6=aI (n ^ j)/\U.tm 10=aI K/\U.tm 11=aI j/\U.mu=[.arr [aI 0,.lst true []],.arr [aI K,.lst true []]]) ?_ ?_
 .exact ⟨zSi,zSi,zSi,zSi,zSi,zSi,zSi⟩
 rintro j U hj ⟨e0,e4,p,e6,l,C,hm⟩;by_cases g:j<K
 .have w1:=zWk j
  have hp:=Qb h0 h1 (j:=j+1) zOm;have w2:ql.wrap (n ^ j*n)=n ^ (j+1):=by rw[show n ^ j*n=n ^ (j+1) from (Int.pow_succ n j).symm];exact zWr
  simp[go_sem,e0,e6,l,C,g,w1,w2]
  try refine⟨g,aC ?_⟩
  try refine aC ?_
  exact⟨zS1 e0,zS1 e4,zS1 p,zSi,zS1 l,zSi,zS1 hm⟩
 have I:j=K:=zOm;subst I;have hp:=Qb h0 h1 (j:=j) zOm;obtain⟨T,hT⟩:=Int.eq_ofNat_of_zero_le hp.1;rw[hT]at e6 hp;simp[go_sem,e6,l,C];refine aA T (fun i U=>U.tm 4 = .ptr 0 0/\U.tm 5 = .ptr 1 0/\U.tm 20=aI T/\U.tm 21=aI i/\RelM U.mu j ((qs i).map fun i:Nat=>(i:Int))) ?_ ?_
 .exact ⟨zS1 e4,zS1 p,zSi,zSi,.lst true [],zS1 hm,zS1 hm,.inl ⟨rfl,rfl⟩,by simp[qu],by simp[qu]⟩
 clear e0 e4 p e6 l C hm;rintro i U hi ⟨e4,p,J,P,t,g0,g1,ho,n0,n1⟩;by_cases g:i<T
 .have w1:=zWk i
  simp[go_sem,p,J,P,g,g1];refine aY (e:=3) (bt:=8) (z:=0) zSi zSi zSi zOm ho.v zSo ?_;intro a4 o R a1 a2 a3;obtain⟨k1,k2⟩:=RelM.step g0 g1 n0 n1 R a1 a2 a3;simp[go_sem,p,P,k1,R.v.one,R.v.cells,w1];refine⟨g,aC ⟨zS1 e4,zS1 p,zS1 J,zSi,?_⟩⟩;rw[List.range_succ,zx];simpa[go_sem] using k2
 .have I:i=T:=by omega
  subst I;have a0:∀ c,(U.mu.set 0 c)[0]?=some c:=fun c=>qz (qh.1 g0).1
  simp[go_sem,e4,p,J,P,g0,g1,a0,ho.v.one];have e:KA.allN n (j:Int)=⟨(j:Int),(qs i).map fun i:Nat=>(i:Int)⟩:=by
   unfold KA.allN;rw[Int.toNat_natCast,hT,Int.toNat_natCast]
  rw[e];refine tP (ho.v.same fun b hb=>?_);rw[zH (fun e=>n0 (by rw[e];exact hb))]
end O2
namespace O3
open P1 E1 E2 E4 EO EP EQ ET F4 F6 KA KC O0 O1 O2
theorem qrS(ts sc)(S:ScN ts sc)(a8:sumI sc.sC<=12)(bs ch n i)(C:i<sc.sC.length) :
  uT qc 153 [.ip (cNs ts sc (lBd bs) n ch),aI i] (eRel ⟨2,ZN sc i⟩):=by
 obtain⟨a1,a2,a3⟩:=S.le C;have hg:gI sc.sC i=sc.sC[i]:=j9 C;refine uT.of_sound ?_;refine qSW call153 func153 rfl {} ?_;have cF:=XY sc S.g i zOm;simp[go_sem];refine tU cF (.zk (zD sc) (.zs .nil)) ?_;unfold ZN;rw[hg];generalize hF:sumI (sc.sC.take i)=F at *
 generalize hA:sc.sC[i]=A at *
 obtain⟨M,rfl⟩:=Int.eq_ofNat_of_zero_le (show 0<=A by omega);simp[go_sem];refine aA (M-1) (fun k U=>U.tm 0 = .ip (cNs ts sc (lBd bs) n ch)/\U.tm 1=aI i/\U.tm 4 = .ptr 0 0/\U.tm 5 = .ptr 1 0/\U.tm 6=aI F/\U.tm 7=aI ((k:Int)+1)/\RelM U.mu 2 ((qs k).map fun k:Nat=>(F+k)*sumI sc.sC+(F+k+1))) ?_ ?_
 .exact ⟨zSi,zSi,zSi,zSi,zSi,zSi,.lst true [],zSi,zSi,.inl ⟨rfl,rfl⟩,by simp[qu],by simp[qu]⟩
 rintro k U hk ⟨I,P,e4,J,e6,e7,t,R,g1,T,n0,n1⟩;by_cases a0:k<M-1
 .have j:(k:Int)+1<M:=by omega
  have cR:=rankU sc S.g [F+k,F+k+1] zSp (fun d hd=>by simp at hd;rcases hd with rfl|rfl<;>omega);have hr:ug (sumI sc.sC) [F+k,F+k+1]=(F+k)*sumI sc.sC+(F+k+1):=by simp[ug]
  rw[hr]at cR;have w1:ql.wrap ((k:Int)+1+1)=(k:Int)+1+1:=zWr;have w2:ql.wrap (F+((k:Int)+1))=F+k+1:=by rw[zWr];omega
  have w3:ql.wrap (F+(k:Int))=F+k:=zWr;simp[go_sem,I,P,e7,C,hA,j];refine tR zKr ?_;simp[go_sem,I,J,e6,e7,g1,w2,w3];refine fR cR (.zk (zD sc) (.cons (WK.ints [F+k,F+k+1]) .nil)) ?_;refine aY (e:=3) (bt:=8) (z:=0) zSi zSi zSi zOm T.v zSo ?_;intro a9 o l a4 a5 a6;obtain⟨k1,k2⟩:=RelM.step R g1 n0 n1 l a4 a5 a6;simp[go_sem,J,e7,k1,l.v.one,l.v.cells,w1];refine⟨a0,aC ⟨zS1 I,zS1 P,zS1 e4,zS1 J,zS1 e6,zSi,?_⟩⟩;rw[List.range_succ,zx];simpa[go_sem] using k2
 .have a7:k=M-1:=by omega
  subst a7;have j:¬((M-1:Nat):Int)+1<M:=zOm;have p:∀ c,(U.mu.set 0 c)[0]?=some c:=fun c=>qz (qh.1 R).1
  simp[go_sem,I,P,e4,J,e7,C,hA,j,R,g1,p,T.v.one];refine tP (T.v.same fun b hb=>?_);rw[zH (fun e=>n0 (by rw[e];exact hb))]
def hdT(n g t:Int):Int:=t / powI n (g-1)
def hdK(f:Int->Int)(l:List Int):List (Int×Bool):=l.foldl (fun C u=>setK (f u) true C) []
theorem qrT(f l u):hdK f (l++[u])=setK (f u) true (hdK f l):=by simp[hdK]
theorem qe7(f:Int->Int)(x):∀(l:List Int)(es),getK x (l.foldl (fun es u=>setK (f u) true es) es)=if (∃ u,u∈l/\f u=x) then some true else getK x es
 | [],es=>zSp
 |u :: l,es=>by
  rw[List.foldl_cons,qe7 f x l,jy];by_cases h:∃ v,v∈l/\f v=x
  .obtain ⟨v,g,e⟩:=h
   rw[if_pos ⟨v,g,e⟩,if_pos ⟨v,qN _ g,e⟩]
  .rw [if_neg h]
   by_cases e:x=f u
   .rw [if_pos e,if_pos ⟨u,qZ ..,e.symm⟩]
   .rw [if_neg e,if_neg]
    rintro⟨v,g,i⟩;rcases qy.1 g with rfl|g
    .exact e i.symm
    .exact h ⟨v,g,i⟩
theorem qrU(f x l):getK x (hdK f l)=if (∃ u,u∈l/\f u=x) then some true else none:=by
 rw[hdK,qe7];rfl
theorem qrV{n}(i:1<=n){A}(o:1<=A)(p:A<=3){r}(j:0<=r)(g:r<n ^ A):(digN n r A)[0]?=some (hdT n A r):=by
 obtain⟨k,rfl⟩:∃ k,A=k+1:=⟨A-1,zOm⟩;rw[digN,List.getElem?_cons_zero,pn n r i k];congr 1;have e:((k+1:Nat):Int)-1=k:=zOm;unfold hdT;rw[e,wd zOm zOm];have l:0<n ^ k:=Int.pow_pos zOm;rw[Int.toNat_natCast];rw[Int.pow_succ]at g;exact Int.emod_eq_of_lt (Int.ediv_nonneg j zOm) (Int.ediv_lt_of_lt_mul l (by rw[Int.mul_comm];exact g))
theorem qrW(n a b):vy n a b=⟨a.ar,a.ts.filter fun t=>decide (¬ ∃ u,u∈b.ts/\hdT n b.ar u=hdT n a.ar t)⟩:=by
 unfold vy hdT;congr 1;refine List.filter_congr fun t _=>?_
 rw[decide_eq_decide];exact⟨fun h ⟨u,g,e⟩=>h u g e,fun h u g e=>h ⟨u,g,e⟩⟩
theorem qe8(ts sc)(g:GSc sc)(h0:0<=sumI sc.sC)(ag:sumI sc.sC<=12)(bs ch n a b)(ha:GR (sumI sc.sC) a)(hb:GR (sumI sc.sC) b) :
  uT qc 99 [.ip (cNs ts sc (lBd bs) n ch),eRel a,eRel b] (eRel (vy (sumI sc.sC) a b)):=by
 have cT:∀ r:Rl,GR (sumI sc.sC) r->∀ t,t∈r.ts->∃ l,qg qc 163 [eSc sc,aI r.ar,aI t] (lI (hdT (sumI sc.sC) r.ar t :: l)):=fun r hr t ht=>by
  obtain⟨v0,v1⟩:=hr.val t ht;have r1:=hr.ar1;have r3:=hr.ar3;obtain⟨A,hA⟩:=Int.eq_ofNat_of_zero_le (show 0<=r.ar by omega);rw[wd zOm zOm,hA,Int.toNat_natCast]at v1;have hn:1<=sumI sc.sC:=by
   rcases Int.lt_or_eq_of_le h0 with h|h
   .omega
   .exfalso
    rw[<-h,Int.zero_pow zOm]at v1;omega
  have h1:=qrR sc g hn A zOm t v0 v1;have h2:=qrV hn (A:=A) zOm zOm v0 v1;rw[hA];cases hd:digN (sumI sc.sC) t A with
  |nil=>rw[hd]at h2;cases h2
  |cons x l=>rw[hd]at h1 h2;cases h2;exact⟨l,h1⟩
 have la:=ha.len h0 zOm;have lb:=hb.len h0 zOm;have hR:=qrW (sumI sc.sC) a b;generalize vy (sumI sc.sC) a b=R at *
 refine uT.of_sound ?_;refine qSW call99 func99 rfl {} ?_;simp[go_sem];obtain⟨B,hB⟩:∃ B,B=AV.mp 2:=⟨_,rfl⟩;have ah:B.cells=[B]:=by rw[hB];rfl
 refine aA b.ts.length (fun k U=>U.tm 0 = .ip (cNs ts sc (lBd bs) n ch)/\U.tm 4 = .ip (cRel a)/\U.tm 5 = .ip (cRel b)/\U.tm 6 = .ptr 0 0/\U.tm 7 = .ptr 1 0/\U.tm 8=B/\U.tm 18=lI b.ts/\U.tm 19=aI b.ts.length/\U.tm 20=aI k/\U.mu=[.arr [aI 0,.lst true []],.arr [aI a.ar,.lst true []],.mp (encK (fun n:Int=>aI n) (fun v:Bool=>aB v) (hdK (hdT (sumI sc.sC) b.ar) (b.ts.take k)))]) ?_ ?_
 .exact ⟨zSi,zSi,zSi,zSi,zSi,by simp[go_sem,hB],zSi,zSi,zSi,by simp[go_sem,hdK,encK]⟩
 rintro k U hk ⟨e0,e4,e5,e6,e7,e8,a2,J,P,hm⟩;by_cases i:k<b.ts.length
 .have w1:=zWk k
  obtain⟨l,cK⟩:=cT b hb _ (qt i);have hs:=qrT (hdT (sumI sc.sC) b.ar) (b.ts.take k) b.ts[k];rw[<-jg i]at hs;have ab:U.mu[2]?=some (.mp (encK (fun n:Int=>aI n) (fun v:Bool=>aB v) (hdK (hdT (sumI sc.sC) b.ar) (b.ts.take k)))):=by rw[hm];rfl
  have a1:ju qc U.mu 226 (.mp 2) (aI (hdT (sumI sc.sC) b.ar b.ts[k])) (aB true)=_:=keyI.update (et:=4) (t:=226) zSi (mu:=U.mu) (b:=2) (venc:=fun v:Bool=>aB v) (es:=hdK (hdT (sumI sc.sC) b.ar) (b.ts.take k)) ab (k:=hdT (sumI sc.sC) b.ar b.ts[k]) (v:=true) trivial (fun _ _=>trivial);rw[<-hs,<-hB]at a1;simp[go_sem,a2,J,P,i];refine tR zKr ?_;simp[go_sem,e0,e5,e8];refine fR cK (.zk (zD sc) (.zs (.zs .nil))) ?_;refine tH _ a1 ?_;simp[go_sem,P,w1];refine⟨i,aC ⟨zS1 e0,zS1 e4,zS1 e5,zS1 e6,by simp[go_sem,e7],zS1 e8,zS1 a2,zS1 J,zSi,zS1 hm⟩⟩
 have j:k=b.ts.length:=zOm;rw[j,zi]at hm;simp[go_sem,e4,J,P,j];have ad:∀(I:Mu)(x:Int),I[2]?=some (.mp (encK (fun n:Int=>aI n) (fun v:Bool=>aB v) (hdK (hdT (sumI sc.sC) b.ar) b.ts)))->yj qc I 226 B (aI x) false=some (aB (decide (∃ u,u∈b.ts/\hdT (sumI sc.sC) b.ar u=x))):=fun I x h=>by
  rw[hB];have:=keyI.look (et:=4) (t:=226) zSi (mu:=I) (m := .mp 2) (venc:=fun v:Bool=>aB v) (es:=hdK (hdT (sumI sc.sC) b.ar) b.ts) (by simp only[jD,h]) (k:=x) trivial (fun _ _=>trivial) (z:=aB false) zSi false;refine Eq.trans this ?_;rw[qrU];by_cases hx:∃ u,u∈b.ts/\hdT (sumI sc.sC) b.ar u=x
  .rw [if_pos hx,decide_eq_true hx];rfl
  .rw [if_neg hx,decide_eq_false hx];rfl
 generalize hE:encK (fun n:Int=>aI n) (fun v:Bool=>aB v) (hdK (hdT (sumI sc.sC) b.ar) b.ts)=E at *
 generalize hP:(fun t=>decide (¬ ∃ u,u∈b.ts/\hdT (sumI sc.sC) b.ar u=hdT (sumI sc.sC) a.ar t))=p at *
 have hp:∀ t,p t=!decide (∃ u,u∈b.ts/\hdT (sumI sc.sC) b.ar u=hdT (sumI sc.sC) a.ar t):=fun t=>by rw[<-hP];exact decide_not ..
 refine aA a.ts.length (fun k U=>U.tm 0 = .ip (cNs ts sc (lBd bs) n ch)/\U.tm 4 = .ip (cRel a)/\U.tm 6 = .ptr 0 0/\U.tm 7 = .ptr 1 0/\U.tm 8=B/\U.tm 37=lI a.ts/\U.tm 38=aI a.ts.length/\U.tm 39=aI k/\∃ av,U.mu[0]?=some (.arr [aI 0,.lst true []])/\U.mu[1]?=some (.arr [aI a.ar,av])/\U.mu[2]?=some (.mp E)/\OwnI U.mu av ((a.ts.take k).filter p)/\∀ b,qu av=some b->3<=b) ?_ ?_
 .exact ⟨zS1 e0,zS1 e4,zS1 e6,by simp[go_sem,e7],zS1 e8,zSi,zSi,zSi,.lst true [],zS1 hm,zS1 hm,zS1 hm,.inl ⟨rfl,zSp⟩,by simp[qu]⟩
 clear e0 e4 e5 e6 e7 e8 a2 J P hm i hk;rintro k U hk ⟨e0,e4,e6,e7,e8,a3,T,a0,av,g0,g1,g2,ho,n3⟩;by_cases i:k<a.ts.length
 .have w1:=zWk k
  obtain⟨l,cK⟩:=cT a ha _ (qt i);have ae:=ad U.mu (hdT (sumI sc.sC) a.ar a.ts[k]) g2;have a7:=jg i;simp[go_sem,a3,T,a0,i];refine tR zKr ?_;simp[go_sem,e0,e4,e8];refine tU cK (.zk (zD sc) (.zs (.zs .nil))) ?_;simp[go_sem,ae];have a8:=hp a.ts[k];generalize hq:decide (∃ u,u∈b.ts/\hdT (sumI sc.sC) b.ar u=hdT (sumI sc.sC) a.ar a.ts[k])=q at *
  cases q with
  |true =>
   simp[go_sem,a0,w1];refine⟨i,aC ⟨zS1 e0,zS1 e4,zS1 e6,by simp[go_sem,e7],zS1 e8,zS1 a3,zS1 T,zSi,av,zVs g0,by simpa[go_sem] using g1,zVs g2,?_,n3⟩⟩;rw[a7,List.filter_append];simpa[go_sem,a8] using ho
  |false =>
   simp[go_sem,e7,g1];refine aY (e:=3) (bt:=8) (z:=0) zSi zSi zSi zOm ho.v (zW2 (List.length_filter_le p (a.ts.take k)) (List.length_take_le' k a.ts)) ?_;intro af o a4 a5 ai a9;have l2:=(qh.1 g2).1;have k0:o[0]?=some (.arr [aI 0,.lst true []]):=by rw[a5 0 zOm (fun e=>zW1 (n3 0 e))];exact g0
   have k1:o[1]?=some (.arr [aI a.ar,av]):=by rw[a5 1 zOm (fun e=>zW1 (n3 1 e))];exact g1
   have k2:o[2]?=some (.mp E):=by rw[a5 2 zOm (fun e=>zW1 (n3 2 e))];exact g2
   simp[go_sem,e7,a0,k1,a4.v.one,a4.v.cells,w1];refine⟨i,aC ⟨zS1 e0,zS1 e4,zS1 e6,by simp[go_sem,e7],zS1 e8,zS1 a3,zS1 T,zSi,af,?_,?_,?_,?_,fun b hb=>zW1 (a9 b hb)⟩⟩
   .simp only[qI];rw[zGl];exact k0
   .simp only[qI];rw[qz zOm]
   .simp only[qI];rw[zGl];exact k2
   .rw [a7,List.filter_append]
    simp only[qI,List.filter_cons,a8,List.filter_nil,Bool.not_false,if_true];exact a4.same fun b hb=>by rw[zH (fun e=>zW1 (a9 b hb))]
 .have j:k=a.ts.length:=by omega
  rw[j,zi]at ho;have aa:∀ c,(U.mu.set 0 c)[0]?=some c:=fun c=>qz (qh.1 g0).1
  simp[go_sem,e6,e7,T,a0,j,g0,g1,aa,ho.v.one];rw[hR];refine tP (ho.v.same fun b hb=>?_);rw[zH (fun e=>zW1 (n3 b hb))]
end O3
namespace O4
open Y1 Y10 P1 E4 EO EP EW F6 GF KA KC O0 O2 O3
abbrev cVb(e:tZ×Bd):List AV:=aS e.1 :: cBd e.2
theorem qrX(nm l e):Qa nm (l++[e])=if e.1=nm then some e.2 else Qa nm l:=by simp[Qa,List.foldl_append]
abbrev cZ4:List AV:=[aI 0,.lst true [],aI 0,.lst true []]
theorem qe9{bs:List Bd}{i}(h):((bs.map cBd).flatten.drop (i*4)).take 4=cBd bs[i]:=by
 induction bs generalizing i with
 |nil=>simp at h
 |cons b bs g =>
  cases i with
  |zero=>simp[cBd]
  |succ i =>
   have e:(i+1)*4=4+i*4:=zOm;rw[za,List.flatten_cons,e,<-List.drop_drop];have:(cBd b++(bs.map cBd).flatten).drop 4=(bs.map cBd).flatten:=by
    rw[show (4:Nat)=(cBd b).length from rfl,List.drop_left]
   rw[this,g (zUs h)];rfl
structure NmOk (ts:TS) (sc:Sc) (bs:List Bd):Prop where
 S:ScN ts sc
 h12:sumI sc.sC<=12
 bl:bs.length=ts.sA.length
 nf:ts.sA.length<=1000000
 sz:∀ x,x∈ts.sS->x.1.size<=4611686018427387904
theorem nameM{ts sc bs ch bv p mu}(hN:NsR mu p ts sc bs ch bv)(W:NmOk ts sc bs)(full env)(he:env.length<=1000000)(nm) :
  yr qc 80 [.ptr p 0,.lst full (env.map cVb),aS nm] mu (eBd (zr ⟨ts,sc,bs⟩ env nm)):=by
 have b0:ts.sS.length=sc.sC.length:=W.S.ns;have ak:sc.sC.length<=1000:=zW1 W.S.g.1;have au:∀ l,(mu++l)[p]?=some (.arr (cNs ts sc bv (sumI sc.sC) ch)):=fun l=>zA hN.st l
 have b1:=(qh.1 hN.st).1;refine yr.of ?_;refine qSW call80 func80 rfl {} ?_;have az:∀ b:Bd,Rd (cutM (fun i=>decide (mu.length<=i)) mu 0) (eBd b) (eBd b):=fun b => .hf _ (z8 b)
 generalize hR:zr ⟨ts,sc,bs⟩ env nm=R;simp[go_sem];have w0:ql.wrap ((env.length:Int)-1)=(env.length:Int)-1:=zWr;refine aA env.length (fun k U=>U.tm 0 = .ptr p 0/\U.tm 1 = .lst full (env.map cVb)/\U.tm 2=aS nm/\U.tm 6 = .ptr mu.length 0/\U.tm 7=aI ((env.length:Int)-1-k)/\U.mu=mu++[.arr cZ4]/\Qa nm (env.take (env.length-k))=Qa nm env) ?_ ?_
 .exact ⟨zSi,zSi,zSi,zSi,zS1 w0,zSi,zSp⟩
 rintro k U hk ⟨e0,e1,I,P,e7,hm,hl⟩;by_cases o:k<env.length
 .obtain ⟨J,hJ,af⟩:∃ J,env.length-k=J+1/\J<env.length:=⟨env.length-k-1,zOm,zOm⟩
  have a7:U.tm 7=aI (J:Int):=by rw[e7];congr 2;omega
  have w1:ql.wrap ((J:Int)-1)=(env.length:Int)-1-((k+1:Nat):Int):=by rw[zWr];omega
  rw[hJ,jg af,qrX]at hl;by_cases hx:env[J].1=nm
  .rw [if_pos hx]at hl
   have a8:R=env[J].2:=by rw[<-hR,zr,<-hl]
   simp[go_sem,jH,e1,I,P,a7,af,hx,hm];subst a8;exact⟨MuLe.app (MuLe.refl _) _,.hf _ (z8 _)⟩
  .rw [if_neg hx]at hl
   simp[go_sem,jH,e1,I,a7,af,hx,w1]
   try refine⟨o,aC ?_⟩
   try refine aC ?_
   refine⟨zS1 e0,zS1 e1,zS1 I,zS1 P,zSi,zS1 hm,by rw[show env.length-(k+1)=J by omega];exact hl⟩
 have a9:k=env.length:=zOm;subst a9;rw[Nat.sub_self,List.take_zero]at hl;have a7:U.tm 7=aI (-1):=by rw[e7];congr 2;omega
 have aa:(match yQ nm ts.sA bs with|some b=>b|none=>Zd sc nm 0 ts.sS)=R:=by
  rw[<-hR,zr,<-hl];rfl
 simp[go_sem,e0,a7,hm,au];clear hl hR;refine aA ts.sA.length (fun k U=>U.tm 0 = .ptr p 0/\U.tm 2=aS nm/\U.tm 6 = .ptr mu.length 0/\U.tm 35 = .lst false (ts.sA.map jo)/\U.tm 36=aI ts.sA.length/\U.tm 37=aI k/\U.mu[mu.length]?=some (.arr cZ4)/\MuLe mu U.mu/\yQ nm (ts.sA.drop k) (bs.drop k)=yQ nm ts.sA bs) ?_ ?_
 .exact ⟨zS1 e0,zS1 I,zS1 P,zSi,zSi,zSi,zSi,by simpa[go_sem] using MuLe.app (MuLe.refl mu) _,zSp⟩
 clear e0 e1 I P e7 a7 hm;rintro k U hk ⟨e0,I,P,a4,a2,a5,hz,t,hf⟩;by_cases o:k<ts.sA.length
 .have ab:k<bs.length:=by rw[W.bl];exact o
  have w1:ql.wrap ((k:Int)+1)=(k:Int)+1:=by have:=W.nf;exact zWr
  rw[zg o,zg ab,yQ]at hf;have hM:∀ c:Cell,(U.mu++[c])[p]?=some (.arr (cNs ts sc bv (sumI sc.sC) ch)):=fun c=>zA (t _ _ hN.st) _
  have hZ:∀ c:Cell,(U.mu++[c])[mu.length]?=some (.arr cZ4):=fun c=>zA hz _
  have al:=(qh.1 hz).1;have C:∀ x c,((U.mu++[x]).set mu.length c)[mu.length]?=some c:=fun x c=>qz zSo
  by_cases hx:ts.sA[k].name=nm
  .rw [if_pos hx]at hf
   have a8:R=bs[k]:=by rw[<-aa,<-hf]
   have T:∀ x c,MuLe mu ((U.mu++[x]).set mu.length c):=fun x c b y hb=>by
    have an:=(qh.1 hb).1;rw[zGl];exact zA (t _ _ hb) _
   have av:=hN.bv;subst a8;rcases av with rfl|rfl|⟨b,rfl,hc⟩
   .simp [go_sem,jH,e0,I,P,a4,a2,a5,o,ab,hx,hM,hZ,C]
    exact⟨T _ _,.hf _ (z8 _)⟩
   .simp [go_sem,jH,e0,I,P,a4,a2,a5,o,ab,hx,hM,hZ,C]
    exact⟨T _ _,.hf _ (z8 _)⟩
   .have hC:∀ c:Cell,(U.mu++[c])[b]?=some (.arr (bs.map cBd).flatten):=fun c=>zA (t _ _ hc) _
    have ao:=qe9 ab;have aw:k*4+4<=(bs.map cBd).flatten.length:=by rw[ym (sz:=4) (Qj bs).ok,yu];omega
    have ak:(bs.map cBd).length=bs.length:=zSp;rw[ak]at hM;generalize (bs.map cBd).flatten=Y at *
    simp[go_sem,jH,e0,I,P,a4,a2,a5,o,ab,hx,hM,hZ,C,hC,aw,ao];exact⟨T _ _,.hf _ (z8 _)⟩
  .rw [if_neg hx]at hf
   simp[go_sem,jH,I,a4,a2,a5,o,hx,w1]
   try refine⟨o,aC ?_⟩
   try refine aC ?_
   refine⟨zS1 e0,zS1 I,zS1 P,zS1 a4,zS1 a2,zSi,by simpa[go_sem] using zA hz _,by simpa[go_sem] using MuLe.app t _,hf⟩
 have a9:k=ts.sA.length:=zOm;subst a9;have ag:yQ nm ts.sA bs=none:=by rw[<-hf,zU];rfl
 rw[ag]at aa;replace aa:Zd sc nm 0 ts.sS=R:=aa;have aq:U.mu[p]?=some (.arr (cNs ts sc bv (sumI sc.sC) ch)):=t _ _ hN.st;simp[go_sem,e0,a2,a5,aq];refine aA ts.sS.length (fun k U=>U.tm 0 = .ptr p 0/\U.tm 2=aS nm/\U.tm 6 = .ptr mu.length 0/\U.tm 58 = .lst false (ts.sS.map JF)/\U.tm 59=aI ts.sS.length/\U.tm 60=aI k/\U.mu[mu.length]?=some (.arr cZ4)/\MuLe mu U.mu/\Zd sc nm k (ts.sS.drop k)=R) ?_ ?_
 .exact ⟨zS1 e0,zS1 I,zS1 P,zSi,zSi,zSi,zVs hz,zVs t,zUs aa⟩
 clear e0 I P a4 a2 a5 hz t hf o hk aq;rintro k U hk ⟨e0,I,P,a3,a0,a6,hz,t,hf⟩;have al:=(qh.1 hz).1;by_cases o:k<ts.sS.length
 .have ax:k<sc.sC.length:=by omega
  have w1:=zWk k;have ar:=W.sz _ (qt o);rw[zg o,Zd]at hf;have hM:∀ c:Cell,(U.mu++[c])[p]?=some (.arr (cNs ts sc bv (sumI sc.sC) ch)):=fun c=>zA (t _ _ hN.st) _
  have hZ:∀ c:Cell,(U.mu++[c])[mu.length]?=some (.arr cZ4):=fun c=>zA hz _
  have C:∀ x c,((U.mu++[x]).set mu.length c)[mu.length]?=some c:=fun x c=>qz zSo
  have T:∀ x c,MuLe mu ((U.mu++[x]).set mu.length c):=fun x c b y hb=>by
   have an:=(qh.1 hb).1;rw[zGl];exact zA (t _ _ hb) _
  generalize ad:ts.sS[k]=so at *
  obtain⟨sn,sb⟩:=so;have ah:sn.size<=9223372036854775801:=by simp at ar;omega
  have ai:sn.size<=9223372036854775802:=by simp at ar;omega
  simp only at hf;by_cases h1:sn=nm
  .rw [if_pos h1]at hf
   have cF:=X3 sc W.S.g (fun a ha=>zW1 (W.S.a1 a ha)) [(k:Int)] (fun s hs=>by rw[qS]at hs;omega) zSp zSp;rw[qk5]at cF;have ht:(qs (gI sc.sC k).toNat).map (fun j:Nat=>sumI (sc.sC.take k)+j)=Yu sc k:=rfl;rw[ht]at cF;simp[go_sem,jH,e0,I,P,a3,a0,a6,o,ad,h1,hM,hZ];refine fR cF (.zk (zD sc) (.cons (aQ [(k:Int)]) .nil)) ?_;refine tU (Jg ⟨1,Yu sc k⟩) (.zk (qx _) .nil) ?_;simp[go_sem,P,hZ,C];subst hf;exact⟨T _ _,.hf _ (z8 (exR ⟨1,Yu sc k⟩))⟩
  rw[if_neg h1]at hf;cases sb with
  |false =>
   simp at hf;simp[go_sem,jH,I,a3,a0,a6,o,ad,h1,w1]
   try refine⟨o,aC ?_⟩
   try refine aC ?_
   refine⟨zS1 e0,zS1 I,zS1 P,zS1 a3,zS1 a0,zSi,by simpa[go_sem] using zA hz _,by simpa[go_sem] using MuLe.app t _,hf⟩
  |true =>
  simp only[true_and]at hf;by_cases h2:sn++jT=nm
  .rw [if_pos h2]at hf
   have ae:sn++(⟨#[95,102,105,114,115,116]⟩:tZ)=nm:=h2;simp[go_sem,jH,e0,I,P,a3,a0,a6,o,ad,h1,ah,ai,ae,hM,hZ];refine fR (XY sc W.S.g k zOm) (.zk (zD sc) (.zs .nil)) ?_;refine tU (Jg ⟨1,[sumI (sc.sC.take k)]⟩) (.cons (WK.aggs (.zs (.cons (aQ [sumI (sc.sC.take k)]) .nil))) .nil) ?_;simp[go_sem,P,hZ,C];subst hf;exact⟨T _ _,.hf _ (z8 (exR ⟨1,[sumI (sc.sC.take k)]⟩))⟩
  rw[if_neg h2]at hf;have ae:¬sn++(⟨#[95,102,105,114,115,116]⟩:tZ)=nm:=h2;by_cases h3:sn++vr=nm
  .rw [if_pos h3]at hf
   have aj:sn++(⟨#[95,110,101,120,116]⟩:tZ)=nm:=h3;have ay:∀ c:Cell,NsR (U.mu++[c]) p ts sc bs ch bv:=fun c=>(hN.le t).le (MuLe.push _ c)
   simp[go_sem,jH,e0,I,P,a3,a0,a6,o,ad,h1,ah,ai,ae,aj,hM,hZ];refine fX (qrS ts sc W.S W.h12 bs ch (sumI sc.sC) k ax) ⟨(ay _).rd,.hf _ (HF.sc _),trivial⟩ ?_;simp[go_sem];refine tU (Jg ⟨2,ZN sc k⟩) (.zk (qx _) .nil) ?_;simp[go_sem,P,hZ,C];subst hf;exact⟨T _ _,.hf _ (z8 (exR ⟨2,ZN sc k⟩))⟩
  rw[if_neg h3]at hf;have aj:¬sn++(⟨#[95,110,101,120,116]⟩:tZ)=nm:=h3;simp[go_sem,jH,I,a3,a0,a6,o,ad,h1,ah,ai,ae,aj,w1]
  try refine⟨o,aC ?_⟩
  try refine aC ?_
  refine⟨zS1 e0,zS1 I,zS1 P,zS1 a3,zS1 a0,zSi,by simpa[go_sem] using zA hz _,by simpa[go_sem] using MuLe.app t _,hf⟩
 .have a9:k=ts.sS.length:=by omega
  subst a9;have a8:R=bd0:=by rw[<-hf,zU];rfl
  have C:∀ c,(U.mu.set mu.length c)[mu.length]?=some c:=fun c=>qz al
  have T:∀ c,MuLe mu (U.mu.set mu.length c):=fun c b y hb=>by
   have an:=(qh.1 hb).1;rw[zGl];exact t _ _ hb
  simp[go_sem,P,a0,a6,hz,C];subst a8;exact⟨T _,Rd.aggs ⟨.hf _ (HF.sc _),.wk _ true _ (.hf _ (HF.lst fun r hr=>by simp at hr)),.hf _ (HF.sc _),.wk _ true _ (.hf _ (HF.lst fun r hr=>by simp at hr)),trivial⟩⟩
end O4
namespace O5
open P1 E1 E2 E3 EQ ET EY F3 GF KA KB O0 O2 O4
variable {ts:TS} {sc:Sc} {bs:List Bd} {ch:Bool} {bv:AV} {p:Nat} {mu:Mu}
theorem qrY(i:NsR mu p ts sc bs ch bv)(W:NmOk ts sc bs)(r)(j:GR (sumI sc.sC) r)(o:r.ar=2):yr qc 85 [eRel r,.ip [.ptr p 0]] mu (eRel (trR (sumI sc.sC) r)):=by
 have g:∀ l,(mu++l)[p]?=some (.arr (cNs ts sc bv (sumI sc.sC) ch)):=fun l=>zA i.st l
 refine yr.of ?_;refine qSW call85 func85 rfl {} ?_;simp[go_sem];refine tR zKr ?_;simp[go_sem,g];refine fR (X1 _ W.S.n0 W.h12 r j o) (.zs (.zk (qx r) .nil)) ?_;exact⟨MuLe.app (MuLe.refl _) _,.hf _ (qx _)⟩
theorem closM(i:NsR mu p ts sc bs ch bv)(W:NmOk ts sc bs)(r)(j:GR (sumI sc.sC) r)(o:r.ar=2):yr qc 87 [eRel r,.ip [.ptr p 0]] mu (eRel (clR (sumI sc.sC) 200 r)):=by
 have g:∀ l,(mu++l)[p]?=some (.arr (cNs ts sc bv (sumI sc.sC) ch)):=fun l=>zA i.st l
 refine yr.of ?_;refine qSW call87 func87 rfl {} ?_;simp[go_sem];refine tR zKr ?_;simp[go_sem,g];refine fR (qaB _ W.S.n0 W.h12 r j o) (.zs (.zk (qx r) .nil)) ?_;exact⟨MuLe.app (MuLe.refl _) _,.hf _ (qx _)⟩
theorem reflM(o:NsR mu p ts sc bs ch bv)(W:NmOk ts sc bs)(r)(i:GR (sumI sc.sC) r)(j:r.ar=2):yr qc 89 [eRel r,.ip [.ptr p 0]] mu (eRel (unR (clR (sumI sc.sC) 200 r) (idR (sumI sc.sC)))):=by
 have g:∀ l,(mu++l)[p]?=some (.arr (cNs ts sc bv (sumI sc.sC) ch)):=fun l=>zA o.st l
 have g1:=aD W.S.n0 200 i j;have t:=GR.iden W.S.n0;have C:=g1.1.len W.S.n0 (zW1 W.h12);have I:=t.len W.S.n0 (zW1 W.h12);refine yr.of ?_;refine qSW call89 func89 rfl {} ?_;simp[go_sem];refine tR zKr ?_;simp[go_sem,g];refine tU (qaB _ W.S.n0 W.h12 r i j) (.zs (.zk (qx r) .nil)) ?_;simp[go_sem,g];refine fR (qaC _ W.S.n0 W.h12) (.zs .nil) ?_;refine fR (jV _ _ zOm zOm) (.zk (qx _) (.zk (qx _) .nil)) ?_;exact⟨MuLe.app (MuLe.refl _) _,.hf _ (qx _)⟩
theorem joinM(i:NsR mu p ts sc bs ch bv)(W:NmOk ts sc bs)(a b)(j:GR (sumI sc.sC) a)(o:GR (sumI sc.sC) b)(t:a.ar+b.ar<=5->a.ts.length*b.ts.length<=1000000):yr qc 94 [eRel a,eRel b,.ip [.ptr p 0]] mu (eRel (vE (uf (sumI sc.sC) a b))):=by
 have g:∀ l,(mu++l)[p]?=some (.arr (cNs ts sc bv (sumI sc.sC) ch)):=fun l=>zA i.st l
 have C:=u7 _ W.S.n0 W.h12 a b j o t;refine yr.of ?_;refine qSW call94 func94 rfl {} ?_;simp[go_sem];refine tR zKr ?_;simp[go_sem,g];refine tU C (.zs (.zk (qx a) (.zk (qx b) .nil))) ?_;cases I:uf (sumI sc.sC) a b with
 |ok r =>
  simp[go_sem];refine fR (Wv r 0) (.zk (qx r) (.zs .nil)) ?_;exact⟨MuLe.app (MuLe.refl _) _,.hf _ (qx r)⟩
 |error e =>
  simp[go_sem];refine fR (Wv ⟨0,[]⟩ e) (.zk (qx _) (.zs .nil)) ?_;exact⟨MuLe.app (MuLe.refl _) _,.hf _ (qx rl0)⟩
theorem prodM(i:NsR mu p ts sc bs ch bv)(W:NmOk ts sc bs)(a b)(j:GR (sumI sc.sC) a)(o:GR (sumI sc.sC) b):yr qc 97 [eRel a,eRel b,.ip [.ptr p 0]] mu (eRel (vE (wh (sumI sc.sC) a b))):=by
 have g:∀ l,(mu++l)[p]?=some (.arr (cNs ts sc bv (sumI sc.sC) ch)):=fun l=>zA i.st l
 have t:=XF _ W.S.n0 W.h12 a b j o;refine yr.of ?_;refine qSW call97 func97 rfl {} ?_;simp[go_sem];refine tR zKr ?_;simp[go_sem,g];refine tU t (.zs (.zk (qx a) (.zk (qx b) .nil))) ?_;cases C:wh (sumI sc.sC) a b with
 |ok r =>
  simp[go_sem];refine fR (Wv r 0) (.zk (qx r) (.zs .nil)) ?_;exact⟨MuLe.app (MuLe.refl _) _,.hf _ (qx r)⟩
 |error e =>
  simp[go_sem];refine fR (Wv ⟨0,[]⟩ e) (.zk (qx _) (.zs .nil)) ?_;exact⟨MuLe.app (MuLe.refl _) _,.hf _ (qx rl0)⟩
theorem unM{b x}(C:mu[b]?=some (.arr (cBd x))){I}{f:Rl->Rl}(hf:Zn qc mu I eRel (fun r=>r=x.lo\/r=x.up) (fun r=>eRel (f r))) :
  yr qc 84 [I,.ptr b 0] mu (eBd ⟨f x.lo,f x.up⟩):=by
 have R:∀ m,MuLe mu m->m[b]?=some (.arr (cBd x)):=fun m h=>h _ _ C
 refine yr.of ?_;refine qSW call84 func84 rfl {} ?_;have g:∀ l,(mu++l)[b]?=some (.arr (cBd x)):=fun l=>zA C l
 simp[go_sem];refine fG [0,1,2,4,5,6,3,7,8,9] [(0,0,[]),(1,0,[]),(2,0,[]),(4,0,[]),(5,0,[]),(6,0,[]),(3,1,[6]),(7,1,[]),(8,0,[]),(9,1,[])] zKr zKr zSi ?_;simp[go_sem,g];refine Zn.call (enc:=eRel) hf (.inl rfl) (MuLe.app (MuLe.refl _) _) fun U o=>?_
 have i:=o _ _ (g _);simp[go_sem,i];refine Zn.call (enc:=eRel) hf (.inr rfl) ((MuLe.app (MuLe.refl _) _).trans o) fun T J=>?_
 have P:=J _ _ (o mu.length (.arr cZ4) zSp);have t:=(qh.1 P).1;have j:∀ c,(T.set mu.length c)[mu.length]?=some c:=fun c=>qz t
 simp[go_sem,P,j];exact⟨MuLe.setN (((MuLe.app (MuLe.refl _) _).trans o).trans J) (qj _) _,.hf _ (z8 ⟨f x.lo,f x.up⟩)⟩
theorem biM{b c x y}(T:mu[b]?=some (.arr (cBd x)))(U:mu[c]?=some (.arr (cBd y))){J f}(hf:Qi qc mu J eRel (fun r s=>(r=x.lo/\s=y.lo)\/(r=x.up/\s=y.up)) (fun r s=>eRel (f r s))) :
  yr qc 91 [J,.ptr b 0,.ptr c 0] mu (eBd (map2 f x y)):=by
 refine yr.of ?_;refine qSW call91 func91 rfl {} ?_;have g:∀ l,(mu++l)[b]?=some (.arr (cBd x)):=fun l=>zA T l
 have i:∀ l,(mu++l)[c]?=some (.arr (cBd y)):=fun l=>zA U l
 simp[go_sem];refine fG [0,1,2,3,4,6,7,8,9,10,5,11,12,13] [(0,0,[]),(1,0,[]),(2,0,[]),(3,0,[]),(4,0,[]),(6,0,[]),(7,0,[]),(8,0,[]),(9,0,[]),(10,0,[]),(5,1,[8,10]),(11,1,[]),(12,0,[]),(13,1,[])] zKr zKr zSi ?_;simp[go_sem,g,i];refine Qi.call (enc:=eRel) hf (.inl ⟨rfl,rfl⟩) (MuLe.app (MuLe.refl _) _) fun m1 j=>?_
 have o:=j _ _ (g _);have p:=j _ _ (i _);simp[go_sem,o,p];refine Qi.call (enc:=eRel) hf (.inr ⟨rfl,rfl⟩) ((MuLe.app (MuLe.refl _) _).trans j) fun m2 P=>?_
 have R:=P _ _ (j mu.length (.arr cZ4) zSp);have I:=(qh.1 R).1;have t:∀ c,(m2.set mu.length c)[mu.length]?=some c:=fun c=>qz I
 simp[go_sem,R,t];exact⟨MuLe.setN (((MuLe.app (MuLe.refl _) _).trans j).trans P) (qj _) _,.hf _ (z8 (map2 f x y))⟩
end O5
set_option maxHeartbeats 1000000
namespace O6
open Y1 P1 E1 E2 E3 E4 EQ ER EY F3 F6 GF KA KB O0 O2 O3 O4 O5
variable {ts:TS} {sc:Sc} {bs:List Bd}
def IvM(ts:TS)(sc:Sc)(bs:List Bd)(env:List (tZ×Bd))(n:Nd):Prop:=∀(I:Mu)(p:Nat)(g:Bool)(i:AV)(full:Bool),NsR I p ts sc bs g i->yr qc 41 [.ptr p 0,.lst full (env.map cVb),eNd n] I (eBd (ivl ⟨ts,sc,bs⟩ env n))
theorem Ww(W:NmOk ts sc bs)(env)(he:env.length<=1000000)(n)(ho:n.op=1\/(n.op=2)\/n.op=3\/n.op=4):IvM ts sc bs env n:=by
 intro I p t T full U;have C:∀ l,(I++l)[p]?=some (.arr (cNs ts sc T (sumI sc.sC) t)):=fun l=>zA U.st l
 have i:∀ l,NsR (I++l) p ts sc bs t T:=fun l=>U.le (MuLe.app (MuLe.refl _) l)
 have hz:∀ c:Cell,(I++[c])[I.length]?=some c:=fun c=>zSp
 have J:=zj ⟨ts,sc,bs⟩ env n;rw[J];refine yr.of ?_;refine qSW call41 func41 rfl {} ?_;generalize o:opI ⟨ts,sc,bs⟩ env n.op n.name n.n (n.sD.map (ivl ⟨ts,sc,bs⟩ env))=R;have a0:∀ c d:Cell,((I++[c]).set I.length d)[I.length]?=some d:=fun c d=>qz zSp
 rcases ho with h|h|h|h
 .have g:R=zr ⟨ts,sc,bs⟩ env n.name:=by rw[<-o,h];rfl
  subst g;simp[go_sem,h];refine qe.mem (nameM (i _) W full env he n.name) fun m1 h1=>?_
  have j:=h1 _ _ (hz (.arr cZ4));have P:∀ c,(m1.set I.length c)[I.length]?=some c:=fun c=>qz (qh.1 j).1
  simp[go_sem,j,P];exact⟨MuLe.setN ((MuLe.app (MuLe.refl _) _).trans h1) (qj _) _,.hf _ (z8 (zr ⟨ts,sc,bs⟩ env n.name))⟩
 .have g:R=exR ⟨n.n,[]⟩:=by rw[<-o,h];rfl
  subst g;simp[go_sem,h];refine fR (Jg ⟨n.n,[]⟩) (.cons (WK.aggs (.zs (.cons (WK.lst fun r hr=>absurd hr qK) .nil))) .nil) ?_;exact⟨MuLe.app (MuLe.refl _) _,.hf _ (z8 (exR ⟨n.n,[]⟩))⟩
 .have g:R=exR (KA.allN (sumI sc.sC) 1):=by rw[<-o,h];rfl
  subst g;simp[go_sem,h];refine fX (allF ts sc bs t (sumI sc.sC) W.S.n0 W.h12 1 zOm zOm) ⟨(i _).rd,.hf _ (HF.sc _),trivial⟩ ?_;simp[go_sem];refine fR (Jg (KA.allN (sumI sc.sC) 1)) (.zk (qx _) .nil) ?_;exact⟨MuLe.app (MuLe.refl _) _,.hf _ (z8 (exR (KA.allN (sumI sc.sC) 1)))⟩
 .have g:R=exR (idR (sumI sc.sC)):=by rw[<-o,h];rfl
  subst g;simp[go_sem,h,C];refine fR (qaC _ W.S.n0 W.h12) (.zs .nil) ?_;refine fR (Jg (idR (sumI sc.sC))) (.zk (qx _) .nil) ?_;exact⟨MuLe.app (MuLe.refl _) _,.hf _ (z8 (exR (idR (sumI sc.sC))))⟩
theorem qfA(W:NmOk ts sc bs)(env n x a)(hk:n.sD=[x])(ho:n.op=5\/(11<=n.op/\n.op<=13))(o:okI (sumI sc.sC) a (ivl ⟨ts,sc,bs⟩ env x))(t:11<=n.op->a=2)(ih:IvM ts sc bs env x):IvM ts sc bs env n:=by
 intro I p ch bv full hN;have a6:∀ l,(I++l)[p]?=some (.arr (cNs ts sc bv (sumI sc.sC) ch)):=fun l=>zA hN.st l
 have a1:∀ l,NsR (I++l) p ts sc bs ch bv:=fun l=>hN.le (MuLe.app (MuLe.refl _) l)
 have a4:=zj ⟨ts,sc,bs⟩ env n;rw[a4];refine yr.of ?_;refine qSW call41 func41 rfl {} ?_;have n1:¬n.op=1:=zOm;have n2:¬n.op=2:=zOm;have n3:¬n.op=3:=zOm;have n4:¬n.op=4:=zOm;generalize hR:opI ⟨ts,sc,bs⟩ env n.op n.name n.n (n.sD.map (ivl ⟨ts,sc,bs⟩ env))=R;rw[hk]at hR;generalize hX:ivl ⟨ts,sc,bs⟩ env x=X at *
 have hz:∀ c:Cell,(I++[c])[I.length]?=some c:=fun c=>zSp
 simp[go_sem,n1,n2,n3,n4,hk];refine fG [0,1,2,3,4,5,6,7,8] [(0,0,[]),(1,0,[]),(2,0,[]),(3,0,[]),(4,0,[]),(5,0,[]),(6,1,[]),(7,2,[0,3,5]),(8,1,[])] zKr zKr zSi ?_;simp[go_sem,hk];have ih:=ih _ _ _ _ full (a1 [.arr cZ4]);rw[hX]at ih;refine qe.mem ih fun J h1=>?_
 have a3:=h1 _ _ (hz (.arr cZ4));have a0:=(a1 _).le h1;have P:∀ l,(J++l)[I.length]?=some (.arr cZ4):=fun l=>zA a3 l
 have a7:=(qh.1 a3).1;have a5:∀ x c:Cell,((J++[x]).set I.length c)[I.length]?=some c:=fun x c=>qz zSo
 have j:MuLe I J:=(MuLe.app (MuLe.refl _) _).trans h1;rcases (show n.op=5\/n.op=11\/n.op=12\/n.op=13 by omega) with h|h|h|h
 .have i:R=X:=by rw[<-hR,h,za,hX];rfl
  subst i;simp[go_sem,hk,h,P,a5];exact⟨MuLe.setN (MuLe.app j _) (qj _) _,.hf _ (z8 _)⟩
 .have i:R=⟨trR (sumI sc.sC) X.lo,trR (sumI sc.sC) X.up⟩:=by rw[<-hR,h,za,hX];rfl
  subst i;have T:a=2:=t zOm;have hf:Zn qc (J++[.arr (cBd X)]) (.fn (.func 85) [] [.ip [.ptr p 0]]) eRel (fun r=>r=X.lo\/r=X.up) (fun r=>eRel (trR (sumI sc.sC) r)):=
   ⟨_,_,rfl,fun r U m hm=>qrY ((a0.le (MuLe.app (MuLe.refl _) _)).le hm) W r (by rcases U with rfl|rfl;exact o.lo;exact o.up) (by rcases U with rfl|rfl;exact o.la.trans T;exact o.ua.trans T)⟩
  simp[go_sem,hk,h];refine qe.mem (unM (b:=J.length) (x:=X) zSp hf) fun m2 t=>?_
  have g:=t _ _ (P [.arr (cBd X)]);have C:∀ c,(m2.set I.length c)[I.length]?=some c:=fun c=>qz (qh.1 g).1
  simp[go_sem,g,C];exact⟨MuLe.setN ((j.trans (MuLe.app (MuLe.refl _) _)).trans t) (qj _) _,.hf _ (z8 ⟨trR (sumI sc.sC) X.lo,trR (sumI sc.sC) X.up⟩)⟩
 .have i:R=⟨clR (sumI sc.sC) 200 X.lo,clR (sumI sc.sC) 200 X.up⟩:=by rw[<-hR,h,za,hX];rfl
  subst i;have T:a=2:=t zOm;have hf:Zn qc (J++[.arr (cBd X)]) (.fn (.func 87) [] [.ip [.ptr p 0]]) eRel (fun r=>r=X.lo\/r=X.up) (fun r=>eRel (clR (sumI sc.sC) 200 r)):=
   ⟨_,_,rfl,fun r U m hm=>closM ((a0.le (MuLe.app (MuLe.refl _) _)).le hm) W r (by rcases U with rfl|rfl;exact o.lo;exact o.up) (by rcases U with rfl|rfl;exact o.la.trans T;exact o.ua.trans T)⟩
  simp[go_sem,hk,h];refine qe.mem (unM (b:=J.length) (x:=X) zSp hf) fun m2 t=>?_
  have g:=t _ _ (P [.arr (cBd X)]);have C:∀ c,(m2.set I.length c)[I.length]?=some c:=fun c=>qz (qh.1 g).1
  simp[go_sem,g,C];exact⟨MuLe.setN ((j.trans (MuLe.app (MuLe.refl _) _)).trans t) (qj _) _,.hf _ (z8 ⟨clR (sumI sc.sC) 200 X.lo,clR (sumI sc.sC) 200 X.up⟩)⟩
 .have i:R=⟨unR (clR (sumI sc.sC) 200 X.lo) (idR (sumI sc.sC)),unR (clR (sumI sc.sC) 200 X.up) (idR (sumI sc.sC))⟩:=by rw[<-hR,h,za,hX];rfl
  subst i;have T:a=2:=t zOm;have hf:Zn qc (J++[.arr (cBd X)]) (.fn (.func 89) [] [.ip [.ptr p 0]]) eRel (fun r=>r=X.lo\/r=X.up) (fun r=>eRel (unR (clR (sumI sc.sC) 200 r) (idR (sumI sc.sC)))):=
   ⟨_,_,rfl,fun r U m hm=>reflM ((a0.le (MuLe.app (MuLe.refl _) _)).le hm) W r (by rcases U with rfl|rfl;exact o.lo;exact o.up) (by rcases U with rfl|rfl;exact o.la.trans T;exact o.ua.trans T)⟩
  simp[go_sem,hk,h];refine qe.mem (unM (b:=J.length) (x:=X) zSp hf) fun m2 t=>?_
  have g:=t _ _ (P [.arr (cBd X)]);have C:∀ c,(m2.set I.length c)[I.length]?=some c:=fun c=>qz (qh.1 g).1
  simp[go_sem,g,C];exact⟨MuLe.setN ((j.trans (MuLe.app (MuLe.refl _) _)).trans t) (qj _) _,.hf _ (z8 ⟨unR (clR (sumI sc.sC) 200 X.lo) (idR (sumI sc.sC)),unR (clR (sumI sc.sC) 200 X.up) (idR (sumI sc.sC))⟩)⟩
theorem qrZ(W:NmOk ts sc bs)(env n x f)(o:n.sD=[x,f])(h:n.op=15)(t:IvM ts sc bs env x):IvM ts sc bs env n:=by
 intro I p ch bv full hN;have a1:∀ l,(I++l)[p]?=some (.arr (cNs ts sc bv (sumI sc.sC) ch)):=fun l=>zA hN.st l
 have g:∀ l,NsR (I++l) p ts sc bs ch bv:=fun l=>hN.le (MuLe.app (MuLe.refl _) l)
 have C:=zj ⟨ts,sc,bs⟩ env n;rw[C];refine yr.of ?_;refine qSW call41 func41 rfl {} ?_;have n1:¬n.op=1:=zOm;have n2:¬n.op=2:=zOm;have n3:¬n.op=3:=zOm;have n4:¬n.op=4:=zOm;generalize hR:opI ⟨ts,sc,bs⟩ env n.op n.name n.n (n.sD.map (ivl ⟨ts,sc,bs⟩ env))=R;rw[o]at hR;generalize hX:ivl ⟨ts,sc,bs⟩ env x=X at *
 have hz:∀ c:Cell,(I++[c])[I.length]?=some c:=fun c=>zSp
 simp[go_sem,n1,n2,n3,n4,o];refine fG [0,1,2,3,4,5,6,7,8] [(0,0,[]),(1,0,[]),(2,0,[]),(3,0,[]),(4,0,[]),(5,0,[]),(6,1,[]),(7,2,[0,3,5]),(8,1,[])] zKr zKr zSi ?_;simp[go_sem,o];have t:=t _ _ _ _ full (g [.arr cZ4]);rw[hX]at t;refine qe.mem t fun J P=>?_
 have i:=P _ _ (hz (.arr cZ4));have a2:=(g _).le P;have T:∀ l,(J++l)[I.length]?=some (.arr cZ4):=fun l=>zA i l
 have a3:=(qh.1 i).1;have U:∀ x c:Cell,((J++[x]).set I.length c)[I.length]?=some c:=fun x c=>qz zSo
 have j:MuLe I J:=(MuLe.app (MuLe.refl _) _).trans P;have a0:R=⟨⟨1,[]⟩,X.up⟩:=by rw[<-hR,h,za,hX];rfl
 subst a0;simp[go_sem,o,h,T,U];exact⟨MuLe.setN (MuLe.app j _) (qj _) _,Rd.aggs ⟨.hf _ (HF.sc _),.wk _ true _ (.hf _ (HF.lst fun r hr=>by simp at hr)),.hf _ (HF.sc _),.hf _ (zC _),trivial⟩⟩
theorem pq(W:NmOk ts sc bs)(env n x y a b)(hk:n.sD=[x,y])(ho:(6<=n.op/\n.op<=10)\/n.op=14)(hx:okI (sumI sc.sC) a (ivl ⟨ts,sc,bs⟩ env x))(hy:okI (sumI sc.sC) b (ivl ⟨ts,sc,bs⟩ env y))(ih:IvM ts sc bs env x)(aa:IvM ts sc bs env y):IvM ts sc bs env n:=by
 intro I p ch bv full hN;have aj:∀ l,(I++l)[p]?=some (.arr (cNs ts sc bv (sumI sc.sC) ch)):=fun l=>zA hN.st l
 have a2:∀ l,NsR (I++l) p ts sc bs ch bv:=fun l=>hN.le (MuLe.app (MuLe.refl _) l)
 have ab:=zj ⟨ts,sc,bs⟩ env n;rw[ab];refine yr.of ?_;refine qSW call41 func41 rfl {} ?_;have n1:¬n.op=1:=zOm;have n2:¬n.op=2:=zOm;have n3:¬n.op=3:=zOm;have n4:¬n.op=4:=zOm;generalize hR:opI ⟨ts,sc,bs⟩ env n.op n.name n.n (n.sD.map (ivl ⟨ts,sc,bs⟩ env))=R;rw[hk]at hR;have a3:=fun (I:Mu) (ch:Bool) (bv:AV) (h:NsR I p ts sc bs ch bv)=>aa _ _ _ _ full h
 generalize hX:ivl ⟨ts,sc,bs⟩ env x=X at *
 generalize hY:ivl ⟨ts,sc,bs⟩ env y=Y at *
 have hz:∀ c:Cell,(I++[c])[I.length]?=some c:=fun c=>zSp
 simp[go_sem,n1,n2,n3,n4,hk];refine fG [0,1,2,3,4,5,6,7,8] [(0,0,[]),(1,0,[]),(2,0,[]),(3,0,[]),(4,0,[]),(5,0,[]),(6,1,[]),(7,2,[0,3,5]),(8,1,[])] zKr zKr zSi ?_;simp[go_sem,hk];have ih:=ih _ _ _ _ full (a2 [.arr cZ4]);rw[hX]at ih;refine qe.mem ih fun m1 h1=>?_
 have a4:=h1 _ _ (hz (.arr cZ4));have a5:=(a2 _).le h1;have ad:∀ l,(m1++l)[I.length]?=some (.arr cZ4):=fun l=>zA a4 l
 have ak:=(qh.1 a4).1;have al:∀ x c:Cell,((m1++[x]).set I.length c)[I.length]?=some c:=fun x c=>qz zSo
 have a6:MuLe I m1:=(MuLe.app (MuLe.refl _) _).trans h1;have n5:¬n.op=5:=zOm;have ae:¬n.op=11:=zOm;have af:¬n.op=12:=zOm;have ag:¬n.op=13:=zOm;have ah:¬n.op=15:=zOm;simp[go_sem,hk,n5,ae,af,ag,ah];refine fG [0,1,2,3,4,5,6,7,8] [(0,0,[]),(1,0,[]),(2,0,[]),(3,0,[]),(4,0,[]),(5,0,[]),(6,1,[]),(7,2,[0,3,5]),(8,1,[])] zKr zKr zSi ?_;simp[go_sem,hk];refine qe.mem (a3 _ _ _ (a5.le (MuLe.app (MuLe.refl _) [.arr (cBd X)]))) fun J h2=>?_
 have a0:J[m1.length]?=some (.arr (cBd X)):=h2 _ _ zSp;have a7:=h2 _ _ (ad [.arr (cBd X)]);have a1:=(a5.le (MuLe.app (MuLe.refl _) [.arr (cBd X)])).le h2;have T:∀ l,(J++l)[I.length]?=some (.arr cZ4):=fun l=>zA a7 l
 have U:∀ l,(J++l)[m1.length]?=some (.arr (cBd X)):=fun l=>zA a0 l
 have ai:=(qh.1 a7).1;have a8:∀ x c:Cell,((J++[x]).set I.length c)[I.length]?=some c:=fun x c=>qz zSo
 have o:MuLe I J:=(a6.trans (MuLe.app (MuLe.refl _) _)).trans h2;have x1:=hx.lo.len W.S.n0 (zW1 W.h12);have x2:=hx.up.len W.S.n0 (zW1 W.h12);have y1:=hy.lo.len W.S.n0 (zW1 W.h12);have y2:=hy.up.len W.S.n0 (zW1 W.h12);have t:∀ r s:Rl,(r=X.lo/\s=Y.lo)\/(r=X.up/\s=Y.up)->GR (sumI sc.sC) r/\GR (sumI sc.sC) s:=fun r s h=>by
  rcases h with ⟨rfl,rfl⟩|⟨rfl,rfl⟩
  .exact ⟨hx.lo,hy.lo⟩
  .exact ⟨hx.up,hy.up⟩
 have P:∀ r s:Rl,GR (sumI sc.sC) r->GR (sumI sc.sC) s->r.ts.length<=8000/\s.ts.length<=8000:=fun r s g1 g2=>⟨g1.len W.S.n0 (zW1 W.h12),g2.len W.S.n0 (zW1 W.h12)⟩
 rcases (show n.op=6\/n.op=7\/n.op=9\/n.op=10\/n.op=8\/n.op=14 by omega) with h|h|h|h|h|h
 .have i:R=map2 (fun r s=>unR r s) X Y:=by rw[<-hR,h,za,za,hX,hY];rfl
  subst i;have hf:Qi qc (J++[.arr (cBd Y)]) (.fn (.func 90) [] []) eRel (fun r s=>(r=X.lo/\s=Y.lo)\/(r=X.up/\s=Y.up)) (fun r s=>eRel (unR r s)):=
   ⟨_,_,rfl,fun r s hr m hm=>by
    obtain⟨g1,g2⟩:=t r s hr;exact tA m (jV r s (zW1 (P r s g1 g2)) (zW1 (P r s g1 g2))) (.zk (qx r) (.zk (qx s) .nil))⟩
  simp[go_sem,hk,h];refine qe.mem (biM (b:=m1.length) (c:=J.length) (x:=X) (y:=Y) (zA a0 _) zSp hf) fun m3 h3=>?_
  have j:=h3 _ _ (T [.arr (cBd Y)]);have C:∀ c,(m3.set I.length c)[I.length]?=some c:=fun c=>qz (qh.1 j).1
  simp[go_sem,j,C];exact⟨MuLe.setN ((o.trans (MuLe.app (MuLe.refl _) _)).trans h3) (qj _) _,.hf _ (z8 (map2 (fun r s=>unR r s) X Y))⟩
 .have i:R=map2 (fun r s=>inR r s) X Y:=by rw[<-hR,h,za,za,hX,hY];rfl
  subst i;have hf:Qi qc (J++[.arr (cBd Y)]) (.fn (.func 92) [] []) eRel (fun r s=>(r=X.lo/\s=Y.lo)\/(r=X.up/\s=Y.up)) (fun r s=>eRel (inR r s)):=
   ⟨_,_,rfl,fun r s hr m hm=>by
    obtain⟨g1,g2⟩:=t r s hr;exact tA m (JW r s (zW1 (P r s g1 g2)) (zW1 (P r s g1 g2))) (.zk (qx r) (.zk (qx s) .nil))⟩
  simp[go_sem,hk,h];refine qe.mem (biM (b:=m1.length) (c:=J.length) (x:=X) (y:=Y) (zA a0 _) zSp hf) fun m3 h3=>?_
  have j:=h3 _ _ (T [.arr (cBd Y)]);have C:∀ c,(m3.set I.length c)[I.length]?=some c:=fun c=>qz (qh.1 j).1
  simp[go_sem,j,C];exact⟨MuLe.setN ((o.trans (MuLe.app (MuLe.refl _) _)).trans h3) (qj _) _,.hf _ (z8 (map2 (fun r s=>inR r s) X Y))⟩
 .have i:R=map2 (fun r s=>vE (uf (sumI sc.sC) r s)) X Y:=by rw[<-hR,h,za,za,hX,hY];rfl
  subst i;have hf:Qi qc (J++[.arr (cBd Y)]) (.fn (.func 94) [] [.ip [.ptr p 0]]) eRel (fun r s=>(r=X.lo/\s=Y.lo)\/(r=X.up/\s=Y.up)) (fun r s=>eRel (vE (uf (sumI sc.sC) r s))):=
   ⟨_,_,rfl,fun r s hr m hm=>by
    obtain⟨g1,g2⟩:=t r s hr;exact joinM ((a1.le (MuLe.app (MuLe.refl _) _)).le hm) W r s g1 g2 (aL W.S.n0 W.h12 g1 g2)⟩
  simp[go_sem,hk,h];refine qe.mem (biM (b:=m1.length) (c:=J.length) (x:=X) (y:=Y) (zA a0 _) zSp hf) fun m3 h3=>?_
  have j:=h3 _ _ (T [.arr (cBd Y)]);have C:∀ c,(m3.set I.length c)[I.length]?=some c:=fun c=>qz (qh.1 j).1
  simp[go_sem,j,C];exact⟨MuLe.setN ((o.trans (MuLe.app (MuLe.refl _) _)).trans h3) (qj _) _,.hf _ (z8 (map2 (fun r s=>vE (uf (sumI sc.sC) r s)) X Y))⟩
 .have i:R=map2 (fun r s=>vE (wh (sumI sc.sC) r s)) X Y:=by rw[<-hR,h,za,za,hX,hY];rfl
  subst i;have hf:Qi qc (J++[.arr (cBd Y)]) (.fn (.func 97) [] [.ip [.ptr p 0]]) eRel (fun r s=>(r=X.lo/\s=Y.lo)\/(r=X.up/\s=Y.up)) (fun r s=>eRel (vE (wh (sumI sc.sC) r s))):=
   ⟨_,_,rfl,fun r s hr m hm=>by
    obtain⟨g1,g2⟩:=t r s hr;exact prodM ((a1.le (MuLe.app (MuLe.refl _) _)).le hm) W r s g1 g2⟩
  simp[go_sem,hk,h];refine qe.mem (biM (b:=m1.length) (c:=J.length) (x:=X) (y:=Y) (zA a0 _) zSp hf) fun m3 h3=>?_
  have j:=h3 _ _ (T [.arr (cBd Y)]);have C:∀ c,(m3.set I.length c)[I.length]?=some c:=fun c=>qz (qh.1 j).1
  simp[go_sem,j,C];exact⟨MuLe.setN ((o.trans (MuLe.app (MuLe.refl _) _)).trans h3) (qj _) _,.hf _ (z8 (map2 (fun r s=>vE (wh (sumI sc.sC) r s)) X Y))⟩
 .have i:R=⟨diR X.lo Y.up,diR X.up Y.lo⟩:=by rw[<-hR,h,za,za,hX,hY];rfl
  subst i;simp[go_sem,hk,h];refine tR zKr ?_;simp[go_sem,U];refine tU (Yp X.lo Y.up zOm zOm) (.zk (qx _) (.zk (qx _) .nil)) ?_;simp[go_sem,U];refine tU (Yp X.up Y.lo zOm zOm) (.zk (qx _) (.zk (qx _) .nil)) ?_;simp[go_sem,T,a8];exact⟨MuLe.setN (MuLe.app o _) (qj _) _,.hf _ (z8 ⟨diR X.lo Y.up,diR X.up Y.lo⟩)⟩
 .have i:R=⟨unR Y.lo (vy (sumI sc.sC) X.lo Y.up),unR Y.up (vy (sumI sc.sC) X.up Y.lo)⟩:=by rw[<-hR,h,za,za,hX,hY];rfl
  subst i;have a9:NsR (J++[.arr (cBd Y)]) p ts sc bs ch bv:=a1.le (MuLe.app (MuLe.refl _) _);have k1:=(cN (b:=Y.up) hx.lo).len W.S.n0 (zW1 W.h12);have k2:=(cN (b:=Y.lo) hx.up).len W.S.n0 (zW1 W.h12);simp[go_sem,hk,h];refine tR zKr ?_;simp[go_sem,U];refine fX (qe8 ts sc W.S.g W.S.n0 W.h12 bs ch (sumI sc.sC) X.lo Y.up hx.lo hy.up) ⟨a9.rd,.hf _ (qx _),.hf _ (qx _),trivial⟩ ?_;simp[go_sem,U];refine tU (jV Y.lo _ zOm zOm) (.zk (qx _) (.zk (qx _) .nil)) ?_;simp[go_sem,U];refine fX (qe8 ts sc W.S.g W.S.n0 W.h12 bs ch (sumI sc.sC) X.up Y.lo hx.up hy.lo) ⟨a9.rd,.hf _ (qx _),.hf _ (qx _),trivial⟩ ?_;simp[go_sem,U];refine tU (jV Y.up _ zOm zOm) (.zk (qx _) (.zk (qx _) .nil)) ?_;simp[go_sem,T,a8];exact⟨MuLe.setN (MuLe.app o _) (qj _) _,.hf _ (z8 ⟨unR Y.lo (vy (sumI sc.sC) X.lo Y.up),unR Y.up (vy (sumI sc.sC) X.up Y.lo)⟩)⟩
theorem qr0(W:NmOk ts sc bs)(env)(t:env.length<=1000000){A}(I:∀ nm a,A nm=some a->okI (sumI sc.sC) a (zr ⟨ts,sc,bs⟩ env nm)){n a}(h:ArN A n a):IvM ts sc bs env n:=by
 have ok:∀{x:Nd}{b:Int},ArN A x b->okI (sumI sc.sC) b (ivl ⟨ts,sc,bs⟩ env x):=fun o=>Ze (σ:=⟨ts,sc,bs⟩) W.S.n0 I o
 induction h with
 |name g h=>exact Ww W env t _ (.inl g)
 |none g h=>exact Ww W env t _ (.inr (.inl g))
 |univ g=>exact Ww W env t _ (.inr (.inr (.inl g)))
 |iden g=>exact Ww W env t _ (.inr (.inr (.inr g)))
 |prime g j h C=>exact qfA W env _ _ _ j (.inl g) (ok h) (fun h=>zOm) C
 |bin g j h C=>exact qfA W env _ _ _ j (.inr g) (ok h) (fun _=>rfl) C
 |alike g j o p i l=>exact pq W env _ _ _ _ _ j zOm (ok o) (ok p) i l
 |join g j o p h i l=>exact pq W env _ _ _ _ _ j zOm (ok o) (ok p) i l
 |prod g j o p h i l=>exact pq W env _ _ _ _ _ j zOm (ok o) (ok p) i l
 |compr g j o i=>exact qrZ W env _ _ _ j g i
end O6
set_option maxHeartbeats 1000000
namespace O7
open P1 E1 E2 EO EQ ER EY F3 KA KB O0 O4 KE
section
variable {bv:AV}{bs:List Bd}{mu:Mu}{p:Nat}{ts:TS}
abbrev cfV:AV := .ifc 183 (.agg [])
theorem qr1:HF cfV:=HF.ifc (HF.agg fun c g=>by simp at g)
theorem chkC(ok):jS qc 191 [aB ok] (if ok then .ret (.tup []) else .pan cfV):=by
 refine vd.of_sound ?_;refine qSW call191 func191 rfl {} ?_;cases ok
 .simp [go_sem]
  exact⟨_,_,⟨rfl,rfl⟩,.hf _ qr1⟩
 .simp [go_sem]
  exact .hf _ (HF.tup zSp)
structure NsW (mu:Mu) (p:Nat) (bv:AV) (ts:TS) (sc:Sc) (bs:List Bd) (ch:Bool):Prop where
 st:mu[p]?=some (.arr (cNs ts sc bv (sumI sc.sC) ch))
 ow:(bv = .lst true []/\bs=[])\/∃ q,bv = .sl q 4 0 bs.length/\mu[q]?=some (.arr (bs.map cBd).flatten)/\q≠p
theorem NsW.r{sc g}(h:NsW mu p bv ts sc bs g):NsR mu p ts sc bs g bv:=⟨h.st,by
 rcases h.ow with ⟨rfl,rfl⟩|⟨q,rfl,i,_⟩
 .exact .inr (.inl rfl)
 .exact .inr (.inr ⟨q,zSp,i⟩)⟩
theorem NsW.le{mu' sc g}(h:NsW mu p bv ts sc bs g)(i:MuLe mu mu'):NsW mu' p bv ts sc bs g:=⟨i _ _ h.st,by
 rcases h.ow with h|⟨q,j,l,o⟩
 .exact .inl h
 .exact .inr ⟨q,j,i _ _ l,o⟩⟩
def But2(p:Nat)(bv:AV)(mu m:Mu):Prop:=mu.length<=m.length/\∀ i,i<mu.length->i≠p->qu bv≠some i->m[i]?=mu[i]?
theorem But2.trans{a b c}(h:But2 p bv a b)(k:But2 p bv b c):But2 p bv a c:=⟨Nat.le_trans h.1 k.1,fun i g j l=>by
 rw[k.2 i (Nat.lt_of_lt_of_le g h.1) j l];exact h.2 i g j l⟩
theorem tN{a b}(h:MuLe a b):But2 p bv a b:=⟨MuLe.len h,fun i g _ _=>by
 rw[h i a[i] (qB g),qB g]⟩
structure EndN (p:Nat) (bv:AV) (ts:TS) (sc:Sc) (mu:Mu) (r:Br) (e:AEnd) (m:Mu):Prop where
 but:But2 p bv mu m
 fin:match r with
  |some (bs,ch)=>e = .ret (.tup [])/\NsW m p bv ts sc bs ch
  |none=>e = .pan cfV
theorem qr2{sc ch}(hN:NsW mu p bv ts sc bs ch)(i)(I:i<bs.length)(P Q){a}(h0:0<=sumI sc.sC)(a7:sumI sc.sC<=12)(hb:okI (sumI sc.sC) a bs[i])(hP:GR (sumI sc.sC) P)(pa:P.ar=a)(a2:GR (sumI sc.sC) Q) :
  qv qc 242 [.ptr p 0,aI i,eRel P,eRel Q] mu (EndN p bv ts sc mu (wu i P Q bs ch)):=by
 have l1:=hb.lo.len h0 zOm;have l2:=hb.up.len h0 zOm;have l3:=hP.len h0 zOm;have l4:=a2.len h0 zOm;have l5:=(aM hb.lo hP (by rw[hb.la,pa])).len h0 zOm;have l6:(inR bs[i].up Q).ts.length<=8000:=Nat.le_trans (List.length_filter_le _ _) l2;obtain⟨J,a3⟩:=hN;rcases a3 with ⟨rfl,rfl⟩|⟨q,rfl,hq,T⟩
 .simp at I
 have a0:=qe9 I;have o:i*4+4<=(bs.map cBd).flatten.length:=by rw[ym (sz:=4) (Qj bs).ok,yu];omega
 generalize hR:wu i P Q bs ch=R;generalize hY:(bs.map cBd).flatten=Y at *
 refine qSW call242 func242 rfl {} ?_;have t:(Y.drop (i*4)).take 2=cRel bs[i].lo:=by
  have:=congrArg (List.take 2) a0;rw[List.take_take]at this;exact this
 have C:(Y.drop (i*4+2)).take 2=cRel bs[i].up:=by
  have:=congrArg (List.drop 2) a0;rw[List.drop_take,List.drop_drop]at this;exact this
 have e0:i*4+2<=Y.length:=zOm;have hS:∀ l,(mu++l)[p]?=some (.arr (cNs ts sc (.sl q 4 0 bs.length) (sumI sc.sC) ch)):=fun l=>zA J l
 have hQ:∀ l,(mu++l)[q]?=some (.arr Y):=fun l=>zA hq l
 simp[go_sem];refine fG [0,1,2,3,4,5,6,7,8,10,11,12,13,14,15,16,17,18,9,19,20,21,22] [(0,0,[]),(1,0,[]),(2,0,[]),(3,0,[]),(4,0,[]),(5,0,[]),(6,0,[]),(7,0,[]),(8,0,[]),(10,0,[]),(11,0,[]),(12,0,[]),(13,0,[]),(14,0,[]),(15,0,[]),(16,0,[]),(17,0,[]),(18,0,[]),(9,1,[13,17,18]),(19,1,[]),(20,0,[]),(21,2,[3,7,8,13,17,18]),(22,1,[])] zKr zKr zSi ?_;simp[go_sem,J,hq,I,t,C,e0,o];refine tU (jV bs[i].lo P zOm zOm) (.zk (qx _) (.zk (qx _) .nil)) ?_;simp[go_sem,J,hq,I,t,C,e0,o];refine tU (JW bs[i].up Q zOm zOm) (.zk (qx _) (.zk (qx _) .nil)) ?_;simp[go_sem,J,hq,I,t,C,e0,o,hS,hQ];have g:R=if sub1 (unR bs[i].lo P) (inR bs[i].up Q)=true then (if unR bs[i].lo P=bs[i].lo/\inR bs[i].up Q=bs[i].up then some (bs,ch) else some (bs.set i ⟨unR bs[i].lo P,inR bs[i].up Q⟩,true)) else none:=by
  rw[<-hR];unfold wu;simp only[zT,qB I,Option.getD_some]
 have cI:=inU (unR bs[i].lo P) (inR bs[i].up Q) zOm zOm;have a4:=E4.mL (unR bs[i].lo P) bs[i].lo zOm;have a5:=E4.mL (inR bs[i].up Q) bs[i].up zOm;change qg qc 55 _ (aB (sub1 (unR bs[i].lo P) (inR bs[i].up Q))) at cI;generalize unR bs[i].lo P=L at *
 generalize inR bs[i].up Q=U at *
 refine tU cI (.zk (qx _) (.zk (qx _) .nil)) ?_;cases hs:sub1 L U with
 |false =>
  rw[hs,if_neg zSp]at g;subst g;simp[go_sem];refine aK (chkC false) (.zs .nil) ?_;simp[go_sem];exact⟨tN (MuLe.app (MuLe.refl _) _),rfl⟩
 |true =>
 rw[hs,if_pos rfl]at g;simp[go_sem];refine fQ (chkC true) (.zs .nil) (fun r e=>?_) (fun r e=>by cases e);cases e;simp[go_sem];refine tR zKr ?_;simp[go_sem,I,t,C,e0,o,hS,hQ];refine tU a4 (.zk (qx _) (.zk (qx _) .nil)) ?_;have a8:=(qh.1 J).1;have a9:=(qh.1 hq).1;have a1:∀ x c:Cell,((mu++[x]).set q c)[p]?=some (.arr (cNs ts sc (.sl q 4 0 bs.length) (sumI sc.sC) ch)):=fun x c=>by rw[zH T];exact hS _
 have a6:((bs.set i ⟨L,U⟩).map cBd).flatten=putCells Y (i*4) (cBd ⟨L,U⟩):=by
  rw[<-hY,List.map_set,Jq (bs.map cBd) i (cBd ⟨L,U⟩) (Qj bs).ok rfl (zUs I)]
 have fin:∀ x d:Cell,d = .arr (cNs ts sc (.sl q 4 0 bs.length) (sumI sc.sC) true)->EndN p (.sl q 4 0 bs.length) ts sc mu (some (bs.set i ⟨L,U⟩,true)) (.ret (.tup [])) (((mu++[x]).set q (.arr (putCells Y (i*4) (cBd ⟨L,U⟩)))).set p d):=fun x d hd=>by
  subst hd;refine⟨⟨zSp,fun j hj h1 h2=>?_⟩,rfl,?_,.inr ⟨q,by rw[List.length_set],?_,T⟩⟩
  .rw [zH (fun e=>h1 e.symm),zH (fun e=>h2 (by rw[<-e];rfl)),qG hj]
  .rw [qz zSo]
  .rw [zH (fun e=>T e.symm),qz zSo,a6]
 by_cases c1:L=bs[i].lo
 .have aa:=c1
  simp[go_sem,c1,I,t,C,e0,o,hS,hQ];refine tU a5 (.zk (qx _) (.zk (qx _) .nil)) ?_;by_cases c2:U=bs[i].up
  .rw [if_pos ⟨c1,c2⟩]at g
   subst g;simp[go_sem,c2];exact⟨tN (MuLe.app (MuLe.refl _) _),rfl,hS _,.inr ⟨q,rfl,hY ▸ hQ _,T⟩⟩
  rw[if_neg (fun h=>c2 h.2)]at g;simp[go_sem,c2];rw[<-c1]at *
  refine tR zKr ?_;simp[go_sem,I,o,hS,hQ,a1];subst g;have:=fin (.arr (cBd ⟨L,U⟩)) _ rfl;simpa[putCells] using this
 .rw [if_neg (fun h=>c1 h.1)]at g
  simp[go_sem,c1,I,t,C,e0,o,hS,hQ];refine tR zKr ?_;simp[go_sem,I,o,hS,hQ,a1];subst g;have:=fin (.arr (cBd ⟨L,U⟩)) _ rfl;simpa[putCells] using this
end
end O7
set_option maxHeartbeats 1000000
namespace O9
open Y1 Y9 Y10 P1 YF E1 E2 E4 EO ER ET EY F3 F6 KA KB O0 O2 O4 KE O6 O7
section
variable {bv:AV}{A:tZ->Option Int}{a:Int}{mu:Mu}{p:Nat}{ts:TS}
theorem pt{n}(h:ArN A n a)(l:n.op=6\/n.op=7\/n.op=8):∃ x y,n.sD=[x,y]/\ArN A x a/\ArN A y a:=by
 cases h with
 |alike _ g i j=>exact⟨_,_,g,i,j⟩
 |_=>omega
theorem qr3{n}(h:ArN A n a)(j:n.op=11):a=2/\∃ x,n.sD=[x]/\ArN A x 2:=by
 cases h with
 |bin _ g i=>exact⟨rfl,_,g,i⟩
 |_=>omega
theorem qr4{n}(h:ArN A n a)(i:n.op=1):A n.name=some a:=by
 cases h with
 |name _ g=>exact g
 |_=>omega
structure NwC (ts:TS) (sc:Sc):Prop where
 W:NwS ts sc
 nf:ts.sA.length<=1000000
 sz:∀ x,x∈ts.sS->x.1.size<=4611686018427387904
theorem NwC.nm{sc}(C:NwC ts sc){bs}(h:BdS ts (sumI sc.sC) bs):NmOk ts sc bs:=⟨C.W.s,C.W.h12,h.b.1,C.nf,C.sz⟩
theorem NwC.iv{sc}(C:NwC ts sc){bs}(h:BdS ts (sumI sc.sC) bs){n a}(g:ArN (arT ts) n a):IvM ts sc bs [] n:=qr0 (C.nm h) [] zSp (C.W.nm h) g
theorem EndN.of{sc M r e m}(h:But2 p bv mu M)(k:EndN p bv ts sc M r e m):EndN p bv ts sc mu r e m:=⟨h.trans k.but,k.fin⟩
theorem EndN.ret{sc r v m}(k:EndN p bv ts sc mu r (.ret v) m):∃ bs g,r=some (bs,g)/\v = .tup []/\But2 p bv mu m/\NsW m p bv ts sc bs g:=by
 obtain⟨i,h⟩:=k;cases r with
 |none=>cases h
 |some q =>
  obtain⟨bs,g⟩:=q;obtain⟨e,h⟩:=h;cases e;exact⟨bs,g,rfl,rfl,i,h⟩
theorem EndN.pan{sc r v m}(k:EndN p bv ts sc mu r (.pan v) m):r=none/\v=cfV/\But2 p bv mu m:=by
 obtain⟨g,h⟩:=k;cases r with
 |none=>cases h;exact⟨rfl,rfl,g⟩
 |some q=>obtain⟨j,i⟩:=q;cases h.1
theorem nar1U(f n):qg qc 241 [.agg (jo f),.ip (cNd n)] (aB (decide (f.name=n.name))):=by
 refine qSV call241 func241 rfl ?_;simp[go_sem,jH];exact .zsc _
def WWs:List AV->List AV->Prop
 | [],[]=>True
 |x :: p,y :: l=>(x=y\/WK x y)/\WWs p l
 |_,_=>False
theorem WWs.get:∀{xs ys},WWs xs ys->ys.length=xs.length/\∀(k:Nat) x y,xs[k]?=some x->ys[k]?=some y->x=y\/WK x y
 | [],[],_=>⟨rfl,fun k x y h=>by simp at h⟩
 |x :: xs,y :: ys,h=>by
  obtain⟨j,l⟩:=h;obtain⟨o,p⟩:=WWs.get l;refine⟨zP1 o,fun k a b g i=>?_⟩;cases k with
  |zero=>simp at g i;subst g;subst i;exact j
  |succ k=>exact p k a b (zUs g) (zUs i)
 | [],_ :: _,h=>h.elim
 |_ :: _,[],h=>h.elim
theorem tM{P f args args' R}(p:WWs args args')(h:qv P f args' mu R):qv P f args mu R:=by
 obtain⟨g,t⟩:=p.get;refine⟨h.1,fun G w C s i=>h.2 G w C s ⟨by rw[g];exact i.1,fun k y j=>?_⟩⟩;have l:k<args.length:=by rw[<-g];exact(qh.1 j).1
 have o:=i.2 k args[k] (qB l);rcases t k _ y (qB l) j with e|e
 .rw [<-e];exact o
 .exact VRel.mono (G:=⟨G.imm,[]⟩) (G':=G) ⟨fun b h=>h,fun b x h=>by simp at h⟩ (Ext.refl _ _) (e G w.heap _ o)
theorem pu{n x y m}(g:n.sD=[x,y])(i:szN n<=m+1):szN x<=m/\szN y<=m:=by
 have j:=zf (n:=n) (k:=x) (by rw[g];simp);have l:=zf (n:=n) (k:=y) (by rw[g];simp);omega
def NarM(ts:TS)(sc:Sc)(n:Nd)(a:Int):Prop:=∀(I:Mu)(p:Nat)(i:AV)(j:List Bd)(l g:Bool)(P Q:Rl),NsW I p i ts sc j l->BdS ts (sumI sc.sC) j->GR (sumI sc.sC) P->P.ar=a->GR (sumI sc.sC) Q->Q.ar=a ->
 qv qc 193 [.ptr p 0,eNd n,eRel P,eRel Q,aB g] I (EndN p i ts sc I (narN ts sc g n P Q j l))
theorem narM{sc}(C:NwC ts sc):∀ m n a,szN n<=m->ArN (arT ts) n a->NarM ts sc n a
 | 0,n,a,hm,_=>by obtain⟨op,nm,i,ks,q⟩:=n;simp[szN]at hm
 |m+1,n,a,hm,hn=>by
  intro I p bv j ch g P Q hN hb hP pa hQ qa;have h0:=C.W.s.n0;have a3:=C.W.h12;have hI:=C.W.ok hb hn;have cI:=C.iv hb hn;have l1:=hI.lo.len h0 zOm;have l2:=hI.up.len h0 zOm;have l3:=hP.len h0 zOm;have l4:=hQ.len h0 zOm;generalize l:narN ts sc g n P Q j ch=R;rw[vB]at l;have ai:=fun (I:Mu) (bv:AV) (h:NsR I p ts sc j ch bv)=>cI _ _ _ _ true h
  generalize hX:ivl ⟨ts,sc,j⟩ [] n=X at *
  refine qSW call193 func193 rfl {} ?_;simp[go_sem];refine qe.mem (ai _ _ hN.r) fun m1 h1=>?_
  have ab:=hN.le h1;simp[go_sem];have cA:=inU P X.up zOm zOm;have cB:=inU X.lo Q zOm zOm;change qg qc 55 _ (aB (sub1 P X.up)) at cA;change qg qc 55 _ (aB (sub1 X.lo Q)) at cB;refine tU cA (.zk (qx _) (.zk (qx _) .nil)) ?_;have a5:EndN p bv ts sc I none (.pan cfV) (m1++[.arr (cBd X)]):=⟨tN (h1.trans (MuLe.app (MuLe.refl _) _)),rfl⟩;cases a6:sub1 P X.up with
  |false =>
   rw[a6,if_neg zSp]at l;subst l;simp[go_sem];refine aK (chkC false) (.zs .nil) ?_;simp[go_sem];exact a5
  |true =>
  simp[go_sem];refine tU cB (.zk (qx _) (.zk (qx _) .nil)) ?_;cases ad:sub1 X.lo Q with
  |false =>
   rw[a6,ad,if_neg zSp]at l;subst l;simp[go_sem];refine aK (chkC false) (.zs .nil) ?_;simp[go_sem];exact a5
  |true =>
  simp only[a6,ad,Bool.and_self,if_true]at l;simp[go_sem];refine fQ (chkC true) (.zs .nil) (fun r e=>?_) (fun r e=>by cases e);cases e;have ae:=hI.lo.ar1;have a7:=hI.lo.ar3;have aj:NsW (m1++[.arr (cBd X)]) p bv ts sc j ch:=ab.le (MuLe.app (MuLe.refl _) _);simp[go_sem];refine fX (allF ts sc j ch (sumI sc.sC) h0 a3 X.lo.ar zOm a7) ⟨aj.r.rd,.hf _ (HF.sc _),trivial⟩ ?_;simp[go_sem];have hM:NsW (m1++[.arr (cBd X),.arr (cRel (KA.allN (sumI sc.sC) X.lo.ar))]) p bv ts sc j ch:=ab.le (MuLe.app (MuLe.refl _) _);have hA:(m1++[.arr (cBd X),.arr (cRel (KA.allN (sumI sc.sC) X.lo.ar))])[m1.length+1]?=some (.arr (cRel (KA.allN (sumI sc.sC) X.lo.ar))):=zSp;have o:But2 p bv I (m1++[.arr (cBd X),.arr (cRel (KA.allN (sumI sc.sC) X.lo.ar))]):=tN (h1.trans (MuLe.app (MuLe.refl _) _));have T:=Qc (n:=sumI sc.sC) (a:=X.lo.ar) h0 ae a7;generalize KA.allN (sumI sc.sC) X.lo.ar=AL at *
  generalize az:(m1++[Cell.arr (cBd X),.arr (cRel AL)])=M at *
  have af:I.length<=m1.length+1:=zW1 (MuLe.len h1);have ag:∀ i,I.length<=i->i≠p/\qu bv≠some i:=fun i hi=>by
   have hp:=(qh.1 hN.st).1;refine⟨zOm,fun e=>?_⟩;rcases hN.ow with ⟨rfl,_⟩|⟨q,rfl,hq,_⟩
   .cases e
   .cases e
    have:=(qh.1 hq).1;omega
  generalize m1.length+1=bA at *
  have keep:∀{m2:Mu}{i:Nat}{c:Cell},But2 p bv M m2->I.length<=i->M[i]?=some c->m2[i]?=some c:=fun {m2 i c} hb hi hc=>by
   obtain⟨f1,f2⟩:=ag i hi;rw[hb.2 i (qh.1 hc).1 f1 f2];exact hc
  by_cases o1:n.op=1
  .rw [if_pos o1]at l
   have hC:HF (.ip (cNd n)):=HF.ip (y8 n);have hF:HF (.fn (.func 241) [] [.ip (cNd n)]):=HF.fn (fun c hc=>by simp at hc) (fun c hc=>by simp at hc;subst hc;exact hC);have cX:=idxFl false ts.sA (.fn (.func 241) [] [.ip (cNd n)]) (fun f=>decide (f.name=n.name)) ⟨_,[],_,rfl,fun f hf=>⟨[.agg (jo f),.ip (cNd n)],nar1U f n,.zk (HF.agg (Xr f)) (.zk hC .nil)⟩⟩ (zW1 C.nf);simp[go_sem,o1,hM.st];refine tU cX (.zk (ZH _) (.zk hF .nil)) ?_;cases hi:idxF ts.sA n.name with
   |none =>
    have a8:idxI ts.sA (fun f=>decide (f.name=n.name)) = -1:=by unfold idxI;rw[show ts.sA.findIdx? (fun f=>decide (f.name=n.name))=none from hi]
    rw[hi]at l;replace l:some (j,ch)=R:=l;subst l;rw[a8];simp[go_sem];exact⟨o,rfl,hM⟩
   |some i =>
    have a8:idxI ts.sA (fun f=>decide (f.name=n.name))=i:=by unfold idxI;rw[show ts.sA.findIdx? (fun f=>decide (f.name=n.name))=some i from hi]
    obtain⟨ak,al,a9,ea⟩:=UQ C.W hb (qr4 hn o1) hi;rw[hi]at l;simp only[zT,List.getElem?_map,qB a9,Option.map_some,Option.getD_some]at l;rw[a8];have hf:=qr2 hM i ak P Q h0 a3 al hP pa hQ;cases g with
    |true =>
     rw[Bool.true_or,if_pos rfl]at l;rw[l]at hf;simp[go_sem];refine fZ hf (fun r m h=>?_) (fun r m h=>?_)
     .obtain ⟨an,ao,_,U,_,_⟩:=EndN.ret h
      subst U;simp[go_sem];exact EndN.of o h
     .simp [go_sem]
      exact EndN.of o h
    |false =>
     rw[Bool.false_or]at l;cases hv:ts.sA[i].var with
     |true =>
      rw[hv]at l;replace l:some (j,ch)=R:=l;subst l;simp[go_sem,hM.st,a9,hv];exact⟨o,rfl,hM⟩
     |false =>
      rw[hv,Bool.not_false,if_pos rfl]at l;rw[l]at hf;simp[go_sem,hM.st,a9,hv];refine fZ hf (fun r m h=>?_) (fun r m h=>?_)
      .obtain ⟨an,ao,_,U,_,_⟩:=EndN.ret h
       subst U;simp[go_sem];exact EndN.of o h
      .simp [go_sem]
       exact EndN.of o h
  rw[if_neg o1]at l;by_cases o6:n.op=6
  .rw [if_pos o6]at l
   obtain⟨x,y,J,hx,hy⟩:=pt hn (.inl o6);rw[J,YI]at l;have s1:=pu J hm;have aq:=C.W.ok hb hx;have au:=C.W.ok hb hy;have ix:=C.iv hb hx;have iy:=C.iv hb hy;have lx:=aq.up.len h0 zOm;have ly:=au.up.len h0 zOm;have dP:∀ z:Rl,(⟨P.ar,(diR P z).ts⟩:Rl)=diR P z:=fun z=>rfl
   simp only[za,List.map_nil,List.getD_cons_zero,List.getD_cons_succ,dP]at l;have fx:=fun (I:Mu) (bv:AV) (h:NsR I p ts sc j ch bv)=>ix _ _ _ _ true h
   have fy:=fun (I:Mu) (bv:AV) (h:NsR I p ts sc j ch bv)=>iy _ _ _ _ true h
   generalize b0:ivl ⟨ts,sc,j⟩ [] x=XA at *
   generalize b2:ivl ⟨ts,sc,j⟩ [] y=XB at *
   simp[go_sem,o1,o6,J];refine fG [0,1,2,3,4,7,8,9,10,11,5,6,12,13,14,15,16,17] [(0,0,[]),(1,0,[]),(2,0,[]),(3,0,[]),(4,0,[]),(7,0,[]),(8,0,[]),(9,0,[]),(10,0,[]),(11,0,[]),(5,1,[9,11]),(6,0,[]),(12,1,[]),(13,0,[]),(14,2,[2,4,9,11]),(15,2,[2,4,9,11]),(16,1,[]),(17,1,[])] zKr zKr zSi ?_;simp[go_sem,J];refine qe.mem (fx _ _ hM.r) fun m3 h3=>?_
   simp[go_sem,J];refine qe.mem (fy _ _ (hM.le h3).r) fun m4 h4=>?_
   simp[go_sem,J];have av:NsW (m4++[.arr (cRel XA.up),.arr (cRel XB.up)]) p bv ts sc j ch:=((hM.le h3).le h4).le (MuLe.app (MuLe.refl _) _);have aa:But2 p bv I (m4++[.arr (cRel XA.up),.arr (cRel XB.up)]):=o.trans (tN ((h3.trans h4).trans (MuLe.app (MuLe.refl _) _)));have ga:(m4++[Cell.arr (cRel XA.up),Cell.arr (cRel XB.up)])[m4.length]?=some (.arr (cRel XA.up)):=zSp;have gb:(m4++[Cell.arr (cRel XA.up),Cell.arr (cRel XB.up)])[m4.length+1]?=some (.arr (cRel XB.up)):=zSp;have aw:I.length<=m4.length:=by have:=o.1;have:=MuLe.len h3;have:=MuLe.len h4;omega
   generalize b3:(m4++[Cell.arr (cRel XA.up),Cell.arr (cRel XB.up)])=M5 at *
   generalize m4.length=ba at *
   have c1:=narM C m x a s1.1 hx M5 p bv j ch g (diR P XB.up) Q av hb (cY hP) pa hQ qa;have st1:=fun (b1:List Bd) (k1:Bool) (e:narN ts sc g x (diR P XB.up) Q j ch=some (b1,k1))=>(yZ C.W hx g _ Q j b1 ch k1 hb (cY hP) pa hQ qa e).v
   refine fG [0,1,2,3,4,5,6,8,9,7,10] [(0,0,[]),(1,0,[]),(2,0,[]),(3,0,[]),(4,0,[]),(5,0,[]),(6,0,[]),(8,0,[]),(9,0,[]),(7,1,[2,4,8]),(10,1,[])] zKr zKr zSi ?_;simp[go_sem,J,gb];refine tU (Yp P XB.up zOm zOm) (.zk (qx _) (.zk (qx _) .nil)) ?_;simp[go_sem,J,gb];refine fZ c1 (fun r m6 h=>?_) (fun r m6 h=>?_)
   .obtain ⟨b1,k1,e1,U,t,a0⟩:=EndN.ret h
    subst U;rw[e1]at l;replace l:narN ts sc g y (diR P XA.up) Q b1 k1=R:=l;have ah:m6[ba]?=some (.arr (cRel XA.up)):=by
     obtain⟨f1,f2⟩:=ag ba aw;rw[t.2 ba (qh.1 ga).1 f1 f2];exact ga
    have c2:=narM C m y a s1.2 hy m6 p bv b1 k1 g (diR P XA.up) Q a0 (st1 b1 k1 e1) (cY hP) pa hQ qa;simp[go_sem];refine fG [0,1,2,3,4,5,6,8,9,7,10] [(0,0,[]),(1,0,[]),(2,0,[]),(3,0,[]),(4,0,[]),(5,0,[]),(6,0,[]),(8,0,[]),(9,0,[]),(7,1,[2,4,8]),(10,1,[])] zKr zKr zSi ?_;simp[go_sem,J,ah];refine tU (Yp P XA.up zOm zOm) (.zk (qx _) (.zk (qx _) .nil)) ?_;simp[go_sem,J,ah];refine fZ c2 (fun r m7 h=>?_) (fun r m7 h=>?_)
    .obtain ⟨_,_,_,U,_,_⟩:=EndN.ret h
     subst U;rw[l]at h;simp[go_sem];exact EndN.of (aa.trans t) h
    .rw [l]at h
     simp[go_sem];exact EndN.of (aa.trans t) h
   .obtain ⟨e1,U,t⟩:=EndN.pan h
    rw[e1]at l;subst l;subst U;simp[go_sem];exact⟨aa.trans t,rfl⟩
  rw[if_neg o6]at l;by_cases o7:n.op=7
  .rw [if_pos o7]at l
   obtain⟨x,y,J,hx,hy⟩:=pt hn (.inr (.inl o7));rw[J,YI]at l;have s1:=pu J hm;have c1:=narM C m x a s1.1 hx M p bv j ch g P AL hM hb hP pa T.1 (T.2.trans hI.la);have st1:=fun (b1:List Bd) (k1:Bool) (e:narN ts sc g x P AL j ch=some (b1,k1))=>(yZ C.W hx g P AL j b1 ch k1 hb hP pa T.1 (T.2.trans hI.la) e).v
   simp[go_sem,o1,o6,o7,J];refine fG [0,1,2,3,4,5,6,7,8] [(0,0,[]),(1,0,[]),(2,0,[]),(3,0,[]),(4,0,[]),(5,0,[]),(6,0,[]),(7,0,[]),(8,1,[])] zKr zKr zSi ?_;simp[go_sem,J,hA];refine fZ c1 (fun r m2 h=>?_) (fun r m2 h=>?_)
   .obtain ⟨b1,k1,e1,U,t,a0⟩:=EndN.ret h
    subst U;rw[e1]at l;replace l:narN ts sc g y P AL b1 k1=R:=l;have a4:=keep t af hA;have c2:=narM C m y a s1.2 hy m2 p bv b1 k1 g P AL a0 (st1 b1 k1 e1) hP pa T.1 (T.2.trans hI.la);simp[go_sem];refine fG [0,1,2,3,4,5,6,7,8] [(0,0,[]),(1,0,[]),(2,0,[]),(3,0,[]),(4,0,[]),(5,0,[]),(6,0,[]),(7,0,[]),(8,1,[])] zKr zKr zSi ?_;simp[go_sem,J,a4];refine fZ c2 (fun r m3 h=>?_) (fun r m3 h=>?_)
    .obtain ⟨_,_,_,U,_,_⟩:=EndN.ret h
     subst U;rw[l]at h;simp[go_sem];exact EndN.of (o.trans t) h
    .rw [l]at h
     simp[go_sem];exact EndN.of (o.trans t) h
   .obtain ⟨e1,U,t⟩:=EndN.pan h
    rw[e1]at l;subst l;subst U;simp[go_sem];exact⟨o.trans t,rfl⟩
  rw[if_neg o7]at l;by_cases o8:n.op=8
  .rw [if_pos o8]at l
   obtain⟨x,y,J,hx,hy⟩:=pt hn (.inr (.inr o8));rw[J,Ko]at l;have s1:=pu J hm;have c1:=narM C m x a s1.1 hx M p bv j ch g P AL hM hb hP pa T.1 (T.2.trans hI.la);have st1:=fun (b1:List Bd) (k1:Bool) (e:narN ts sc g x P AL j ch=some (b1,k1))=>(yZ C.W hx g P AL j b1 ch k1 hb hP pa T.1 (T.2.trans hI.la) e).v
   have l7:=T.1.len h0 zOm;simp[go_sem,o1,o6,o7,o8,J];refine fG [0,1,2,3,4,5,6,7,8] [(0,0,[]),(1,0,[]),(2,0,[]),(3,0,[]),(4,0,[]),(5,0,[]),(6,0,[]),(7,0,[]),(8,1,[])] zKr zKr zSi ?_;simp[go_sem,J,hA];refine fZ c1 (fun r m2 h=>?_) (fun r m2 h=>?_)
   .obtain ⟨b1,k1,e1,U,t,a0⟩:=EndN.ret h
    subst U;rw[e1]at l;replace l:narN ts sc g y ⟨X.lo.ar,[]⟩ (diR AL P) b1 k1=R:=l;have a4:=keep t af hA;have c2:=narM C m y a s1.2 hy m2 p bv b1 k1 g ⟨X.lo.ar,[]⟩ (diR AL P) a0 (st1 b1 k1 e1) (GR.nil ae a7) hI.la (cY T.1) (T.2.trans hI.la);simp[go_sem];refine fG [0,1,2,3,4,5,6,7,8,9,11,10,12] [(0,0,[]),(1,0,[]),(2,0,[]),(3,0,[]),(4,0,[]),(5,0,[]),(6,0,[]),(7,0,[]),(8,0,[]),(9,0,[]),(11,0,[]),(10,1,[2,4,6]),(12,1,[])] zKr zKr zSi ?_;simp[go_sem,J,a4];refine tU (Yp AL P zOm zOm) (.zk (qx _) (.zk (qx _) .nil)) ?_;have ax:=tM (args:=[.ptr p 0,eNd y,.agg [aI AL.ar,.lst true []],eRel (diR AL P),aB g]) (args':=[.ptr p 0,eNd y,eRel ⟨X.lo.ar,[]⟩,eRel (diR AL P),aB g]) ⟨.inl rfl,.inl rfl,.inr (WK.aggs (.cons (by rw[T.2];exact .hf (HF.sc _)) (.cons (WK.lst fun r hr=>absurd hr qK) .nil))),.inl rfl,.inl rfl,trivial⟩ c2;simp[go_sem,J,a4];refine fZ ax (fun r m7 h=>?_) (fun r m7 h=>?_)
    .obtain ⟨_,_,_,U,_,_⟩:=EndN.ret h
     subst U;rw[l]at h;simp[go_sem];exact EndN.of (o.trans t) h
    .rw [l]at h
     simp[go_sem];exact EndN.of (o.trans t) h
   .obtain ⟨e1,U,t⟩:=EndN.pan h
    rw[e1]at l;subst l;subst U;simp[go_sem];exact⟨o.trans t,rfl⟩
  rw[if_neg o8]at l;by_cases a1:n.op=11
  .rw [if_pos a1]at l
   obtain⟨a2,x,J,hx⟩:=qr3 hn a1;rw[J,narT]at l;have s1:szN x<=m:=by have:=zf (n:=n) (k:=x) (by rw[J];simp);omega
   have cP:=X1 _ h0 a3 P hP (pa.trans a2);have cQ:=X1 _ h0 a3 Q hQ (qa.trans a2);have c1:=narM C m x 2 s1 hx M p bv j ch g (trR (sumI sc.sC) P) (trR (sumI sc.sC) Q) hM hb (GR.trans h0 hP (pa.trans a2)) rfl (GR.trans h0 hQ (qa.trans a2)) rfl;simp[go_sem,o1,o6,o7,o8,a1,J];refine fG [0,1,2,3,4,5,6,7,8,9,11,12,13,14,15,17,10,16,18] [(0,0,[]),(1,0,[]),(2,0,[]),(3,0,[]),(4,0,[]),(5,0,[]),(6,0,[]),(7,0,[]),(8,0,[]),(9,0,[]),(11,0,[]),(12,0,[]),(13,0,[]),(14,0,[]),(15,0,[]),(17,0,[]),(10,1,[2,4,14,15]),(16,1,[2,4]),(18,1,[])] zKr zKr zSi ?_;simp[go_sem,J,hM.st];refine tU cP (.zs (.zk (qx _) .nil)) ?_;simp[go_sem,J,hM.st];refine tU cQ (.zs (.zk (qx _) .nil)) ?_;simp[go_sem,J,hM.st];refine fZ c1 (fun r m3 h=>?_) (fun r m3 h=>?_)
   .obtain ⟨_,_,_,U,_,_⟩:=EndN.ret h
    subst U;rw[l]at h;simp[go_sem];exact EndN.of o h
   .rw [l]at h
    simp[go_sem];exact EndN.of o h
  rw[if_neg a1]at l;subst l;simp[go_sem,o1,o6,o7,o8,a1];exact⟨o,rfl,hM⟩
end
end O9
set_option maxHeartbeats 1000000
namespace OA
open Y1 Y9 P1 E4 F6 KA KB O0 O2 KE KF O7 O9
variable {ts:TS} {sc:Sc}
theorem ZY(C:NwC ts sc){n a}(g:ArN (arT ts) n a):NarM ts sc n a:=narM C (szN n) n a (qj _) g
theorem noM(C:NwC ts sc){n a}(o:ArN (arT ts) n a){mu p bv bs i}(g)(U:NsW mu p bv ts sc bs i)(t:BdS ts (sumI sc.sC) bs) :
  qv qc 189 [.ptr p 0,eNd n,aB g] mu (EndN p bv ts sc mu (noN ts sc g n bs i)):=by
 have l:=C.W.ok t o;have cI:=C.iv t o;have I:=fun (mu:Mu) (bv:AV) (h:NsR mu p ts sc bs i bv)=>cI _ _ _ _ true h
 generalize hR:noN ts sc g n bs i=R;unfold noN at hR;generalize hX:ivl ⟨ts,sc,bs⟩ [] n=X at *
 have J:=l.lo.ar1;have P:=l.lo.ar3;have hZ:=z_ok (n:=sumI sc.sC) J P;refine qSW call189 func189 rfl {} ?_;simp[go_sem];refine qe.mem (I _ _ U.r) fun m1 h1=>?_
 have hM:NsW (m1++[.arr [aI X.lo.ar,.lst true []]]) p bv ts sc bs i:=(U.le h1).le (MuLe.app (MuLe.refl _) _);have j:But2 p bv mu (m1++[.arr [aI X.lo.ar,.lst true []]]):=tN (h1.trans (MuLe.app (MuLe.refl _) _));have c1:=ZY C o _ p bv bs i g ⟨X.lo.ar,[]⟩ ⟨X.lo.ar,[]⟩ hM t hZ.1 l.la hZ.1 l.la;have wz:WK (.agg [aI X.lo.ar,.lst true []]) (eRel ⟨X.lo.ar,[]⟩):=WK.aggs (.zs (.cons (WK.lst fun r hr=>absurd hr qK) .nil));have c2:=tM (args:=[.ptr p 0,eNd n,.agg [aI X.lo.ar,.lst true []],.agg [aI X.lo.ar,.lst true []],aB g]) (args':=[.ptr p 0,eNd n,eRel ⟨X.lo.ar,[]⟩,eRel ⟨X.lo.ar,[]⟩,aB g]) ⟨.inl rfl,.inl rfl,.inr wz,.inr wz,.inl rfl,trivial⟩ c1;rw[hR]at c2;simp[go_sem];refine fZ c2 (fun r m h=>?_) (fun r m h=>?_)
 .obtain ⟨_,_,_,e2,_,_⟩:=EndN.ret h
  subst e2;simp[go_sem];exact EndN.of j h
 .simp [go_sem]
  exact EndN.of j h
theorem pv(C:NwC ts sc){n a}(J:ArN (arT ts) n a){mu p bv bs l}(g)(hN:NsW mu p bv ts sc bs l)(P:BdS ts (sumI sc.sC) bs) :
  qv qc 190 [.ptr p 0,eNd n,aB g] mu (EndN p bv ts sc mu (jh ts sc g n bs l)):=by
 have h0:=C.W.s.n0;have T:=C.W.h12;have o:=C.W.ok P J;have cI:=C.iv P J;have U:=fun (mu:Mu) (bv:AV) (h:NsR mu p ts sc bs l bv)=>cI _ _ _ _ true h
 generalize j:jh ts sc g n bs l=R;unfold jh at j;generalize hX:ivl ⟨ts,sc,bs⟩ [] n=X at *
 have a0:=o.up.ar1;have t:=o.up.ar3;have I:=Qc (n:=sumI sc.sC) (a:=X.up.ar) h0 a0 t;refine qSW call190 func190 rfl {} ?_;simp[go_sem];refine qe.mem (U _ _ hN.r) fun m1 h1=>?_
 have hM:NsW (m1++[.arr (cBd X)]) p bv ts sc bs l:=(hN.le h1).le (MuLe.app (MuLe.refl _) _);have i:But2 p bv mu (m1++[.arr (cBd X)]):=tN (h1.trans (MuLe.app (MuLe.refl _) _));by_cases l0:X.up.ts.length=0
 .rw [if_pos l0]at j
  subst j;simp[go_sem,l0];refine aK (chkC false) (.zs .nil) ?_;simp[go_sem];exact⟨i,rfl⟩
 rw[if_neg l0]at j;have a1:0<X.up.ts.length:=zOm;simp[go_sem,a1];refine fQ (chkC true) (.zs .nil) (fun r e=>?_) (fun r e=>by cases e);cases e;by_cases l1:X.up.ts.length=1
 .rw [if_pos l1]at j
  have c1:=ZY C J _ p bv bs l g X.up (KA.allN (sumI sc.sC) X.up.ar) hM P o.up o.ua I.1 (I.2.trans o.ua);rw[j]at c1;simp[go_sem,l1];refine fG [0,1,2,3,4,5,6,7,9,8,10] [(0,0,[]),(1,0,[]),(2,0,[]),(3,0,[]),(4,0,[]),(5,0,[]),(6,0,[]),(7,0,[]),(9,0,[]),(8,1,[1,3]),(10,1,[])] zKr zKr zSi ?_;simp[go_sem];refine fX (allF ts sc bs l (sumI sc.sC) h0 T X.up.ar zOm t) ⟨hM.r.rd,.hf _ (HF.sc _),trivial⟩ ?_;simp[go_sem];refine fZ c1 (fun r m h=>?_) (fun r m h=>?_)
  .obtain ⟨_,_,_,e2,_,_⟩:=EndN.ret h
   subst e2;simp[go_sem];exact EndN.of i h
  .simp [go_sem]
   exact EndN.of i h
 .rw [if_neg l1]at j
  subst j;have l2:¬(X.up.ts.length:Int)=1:=zOm;simp[go_sem,l2];exact⟨i,rfl,hM⟩
theorem qfB(C:NwC ts sc){n a}(I:ArN (arT ts) n a){mu p bv bs o}(g)(hN:NsW mu p bv ts sc bs o)(J:BdS ts (sumI sc.sC) bs) :
  qv qc 192 [.ptr p 0,eNd n,aB g] mu (EndN p bv ts sc mu (ji ts sc g n bs o)):=by
 have t:=C.W.ok J I;have cI:=C.iv J I;have P:=fun (mu:Mu) (bv:AV) (h:NsR mu p ts sc bs o bv)=>cI _ _ _ _ true h
 generalize j:ji ts sc g n bs o=R;unfold ji at j;generalize hX:ivl ⟨ts,sc,bs⟩ [] n=X at *
 have hZ:=z_ok (n:=sumI sc.sC) t.lo.ar1 t.lo.ar3;refine qSW call192 func192 rfl {} ?_;simp[go_sem];refine qe.mem (P _ _ hN.r) fun m1 h1=>?_
 have hM:NsW (m1++[.arr (cBd X)]) p bv ts sc bs o:=(hN.le h1).le (MuLe.app (MuLe.refl _) _);have i:But2 p bv mu (m1++[.arr (cBd X)]):=tN (h1.trans (MuLe.app (MuLe.refl _) _));by_cases l0:1<X.lo.ts.length
 .rw [if_pos l0]at j
  subst j;have l:¬(X.lo.ts.length:Int)<2:=zOm;simp[go_sem,l];refine aK (chkC false) (.zs .nil) ?_;simp[go_sem];exact⟨i,rfl⟩
 rw[if_neg l0]at j;have l:(X.lo.ts.length:Int)<2:=zOm;simp[go_sem,l];refine fQ (chkC true) (.zs .nil) (fun r e=>?_) (fun r e=>by cases e);cases e;by_cases T:X.lo.ts.length=1
 .rw [if_pos T]at j
  have c1:=ZY C I _ p bv bs o g ⟨X.lo.ar,[]⟩ X.lo hM J hZ.1 t.la t.lo t.la;have wz:WK (.agg [aI X.lo.ar,.lst true []]) (eRel ⟨X.lo.ar,[]⟩):=WK.aggs (.zs (.cons (WK.lst fun r hr=>absurd hr qK) .nil));have c2:=tM (args:=[.ptr p 0,eNd n,.agg [aI X.lo.ar,.lst true []],eRel X.lo,aB g]) (args':=[.ptr p 0,eNd n,eRel ⟨X.lo.ar,[]⟩,eRel X.lo,aB g]) ⟨.inl rfl,.inl rfl,.inr wz,.inl rfl,.inl rfl,trivial⟩ c1;rw[j]at c2;simp[go_sem,T];refine fZ c2 (fun r m h=>?_) (fun r m h=>?_)
  .obtain ⟨_,_,_,e2,_,_⟩:=EndN.ret h
   subst e2;simp[go_sem];exact EndN.of i h
  .simp [go_sem]
   exact EndN.of i h
 .rw [if_neg T]at j
  subst j;have l2:¬(X.lo.ts.length:Int)=1:=zOm;simp[go_sem,l2];exact⟨i,rfl,hM⟩
end OA
set_option maxHeartbeats 1000000
namespace OB
open Y1 P1 E1 E2 E4 EO EY F3 F6 KA KB O0 O2 KE KF O7 O9 OA
variable {ts:TS} {sc:Sc}
theorem qr5(C:NwC ts sc){n}(hT:TyC (arT ts) n)(P:n.op=40){mu p bv bs t}(g)(hN:NsW mu p bv ts sc bs t)(hb:BdS ts (sumI sc.sC) bs) :
  qv qc 120 [.ptr p 0,eNd n,aB g] mu (EndN p bv ts sc mu (vg ts sc g n bs t)):=by
 obtain⟨m,hk,hm,_⟩:=hT.2 P;generalize l:vg ts sc g n bs t=R;have e:kidN n 0=m:=by simp[kidN,hk]
 unfold vg at l;simp only[P,if_true,e,decide_true,true_and,Bool.true_eq_false,false_and,or_false]at l;refine qSW call120 func120 rfl { mt:=[4] } ?_;have T:mu.length<(mu++[Cell.arr (cNd n)]).length:=zSp;have U:NsW ((mu++[Cell.arr (cNd n)]).set mu.length (.arr (cNd m))) p bv ts sc bs t:=hN.le (MuLe.setN (MuLe.app (MuLe.refl _) _) (qj _) _);have i:But2 p bv mu ((mu++[Cell.arr (cNd n)]).set mu.length (.arr (cNd m))):=tN (MuLe.setN (MuLe.app (MuLe.refl _) _) (qj _) _);have I:((mu++[Cell.arr (cNd n)]).set mu.length (.arr (cNd m)))[mu.length]?=some (.arr (cNd m)):=qz T;generalize a0:(mu++[Cell.arr (cNd n)]).set mu.length (.arr (cNd m))=M at *
 have hd:cNd m++List.drop 5 (cNd n)=cNd m:=by cases n;simp[cNd]
 simp[go_sem,P,hk,hd,a0,I];by_cases o:m.op=34
 .obtain ⟨k,a,j,ha⟩:=hm zOm
  rw[if_pos o,show kidN m 0=k by simp[kidN,j]]at l;simp[go_sem,o,j,I];have c:=noM C ha g U hb;rw[l]at c;refine fZ c (fun r m h=>?_) (fun r m h=>?_)
  .obtain ⟨_,_,_,e2,_,_⟩:=EndN.ret h
   subst e2;simp[go_sem];exact EndN.of i h
  .simp [go_sem]
   exact EndN.of i h
 by_cases J:m.op=35
 .obtain ⟨k,a,j,ha⟩:=hm zOm
  rw[if_neg o,if_pos J,show kidN m 0=k by simp[kidN,j]]at l;simp[go_sem,o,J,j,I];have c:=pv C ha g U hb;rw[l]at c;refine fZ c (fun r m h=>?_) (fun r m h=>?_)
  .obtain ⟨_,_,_,e2,_,_⟩:=EndN.ret h
   subst e2;simp[go_sem];exact EndN.of i h
  .simp [go_sem]
   exact EndN.of i h
 rw[if_neg o,if_neg J]at l;subst l;simp[go_sem,o,J,I];exact⟨i,rfl,U⟩
theorem qr6(C:NwC ts sc){n}(hT:TyK (arT ts) n)(ho:¬n.op=40){mu p bv bs ch}(g)(hN:NsW mu p bv ts sc bs ch)(hb:BdS ts (sumI sc.sC) bs) :
  qv qc 120 [.ptr p 0,eNd n,aB g] mu (EndN p bv ts sc mu (vg ts sc g n bs ch)):=by
 have h0:=C.W.s.n0;have ah:=C.W.h12;generalize t:vg ts sc g n bs ch=R;unfold vg at t;simp only[ho,if_false,decide_false,Bool.false_eq_true,false_and,false_or,true_and]at t;refine qSW call120 func120 rfl { mt:=[4] } ?_;have hM:NsW (mu++[Cell.arr (cNd n)]) p bv ts sc bs ch:=hN.le (MuLe.app (MuLe.refl _) _);have J:But2 p bv mu (mu++[Cell.arr (cNd n)]):=tN (MuLe.app (MuLe.refl _) _);have hz:(mu++[Cell.arr (cNd n)])[mu.length]?=some (.arr (cNd n)):=zSp;have aq:p≠mu.length:=by have:=(qh.1 hN.st).1;omega
 have au:qu bv≠some mu.length:=fun e=>by
  rcases hN.ow with ⟨rfl,_⟩|⟨q,rfl,hq,_⟩
  .cases e
  .cases e
   have:=(qh.1 hq).1;omega
 have aj:∀ i,mu.length<=i->i≠p/\qu bv≠some i:=fun i hi=>by
  have hp:=(qh.1 hN.st).1;refine⟨zOm,fun e=>?_⟩;rcases hN.ow with ⟨rfl,_⟩|⟨q,rfl,hq,_⟩
  .cases e
  .cases e
   have:=(qh.1 hq).1;omega
 generalize ak:mu++[Cell.arr (cNd n)]=M at *
 have keep:∀{m1 m2:Mu}{i:Nat}{c:Cell},But2 p bv m1 m2->mu.length<=i->m1[i]?=some c->m2[i]?=some c:=fun {m1 m2 i c} hb hi hc=>by
  obtain⟨f1,f2⟩:=aj i hi;rw[hb.2 i (qh.1 hc).1 f1 f2];exact hc
 simp[go_sem,ho,ak,hz];by_cases o5:n.op=35
 .obtain ⟨k,a,j,ha⟩:=hT.1 zOm
  rw[if_pos o5,show kidN n 0=k by simp[kidN,j]]at t;simp[go_sem,o5,j,hz];have c:=noM C ha g hM hb;rw[t]at c;refine fZ c (fun r m h=>?_) (fun r m h=>?_)
  .obtain ⟨_,_,_,P,_,_⟩:=EndN.ret h
   subst P;simp[go_sem];exact EndN.of J h
  .simp [go_sem]
   exact EndN.of J h
 rw[if_neg o5]at t;by_cases o4:n.op=34
 .obtain ⟨k,a,j,ha⟩:=hT.1 zOm
  rw[if_pos o4,show kidN n 0=k by simp[kidN,j]]at t;simp[go_sem,o4,o5,j,hz];have c:=pv C ha g hM hb;rw[t]at c;refine fZ c (fun r m h=>?_) (fun r m h=>?_)
  .obtain ⟨_,_,_,P,_,_⟩:=EndN.ret h
   subst P;simp[go_sem];exact EndN.of J h
  .simp [go_sem]
   exact EndN.of J h
 rw[if_neg o4]at t;by_cases o1:n.op=31
 .rw [if_pos o1]at t
  subst t;simp[go_sem,o1,o4,o5,hz];refine aK (chkC false) (.zs .nil) ?_;simp[go_sem];exact⟨J,rfl⟩
 rw[if_neg o1]at t;by_cases o6:n.op=36
 .obtain ⟨k,a,j,ha⟩:=hT.1 zOm
  rw[if_pos o6,show kidN n 0=k by simp[kidN,j]]at t;simp[go_sem,o1,o4,o5,o6,j,hz];have c:=pv C ha g hM hb;have U:=fun (b1:List Bd) (k1:Bool) (e:jh ts sc g k bs ch=some (b1,k1))=>(YJ C.W ha g bs b1 ch k1 hb e).v
  refine fZ c (fun r m h=>?_) (fun r m h=>?_)
  .obtain ⟨b1,k1,e1,P,I,a3⟩:=EndN.ret h
   subst P;rw[e1]at t;replace t:ji ts sc g k b1 k1=R:=t;have al:=keep I (qj _) hz;have c2:=qfB C ha g a3 (U b1 k1 e1);rw[t]at c2;simp[go_sem,j,al];refine fZ c2 (fun r m h=>?_) (fun r m h=>?_)
   .obtain ⟨_,_,_,P,_,_⟩:=EndN.ret h
    subst P;simp[go_sem];exact EndN.of (J.trans I) h
   .simp [go_sem]
    exact EndN.of (J.trans I) h
  .obtain ⟨e1,P,I⟩:=EndN.pan h
   rw[e1]at t;subst t;subst P;simp[go_sem];exact⟨J.trans I,rfl⟩
 rw[if_neg o6]at t;by_cases o7:n.op=37
 .obtain ⟨k,a,j,ha⟩:=hT.1 zOm
  rw[if_pos o7,show kidN n 0=k by simp[kidN,j]]at t;simp[go_sem,o1,o4,o5,o6,o7,j,hz];have c:=qfB C ha g hM hb;rw[t]at c;refine fZ c (fun r m h=>?_) (fun r m h=>?_)
  .obtain ⟨_,_,_,P,_,_⟩:=EndN.ret h
   subst P;simp[go_sem];exact EndN.of J h
  .simp [go_sem]
   exact EndN.of J h
 rw[if_neg o7]at t;by_cases a9:n.op=32\/n.op=33
 .rw [if_pos a9]at t
  obtain⟨k,k',a,j,ha,aa⟩:=hT.2 a9;rw[show kidN n 0=k by simp[kidN,j],show kidN n 1=k' by simp[kidN,j]]at t;have hI:=C.W.ok hb ha;have hJ:=C.W.ok hb aa;have cI:=C.iv hb ha;have cJ:=C.iv hb aa;have fx:=fun (mu:Mu) (bv:AV) (h:NsR mu p ts sc bs ch bv)=>cI _ _ _ _ true h
  have fy:=fun (mu:Mu) (bv:AV) (h:NsR mu p ts sc bs ch bv)=>cJ _ _ _ _ true h
  generalize hX:ivl ⟨ts,sc,bs⟩ [] k=X at *
  generalize hY:ivl ⟨ts,sc,bs⟩ [] k'=Y at *
  have ai:=hI.lo.ar1;have ab:=hI.lo.ar3;have a0:=Qc (n:=sumI sc.sC) (a:=X.lo.ar) h0 ai ab;have hZ:=z_ok (n:=sumI sc.sC) ai ab;rcases a9 with o2|o3
  .simp only[o2,if_true]at t
   simp[go_sem,o1,o2,o4,o5,o6,o7,j,hz];refine fG [0,1,2,3,4,6,7,8,9,10,5,11,12,13,14,15] [(0,0,[]),(1,0,[]),(2,0,[]),(3,0,[]),(4,0,[]),(6,0,[]),(7,0,[]),(8,0,[]),(9,0,[]),(10,0,[]),(5,1,[8,10]),(11,1,[]),(12,2,[2,4,8,10]),(13,2,[2,4,8,10]),(14,1,[]),(15,1,[])] zKr zKr zSi ?_;simp[go_sem,j,hz];refine qe.mem (fx _ _ hM.r) fun m3 h3=>?_
   have a4:=h3 _ _ hz;simp[go_sem,j,a4];refine qe.mem (fy _ _ (hM.le h3).r) fun T h4=>?_
   have a5:=h4 _ _ a4;have a6:=(hM.le h3).le h4;have a7:But2 p bv mu T:=J.trans (tN (h3.trans h4));have ad:mu.length<=T.length:=a7.1;have a1:∀ l,(T++l)[mu.length]?=some (.arr (cNd n)):=fun l=>zA a5 l
   simp[go_sem,j,a5,a1];refine fX (allF ts sc bs ch (sumI sc.sC) h0 ah X.lo.ar zOm ab) ⟨(a6.le (MuLe.app (MuLe.refl _) _)).r.rd,.hf _ (HF.sc _),trivial⟩ ?_;simp[go_sem,a1,o2];refine fG [0,1,2,3,4,6,5,7] [(0,0,[]),(1,0,[]),(2,0,[]),(3,0,[]),(4,0,[]),(6,0,[]),(5,1,[2]),(7,1,[])] zKr zKr zSi ?_;simp[go_sem];generalize av:KA.allN (sumI sc.sC) X.lo.ar=o at *
   have ae:NsW (T++[.arr [aI X.lo.ar,lI X.lo.ts,aI o.ar,lI o.ts],.arr [aI o.ar,.lst true [],aI Y.up.ar,lI Y.up.ts],.arr [aI o.ar,lI o.ts]]) p bv ts sc bs ch:=a6.le (MuLe.app (MuLe.refl _) _);have a2:But2 p bv mu (T++[.arr [aI X.lo.ar,lI X.lo.ts,aI o.ar,lI o.ts],.arr [aI o.ar,.lst true [],aI Y.up.ar,lI Y.up.ts],.arr [aI o.ar,lI o.ts]]):=a7.trans (tN (MuLe.app (MuLe.refl _) _));have a8:=a1 [.arr [aI X.lo.ar,lI X.lo.ts,aI o.ar,lI o.ts],.arr [aI o.ar,.lst true [],aI Y.up.ar,lI Y.up.ts],.arr [aI o.ar,lI o.ts]];have gx:(T++[Cell.arr [aI X.lo.ar,lI X.lo.ts,aI o.ar,lI o.ts],.arr [aI o.ar,.lst true [],aI Y.up.ar,lI Y.up.ts],.arr [aI o.ar,lI o.ts]])[T.length]?=some (.arr [aI X.lo.ar,lI X.lo.ts,aI o.ar,lI o.ts]):=zSp;have gy:(T++[Cell.arr [aI X.lo.ar,lI X.lo.ts,aI o.ar,lI o.ts],.arr [aI o.ar,.lst true [],aI Y.up.ar,lI Y.up.ts],.arr [aI o.ar,lI o.ts]])[T.length+1]?=some (.arr [aI o.ar,.lst true [],aI Y.up.ar,lI Y.up.ts]):=zSp;generalize an:(T++[Cell.arr [aI X.lo.ar,lI X.lo.ts,aI o.ar,lI o.ts],.arr [aI o.ar,.lst true [],aI Y.up.ar,lI Y.up.ts],.arr [aI o.ar,lI o.ts]])=M7 at *
   generalize T.length=bx at *
   have c0:=ZY C ha M7 p bv bs ch g ⟨o.ar,[]⟩ Y.up ae hb (GR.nil a0.1.ar1 a0.1.ar3) (a0.2.trans hI.la) hJ.up hJ.ua;have wz:WK (.agg [aI o.ar,.lst true []]) (eRel ⟨o.ar,[]⟩):=WK.aggs (.zs (.cons (WK.lst fun r hr=>absurd hr qK) .nil));have c1:=tM (args:=[.ptr p 0,eNd k,.agg [aI o.ar,.lst true []],eRel Y.up,aB g]) (args':=[.ptr p 0,eNd k,eRel ⟨o.ar,[]⟩,eRel Y.up,aB g]) ⟨.inl rfl,.inl rfl,.inr wz,.inl rfl,.inl rfl,trivial⟩ c0;have U:=fun (b1:List Bd) (k1:Bool) (e:narN ts sc g k ⟨o.ar,[]⟩ Y.up bs ch=some (b1,k1))=>(yZ C.W ha g _ _ bs b1 ch k1 hb (GR.nil a0.1.ar1 a0.1.ar3) (a0.2.trans hI.la) hJ.up hJ.ua e).v
   refine fG [0,1,2,3,4,5,6,7,8,9,10] [(0,0,[]),(1,0,[]),(2,0,[]),(3,0,[]),(4,0,[]),(5,0,[]),(6,0,[]),(7,0,[]),(8,0,[]),(9,0,[]),(10,1,[])] zKr zKr zSi ?_;simp[go_sem,j,a8,gx,gy];refine fZ c1 (fun r m h=>?_) (fun r m h=>?_)
   .obtain ⟨b1,k1,e1,P,I,a3⟩:=EndN.ret h
    subst P;rw[e1]at t;replace t:narN ts sc g k' X.lo o b1 k1=R:=t;have af:=keep I (qj _) a8;have ag:=keep I ad gx;have c2:=ZY C aa m p bv b1 k1 g X.lo o a3 (U b1 k1 e1) hI.lo hI.la a0.1 (a0.2.trans hI.la);rw[t]at c2;simp[go_sem];refine fG [0,1,2,3,4,5,6,7,8,9,10] [(0,0,[]),(1,0,[]),(2,0,[]),(3,0,[]),(4,0,[]),(5,0,[]),(6,0,[]),(7,0,[]),(8,0,[]),(9,0,[]),(10,1,[])] zKr zKr zSi ?_;simp[go_sem,j,af,ag];refine fZ c2 (fun r m h=>?_) (fun r m h=>?_)
    .obtain ⟨_,_,_,P,_,_⟩:=EndN.ret h
     subst P;simp[go_sem];exact EndN.of (a2.trans I) h
    .simp [go_sem]
     exact EndN.of (a2.trans I) h
   .obtain ⟨e1,P,I⟩:=EndN.pan h
    rw[e1]at t;subst t;subst P;simp[go_sem];exact⟨a2.trans I,rfl⟩
  .have o2:¬n.op=32:=by omega
   simp only[o2,if_false]at t;simp[go_sem,o1,o2,o3,o4,o5,o6,o7,j,hz];refine fG [0,1,2,3,4,6,7,8,9,10,5,11,12,13,14,15] [(0,0,[]),(1,0,[]),(2,0,[]),(3,0,[]),(4,0,[]),(6,0,[]),(7,0,[]),(8,0,[]),(9,0,[]),(10,0,[]),(5,1,[8,10]),(11,1,[]),(12,2,[2,4,8,10]),(13,2,[2,4,8,10]),(14,1,[]),(15,1,[])] zKr zKr zSi ?_;simp[go_sem,j,hz];refine qe.mem (fx _ _ hM.r) fun m3 h3=>?_
   have a4:=h3 _ _ hz;simp[go_sem,j,a4];refine qe.mem (fy _ _ (hM.le h3).r) fun T h4=>?_
   have a5:=h4 _ _ a4;have a6:=(hM.le h3).le h4;have a7:But2 p bv mu T:=J.trans (tN (h3.trans h4));have ad:mu.length<=T.length:=a7.1;have a1:∀ l,(T++l)[mu.length]?=some (.arr (cNd n)):=fun l=>zA a5 l
   simp[go_sem,j,a5,a1];refine fX (allF ts sc bs ch (sumI sc.sC) h0 ah X.lo.ar zOm ab) ⟨(a6.le (MuLe.app (MuLe.refl _) _)).r.rd,.hf _ (HF.sc _),trivial⟩ ?_;simp[go_sem,a1,o3];have ae:NsW (T++[.arr (cBd X),.arr (cBd Y),.arr (cRel (KA.allN (sumI sc.sC) X.lo.ar))]) p bv ts sc bs ch:=a6.le (MuLe.app (MuLe.refl _) _);have a2:But2 p bv mu (T++[.arr (cBd X),.arr (cBd Y),.arr (cRel (KA.allN (sumI sc.sC) X.lo.ar))]):=a7.trans (tN (MuLe.app (MuLe.refl _) _));have a8:=a1 [.arr (cBd X),.arr (cBd Y),.arr (cRel (KA.allN (sumI sc.sC) X.lo.ar))];have gx:(T++[Cell.arr (cBd X),.arr (cBd Y),.arr (cRel (KA.allN (sumI sc.sC) X.lo.ar))])[T.length]?=some (.arr (cBd X)):=zSp;have gy:(T++[Cell.arr (cBd X),.arr (cBd Y),.arr (cRel (KA.allN (sumI sc.sC) X.lo.ar))])[T.length+1]?=some (.arr (cBd Y)):=zSp;generalize an:(T++[Cell.arr (cBd X),.arr (cBd Y),.arr (cRel (KA.allN (sumI sc.sC) X.lo.ar))])=M7 at *
   generalize T.length=bx at *
   have c1:=ZY C ha M7 p bv bs ch g Y.lo Y.up ae hb hJ.lo hJ.la hJ.up hJ.ua;have U:=fun (b1:List Bd) (k1:Bool) (e:narN ts sc g k Y.lo Y.up bs ch=some (b1,k1))=>(yZ C.W ha g _ _ bs b1 ch k1 hb hJ.lo hJ.la hJ.up hJ.ua e).v
   refine fG [0,1,2,3,4,5,6,7,8,9,10] [(0,0,[]),(1,0,[]),(2,0,[]),(3,0,[]),(4,0,[]),(5,0,[]),(6,0,[]),(7,0,[]),(8,0,[]),(9,0,[]),(10,1,[])] zKr zKr zSi ?_;simp[go_sem,j,a8,gx,gy];refine fZ c1 (fun r m h=>?_) (fun r m h=>?_)
   .obtain ⟨b1,k1,e1,P,I,a3⟩:=EndN.ret h
    subst P;rw[e1]at t;replace t:narN ts sc g k' X.lo X.up b1 k1=R:=t;have af:=keep I (qj _) a8;have ag:=keep I ad gx;have c2:=ZY C aa m p bv b1 k1 g X.lo X.up a3 (U b1 k1 e1) hI.lo hI.la hI.up hI.ua;rw[t]at c2;simp[go_sem];refine fG [0,1,2,3,4,5,6,7,8,9,10] [(0,0,[]),(1,0,[]),(2,0,[]),(3,0,[]),(4,0,[]),(5,0,[]),(6,0,[]),(7,0,[]),(8,0,[]),(9,0,[]),(10,1,[])] zKr zKr zSi ?_;simp[go_sem,j,af,ag];refine fZ c2 (fun r m h=>?_) (fun r m h=>?_)
    .obtain ⟨_,_,_,P,_,_⟩:=EndN.ret h
     subst P;simp[go_sem];exact EndN.of (a2.trans I) h
    .simp [go_sem]
     exact EndN.of (a2.trans I) h
   .obtain ⟨e1,P,I⟩:=EndN.pan h
    rw[e1]at t;subst t;subst P;simp[go_sem];exact⟨a2.trans I,rfl⟩
 rw[if_neg a9]at t;subst t;have o2:¬n.op=32:=zOm;have o3:¬n.op=33:=zOm;simp[go_sem,o1,o2,o3,o4,o5,o6,o7,hz];exact⟨J,rfl,hM⟩
theorem qr7(C:NwC ts sc){n}(i:TyC (arT ts) n){mu p bv bs j}(g)(l:NsW mu p bv ts sc bs j)(o:BdS ts (sumI sc.sC) bs) :
  qv qc 120 [.ptr p 0,eNd n,aB g] mu (EndN p bv ts sc mu (vg ts sc g n bs j)):=by
 by_cases t:n.op=40
 .exact qr5 C i t g l o
 .exact qr6 C i.1 t g l o
end OB
end Go.Proofs.YtlnbdknjkmmgbaaGreatDoor
