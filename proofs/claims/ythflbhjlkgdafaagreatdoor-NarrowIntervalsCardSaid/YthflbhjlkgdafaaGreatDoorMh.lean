/-
  Own library, part 8: an abstract reading of values and a calculus over it; contracts of functions; plain lemmas.
-/
import Derived.Test.YthflbhjlkgdafaaGreatDoorMg
set_option linter.unusedVariables false
set_option linter.unusedSimpArgs false
set_option maxRecDepth 100000
open Go renaming Program->qc,FuncId->zV,undef->z6
open Go.Proofs.Tryz renaming prog->qg
open List renaming getElem?_eq_some_iff->ql,mem_map->qp,range->qu,getElem_mem->qv,getElem?_eq_getElem->qy,mem_cons->qz,getElem?_set_self->qJ,getElem?_append_left->qL,replicate->qM,not_mem_nil->qO,mem_append->qP,mem_singleton->qX,all_eq_true->qY,mem_cons_of_mem->q9,take_length->za,drop_eq_getElem_cons->ze,map_cons->zf,map_append->zi,length_append->zj,mem_cons_self->zo,getD_eq_getElem?_getD->zH,length_map->zT,drop_length->yf,getElem?_set_ne->yH,mem_filter->jg,getElem?_cons_succ->vW,mem_iff_getElem->uA,take_succ_eq_append_getElem->wd,drop_eq_nil_of_le->Wy
open Nat renaming le_refl->qn
open Go.IntKind renaming i64->qo
open Int renaming le_refl->Yf
namespace Go.Proofs.YthflbhjlkgdafaaGreatDoor
open Go Go.Ev Go.Proofs Tryz
namespace QY
open Y1 YX YA YB YC P1 P2 PA QE QX
section
variable {es:List (dC×Bool)}
structure ScOf (ts:TS) (body:Bool) (sc:List Sb) (env:IEnv):Prop where
 look:∀ nm,u9 nm sc=getK nm env
 own:body=false->∀ nm v,getK nm env=some v->zS ts nm≠[]
 sz:∀ e,e∈sc->0<=e.2.size/\e.2.size<=4000
def OutR(r:XR (Nd×Int))(s':ISt)(n':Nd)(z:Int):Prop:=match r with
 | .ok ((m,y),t)=>n'=m/\z=y/\s'=t
 | .error _=>4000<s'.sM/\s'.sM<=9000/\0<=z/\z<=4000
def renR(ts:TS)(es:List (dC×Bool))(sc:List Sb)(nm:dC)(body:Bool)(s:ISt):(List Sb×dC)×ISt:=
 if body=true\/zS ts nm≠[] then
  ((sc++[(nm,⟨none,0,vN (yE ts es (qG ts es) s.last)⟩)],vN (yE ts es (qG ts es) s.last)),⟨yE ts es (qG ts es) s.last,s.sM⟩)
 else ((sc,nm),s)
abbrev XO:=ISt×Nd×Int
def uz(E:Nd->ISt->XO):List (dC×Int)->List Nd->List Sb->ISt->Except ISt (List Sb×ISt)
 |p :: g,k :: ks,own,s=>if 4000<(E k s).1.sM then .error (E k s).1 else uz E g ks (own++[(p.1,⟨some (E k s).2.1,(E k s).2.2,⟨#[]⟩⟩)]) (E k s).1
 |_,_,own,s => .ok (own,s)
def uH(E:List Sb->Nd->ISt->XO)(R:List Sb->dC->ISt->(List Sb×dC)×ISt)(bin:Bool):Nat->List Sb->dC->List Nd->ISt->Except ISt ((dC×List Nd×Int)×ISt)
 |_,_,nm,[],s => .ok ((nm,[],0),s)
 |i,sc,nm,k :: ks,s =>
  let r:=if bin=true/\i=1 then R sc nm s else ((sc,nm),s)
  let q:=E r.1.1 k r.2
  if 4000<q.1.sM then .error q.1 else match uH E R bin (i+1) r.1.1 r.1.2 ks q.1 with
   | .error e => .error e
   | .ok ((g,j,o),l) => .ok ((g,q.2.1 :: j,q.2.2+o),l)
def expR(ts:TS)(es:List (dC×Bool)):Nat->List Sb->Nd->Bool->ISt->XO
 | 0,_,n,_,s=>(s,n,0)
 |f+1,sc,n,g,s =>
  if s.sM+1<=4000 then
   if n.op=1 then ((Q0 sc n (payS 1 s)).2,(Q0 sc n (payS 1 s)).1.1,(Q0 sc n (payS 1 s)).1.2)
   else if n.op=47 then match ts.sT.find? fun p=>decide (p.name=n.name) with
    |none=>(payS 1 s,n,1)
    |some p=>match uz (fun k s=>expR ts es f sc k g s) p.params n.sD [] (payS 1 s) with
     | .error i=>(i,nd0,0)
     | .ok (own,i)=>expR ts es f own p.body true i
   else match uH (fun sc k s=>expR ts es f sc k g s) (fun sc nm s=>renR ts es sc nm g s) (binB n.op) 0 sc n.name n.sD (payS 1 s) with
    | .error i=>(i,nd0,0)
    | .ok ((nm,ks,m),i)=>(i,.mk n.op nm n.n ks n.pos,1+m)
  else (payS 1 s,nd0,0)
theorem Wo{F s s' z}(g:Gos F s s' z)(h:StOk F s):StOk F s'/\s.sM<=s'.sM/\z<=4000:=⟨g.ok h,zW2 g.cz g.z0,by have:=g.cz;have:=g.c1;have:=h.c0;omega⟩
theorem qe0{F f:Nat}{E E'}:∀ ps ks own i s,
  (∀ k,k∈ks->∀ s,StOk F s->4000<s.sM+(f:Int)->OutR (E k s) (E' k s).1 (E' k s).2.1 (E' k s).2.2)->(∀ k n' z s s',k∈ks->StOk F s->E k s = .ok ((n',z),s')->Gos F s s' z) ->
  StOk F s->4000<s.sM+(f:Int)->yd own->(∀ nm,u9 nm i=getK nm own)->(∀ e,e∈i->0<=e.2.size/\e.2.size<=4000) ->
  match vC E ps ks own s with
  | .error _=>∃ t,uz E' ps ks i s = .error t/\4000<t.sM/\t.sM<=9000
  | .ok (l,s')=>∃ j,uz E' ps ks i s = .ok (j,s')/\yd l/\(∀ nm,u9 nm j=getK nm l)/\(∀ e,e∈j->0<=e.2.size/\e.2.size<=4000)/\StOk F s'/\s.sM<=s'.sM
 | [],ks,own,i,s,_,_,o,_,J,P,R=>by simp only[vC,uz];exact⟨i,rfl,J,P,R,o,Yf _⟩
 |p :: ps,[],own,i,s,_,_,o,_,J,P,R=>by simp only[vC,uz];exact⟨i,rfl,J,P,R,o,Yf _⟩
 |p :: ps,k :: ks,own,i,s,hE,hG,o,hf,J,P,R=>by
  simp only[vC,uz];have C:=hE k (zo ..) s o hf;have h2:=fun n' z s'=>hG k n' z s s' (zo ..) o
  generalize E' k s=Q at *
  cases T:E k s with
  |error d =>
   rw[T]at C;simp only;rw[if_pos C.1];exact⟨_,rfl,C.1,C.2.1⟩
  |ok r =>
   obtain⟨⟨m,y⟩,t⟩:=r;rw[T]at C;obtain⟨e1,e2,e3⟩:=C;have g:=h2 m y t T;obtain⟨g1,g2,g3⟩:=Wo g o;have hc:=g.c1;simp only;rw[if_neg (by rw[e3];omega),e1,e2,e3];have ih:=qe0 (F:=F) (f:=f) ps ks (setK p.1 ⟨some m,y,⟨#[]⟩⟩ own) (i++[(p.1,⟨some m,y,⟨#[]⟩⟩)]) t (fun k U=>hE k (q9 _ U)) (fun k n' z s s' U=>hG k n' z s s' (q9 _ U)) g1 zOm (J.set ⟨g.z0,g3⟩) (fun nm=>by
    rw[Wn,uo,P];by_cases e:p.1=nm
    .grind
    .rw [if_neg e,if_neg fun x=>e x.symm]) (fun e I=>by
    rcases qP.1 I with I|I
    .exact R e I
    .rw [qX]at I;subst I;exact⟨g.z0,g3⟩)
   grind
theorem qe1{ts env sc nm body s}(j:yd env)(h:ScOf ts body sc env) :
  ScOf ts body (renR ts es sc nm body s).1.1 (renI ts es env nm body s).1.1/\(renR ts es sc nm body s).1.2=(renI ts es env nm body s).1.2/\(renR ts es sc nm body s).2=(renI ts es env nm body s).2:=by
 unfold renR renI;by_cases l:body=true\/zS ts nm≠[]
 .rw [if_pos l,if_pos l]
  refine⟨⟨fun x=>?_,fun i x v g=>?_,fun e o=>?_⟩,rfl,rfl⟩
  .simp only
   rw[Wn,uo,JZ j.nd,h.look];by_cases e:nm=x
   .grind
   .rw [if_neg e,if_neg fun y=>e y.symm,if_neg fun y=>e y.symm]
  .simp only at g
   rw[uo,JZ j.nd]at g;by_cases e:x=nm
   .grind
   .rw [if_neg e,if_neg e]at g
    exact h.own i x v g
  .rcases qP.1 o with o|o
   .exact h.sz e o
   grind
 .rw [if_neg l,if_neg l]
  refine⟨⟨fun x=>?_,fun i x v g=>?_,h.sz⟩,rfl,rfl⟩
  .simp only
   rw[JZ j.nd,h.look];by_cases e:x=nm
   .rw [if_pos e]
    cases p:getK x env with
    |none=>rfl
    |some v =>
     have i:body=false:=by grind
     exact absurd (h.own i x v p) (by grind)
   .rw [if_neg e]
  .simp only at g
   rw[JZ j.nd]at g;split at g
   .cases g
   .exact h.own i x v g
theorem qe2{ts es}(C:Free ts es){f:Nat}{body E E' bin}:∀ ks i env sc nm s,
  (∀ k,k∈ks->∀ env sc s,StOk (qG ts es) s->4000<s.sM+(f:Int)->yd env->ScOf ts body sc env->OutR (E env k s) (E' sc k s).1 (E' sc k s).2.1 (E' sc k s).2.2) ->
  (∀ env k n' z s s',k∈ks->StOk (qG ts es) s->yd env->E env k s = .ok ((n',z),s')->Gos (qG ts es) s s' z) ->
  0<=s.last->0<=s.sM->s.sM<=4000->dueN (qG ts es) bin i<=pot (qG ts es) s->4000<s.sM+(f:Int)->yd env->ScOf ts body sc env ->
  match vD E (fun env nm s=>renI ts es env nm body s) bin i env nm ks s with
  | .error _=>∃ t,uH E' (fun sc nm s=>renR ts es sc nm body s) bin i sc nm ks s = .error t/\4000<t.sM/\t.sM<=9000
  | .ok r=>uH E' (fun sc nm s=>renR ts es sc nm body s) bin i sc nm ks s = .ok r
 | [],i,env,sc,nm,s,_,_,_,_,_,_,_,_,_=>by simp only[vD,uH]
 |k :: ks,i,env,sc,nm,s,hE,hG,l0,c0,c1,hp,hf,R,I=>by
  simp only[vD,uH];obtain⟨r,J⟩:∃ r,(if bin=true/\i=1 then renI ts es env nm body s else ((env,nm),s))=r:=⟨_,rfl⟩;obtain⟨l,j⟩:∃ l,(if bin=true/\i=1 then renR ts es sc nm body s else ((sc,nm),s))=l:=⟨_,rfl⟩;have hR:ScOf ts body l.1.1 r.1.1/\l.1.2=r.1.2/\l.2=r.2/\yd r.1.1/\StOk (qG ts es) r.2/\r.2.sM=s.sM/\dueN (qG ts es) bin (i+1)<=pot (qG ts es) r.2:=by
   by_cases hb:bin=true/\i=1
   .rw [if_pos hb]at J j
    subst J;subst j;obtain⟨a1,a2,a3⟩:=qe1 (es:=es) (nm:=nm) (s:=s) R I;have a4:=K5 (ts:=ts) (es:=es) (nm:=nm) (body:=body) (s:=s) R;obtain⟨b1,b2,T⟩:=K6 (body:=body) (nm:=nm) (env:=env) C l0;have hd:dueN (qG ts es) bin i=(qG ts es:Int):=by simp_all[dueN,if_pos]
    have a0:dueN (qG ts es) bin (i+1)=0:=by simp_all[dueN,if_neg]
    rw[hd]at hp;have P:0<=pot (qG ts es) (renI ts es env nm body s).2:=by
     grind [pot]
    exact⟨a1,a2,a3,a4,⟨b1,by rw[T];exact c0,by rw[T];exact c1,P⟩,T,zOm⟩
   .rw [if_neg hb]at J j
    subst J;subst j;have hd:dueN (qG ts es) bin (i+1)<=dueN (qG ts es) bin i:=by
     unfold dueN;split
     .grind
     omega
    have a5:0<=dueN (qG ts es) bin i:=by grind [dueN]
    exact⟨I,rfl,rfl,R,⟨l0,c0,c1,by grind⟩,rfl,by grind⟩
  rw[J,j];obtain⟨q1,q2,q3,q4,q5,q6,q7⟩:=hR;rw[q2,q3];have o:=hE k (zo ..) r.1.1 l.1.1 r.2 q5 zOm q4 q1;have h2:=fun n' z s'=>hG r.1.1 k n' z r.2 s' (zo ..) q5 q4
  generalize E' l.1.1 k r.2=Q at *
  cases U:E r.1.1 k r.2 with
  |error d =>
   rw[U]at o;simp only;rw[if_pos o.1];exact⟨_,rfl,o.1,o.2.1⟩
  |ok x =>
   obtain⟨⟨m,y⟩,t⟩:=x;rw[U]at o;obtain⟨e1,e2,e3⟩:=o;have g:=h2 m y t U;obtain⟨g1,g2,g3⟩:=Wo g q5;have hc:=g.c1;have a6:=g.p;simp only;rw[if_neg (by rw[e3];omega),e1,e2,e3];have ih:=qe2 C (f:=f) (body:=body) (E:=E) (E':=E') (bin:=bin) ks (i+1) r.1.1 l.1.1 r.1.2 t (fun k hk=>hE k (q9 _ hk)) (fun env k n' z s s' hk=>hG env k n' z s s' (q9 _ hk)) g1.l0 g1.c0 g1.c1 zOm zOm q4 q1;cases hx:vD E (fun env nm s=>renI ts es env nm body s) bin (i+1) r.1.1 r.1.2 ks t with
   |error d =>
    rw[hx]at ih;obtain⟨t',a1,a2,a3⟩:=ih
    grind
   |ok x =>
    grind
theorem Jv(ts es)(i:Free ts es)(hb:∀ p,p∈ts.sT->WfN p.body/\vF ts p.body):∀(f:Nat)(env sc n body s),
  4000<s.sM+(f:Int)->StOk (qG ts es) s->yd env->WfN n->vF ts n->ScOf ts body sc env->OutR (expI ts es f env n body s) (expR ts es f sc n body s).1 (expR ts es f sc n body s).2.1 (expR ts es f sc n body s).2.2
 | 0,env,sc,n,body,s,hf,g,_,_,_,_=>zW1 g.c1
 |f+1,env,sc,n,body,s,hf,g,o,hw,I,l=>by
  have a8:=g.c0;have a9:=g.c1;have p1:(payS 1 s).sM=s.sM+1:=rfl;simp only[expI,expR];by_cases J:s.sM+1<=4000
  case neg =>
   rw[if_neg J,if_neg J];exact⟨by rw[p1];omega,by rw[p1];omega,zSp,zSp⟩
  rw[if_pos J,if_pos J];have C:=(Jm g (n:=1) zOm J).ok g;by_cases h1:n.op=1
  .rw [if_pos h1,if_pos h1]
   unfold Q0 Z6;rw[l.look];cases hg:getK n.name env with
   |none=>exact⟨rfl,rfl,rfl⟩
   |some v =>
    have hv:=o.sz _ ((ZT o.nd).1 hg);have hv:0<=v.size/\v.size<=4000:=hv;simp only;cases P:v.arg with
    |none=>exact⟨rfl,rfl,rfl⟩
    |some a =>
     simp only;have e2:(payS v.size (payS 1 s)).sM=(payS 1 s).sM+v.size:=rfl;by_cases R:(payS 1 s).sM+v.size<=4000
     .rw [if_pos R];exact⟨rfl,rfl,rfl⟩
     .rw [if_neg R]
      exact⟨by rw[e2];omega,by rw[e2];omega,hv.1,hv.2⟩
  rw[if_neg h1,if_neg h1];by_cases h47:n.op=47
  .rw [if_pos h47,if_pos h47]
   obtain⟨p,T,a7⟩:=I n (K4 n) h47;have a0:=List.mem_of_find?_eq_some T;rw[T];simp only;have P:=qe0 (F:=qG ts es) (f:=f) (E:=fun k s=>expI ts es f env k body s) (E':=fun k s=>expR ts es f sc k body s) p.params n.sD [] [] (payS 1 s)
    (fun k j s g hf=>Jv ts es i hb f env sc k body s hf g o (hw.kid j) (I.kid j) l)
    (fun k n' z s s' j g e=>Zy ts i f g o e) C (by rw[p1];omega) .nil (fun nm=>rfl) (fun e hm=>absurd hm qO)
   cases U:vC (fun k s=>expI ts es f env k body s) p.params n.sD [] (payS 1 s) with
   |error d =>
    rw[U]at P;obtain⟨t,a1,a2,a3⟩:=P;rw[a1];exact⟨a2,a3,zSp,zSp⟩
   |ok x =>
    obtain⟨own,s'⟩:=x;rw[U]at P;obtain⟨L,a1,a2,a3,a4,a5,a6⟩:=P;rw[a1];obtain⟨b1,b2⟩:=hb p a0;exact Jv ts es i hb f own L p.body true s' zOm a5 a2 b1 b2 ⟨a3,fun h=>absurd h zSp,a4⟩
  .rw [if_neg h47,if_neg h47]
   have j:=qe2 i (f:=f) (body:=body) (E:=fun env k s=>expI ts es f env k body s) (E':=fun sc k s=>expR ts es f sc k body s) (bin:=binB n.op) n.sD 0 env sc n.name (payS 1 s)
    (fun k j env sc s g hf o l=>Jv ts es i hb f env sc k body s hf g o (hw.kid j) (I.kid j) l)
    (fun env k n' z s s' j g o e=>Zy ts i f g o e) C.l0 C.c0 C.c1 (by
     rw[Vm];have:=g.p
     grind [dueN]) (by rw[p1];omega) o l
   cases U:vD (fun env k s=>expI ts es f env k body s) (fun env nm s=>renI ts es env nm body s) (binB n.op) 0 env n.name n.sD (payS 1 s) with
   |error d =>
    rw[U]at j;obtain⟨t,a1,a2,a3⟩:=j;rw[a1];exact⟨a2,a3,zSp,zSp⟩
   |ok x =>
    obtain⟨⟨nm,ks,m⟩,s'⟩:=x;rw[U]at j;rw[j];exact⟨rfl,rfl,rfl⟩
end
end QY
namespace QZ
open YF Y9 Y10 Y1 YX YB YC P1 P2 PA QE QI QS QT QX QY
section
variable {mu:Mu}
abbrev eXO(ts:TS)(l:List dC)(q:XO):AV := .tup [eWk ts l q.1,eNd q.2.1,aI q.2.2]
theorem Wp(x):∀ c,c∈cSb x->HF c:=fun c g=>by
 rcases qP.1 g with g|g
 .rcases qP.1 g with g|g
  .simp only[qz,qO,or_false]at g
   rcases g with rfl|rfl|rfl<;>exact HF.sc _
  grind [qrK]
 grind [qX,HF.sc]
theorem qrP(x):(cSb x).length=9:=by simp[qrJ]
theorem Jw(l:List Sb):qV 9 (l.map cSb):=fun r g=>by
 obtain⟨x,_,rfl⟩:=qp.1 g;refine⟨qrP x,?_⟩;obtain⟨nm,⟨a,z,w⟩⟩:=x;cases a<;>simp[jp,go_sem]
theorem qe3(l):HF (lSb l):=HF.lst fun r g c i=>by
 obtain⟨x,_,rfl⟩:=qp.1 g;exact Wp x c i
theorem wkX(ts l s sc n b):WKs [eWk ts l s,lSb sc,eNd n,aB b] [eWk ts l s,lSb sc,eNd n,aB b] := .zk (wW ts l s) (.zk (qe3 sc) (.zk (qE n) (.zs .nil)))
theorem k5(ts l q):HF (eXO ts l q):=HF.tup fun x g=>by
 simp only[qz,qO,or_false]at g;rcases g with rfl|rfl|rfl
 .exact wW ts l _
 .exact qE _
 .exact HF.sc _
structure Pre (ts:TS) (es:List (dC×Bool)) (f:Nat) (env:IEnv) (sc:List Sb) (n:Nd) (body:Bool) (s:ISt):Prop where
 fu:4000<s.sM+(f:Int)
 st:StOk (qG ts es) s
 en:yd env
 wf:WfN n
 cl:vF ts n
 so:ScOf ts body sc env
 le:(sc.length:Int)<=s.sM+8
theorem rd0:Rd mu (.agg [aI 0,aS ⟨#[]⟩,aI 0,.lst true [],aI 0]) (eNd nd0) := .agg _ _ rfl fun k x y g i=>by
 match k,g,i with
 | 0,g,i=>cases g;cases i;exact .zsc _
 | 1,g,i=>cases g;cases i;exact .zsc _
 | 2,g,i=>cases g;cases i;exact .zsc _
 | 3,g,i=>cases g;cases i;exact .wk _ true _ (.hf _ (HF.lst fun r j=>absurd j qO))
 | 4,g,i=>cases g;cases i;exact .zsc _
 |k+5,g,i=>cases g
theorem rdZ(ts l s):Rd mu (.tup [eWk ts l s,.agg [aI 0,aS ⟨#[]⟩,aI 0,.lst true [],aI 0],aI 0]) (eXO ts l (s,nd0,0)) := .tup _ _ rfl fun k x y g i=>by
 match k,g,i with
 | 0,g,i=>cases g;cases i;exact .hf _ (wW ts l s)
 | 1,g,i=>grind [rd0]
 | 2,g,i=>cases g;cases i;exact .zsc _
 |k+3,g,i=>cases g
theorem qe4{lo s xs y K}(g:OwnF lo mu 9 s (xs.map cSb))(l:xs.length<=100000)(o:∀ av mu',OwnF lo mu' 9 av ((xs++[y]).map cSb)->(∀ i,i<lo->mu'[i]?=mu[i]?)->K av mu') :
  qx qg mu #[274,274] s (.lst true [cSb y]) K:=by
 refine qx.ownF (lo:=lo) (e:=281) (sz:=9) (bt:=112) (zv := .agg [aS ⟨#[]⟩,aS ⟨#[]⟩,aB false,aI 0,aS ⟨#[]⟩,aI 0,.lst true [],aI 0,aI 0]) (xs:=xs.map cSb) (ys:=[cSb y]) zSi zSi zSi rfl rfl zOm zOm g (by simp[qA]) (Jw xs) (Jw [y]) zSo ?_
 grind
abbrev ExpW(ts:TS)(l:List dC)(es:List (dC×Bool))(f:Nat)(sc:List Sb)(n:Nd)(body:Bool)(s:ISt):Prop:=
 qj qg 156 [eWk ts l s,lSb sc,eNd n,aB body] (eXO ts l (expR ts es f sc n body s))
theorem expN(ts l es f env sc n body s)(p:Pre ts es (f+1) env sc n body s)(j:s.sM+1<=4000)(i:n.op=1):ExpW ts l es (f+1) sc n body s:=by
 have o:=p.st.c0;have J:=p.le;have t:=leafU ts l sc zOm n (payS 1 s) ⟨by show 0<=s.sM+1;omega,by show s.sM+1<=_;omega⟩ (fun e C=>zW1 (p.so.sz e C));unfold ExpW;simp only[expR];rw[if_pos j,if_pos i];have I:qo.wrap (s.sM+1)=s.sM+1:=zWr;have g:¬ 4000<s.sM+1:=zOm;generalize Q0 sc n (payS 1 s)=Q at *
 refine qSQ call156 func156 rfl { mt:=[4] } ?_;simp[go_sem,I,g,i,qZ];refine t8 t (.zk (wW ts l (payS 1 s)) (.zk (qe3 sc) (.zk (qE n) .nil))) ?_;simp[go_sem,qZ];exact .hf _ (k5 ts l (Q.2,Q.1.1,Q.1.2))
theorem expZ(ts l es f env sc n body s)(p:Pre ts es (f+1) env sc n body s)(i:¬s.sM+1<=4000):ExpW ts l es (f+1) sc n body s:=by
 have j:=p.st.c0;have o:=p.st.c1;unfold ExpW;simp only[expR];rw[if_neg i];have t:qo.wrap (s.sM+1)=s.sM+1:=zWr;have g:4000<s.sM+1:=zOm;refine qSQ call156 func156 rfl { mt:=[4] } ?_;simp[go_sem,t,g,qZ]
 grind [rdZ,payS]
def repR(ts : TS)(es : List (dC × Bool))(f : Nat)(sc : List Sb)(n : Nd)(body : Bool)(s : ISt)(p : Pd) : XO := match uz (fun k s => expR ts es f sc k body s) p.params n.sD [] s with
          | .error g=>(g,nd0,0)
          | .ok (own,g)=>expR ts es f own p.body true g
theorem expC(ts l es f env sc n body s)(p:Pre ts es (f+1) env sc n body s)(j:s.sM+1<=4000)(h47:n.op=47)(g)(o:(ts.sT.find? fun p=>decide (p.name=n.name))=some g)
  (t:qj qg 214 [eWk ts l (payS 1 s),lSb sc,eNd n,aB body] (eXO ts l (repR ts es f sc n body (payS 1 s) g))):ExpW ts l es (f+1) sc n body s:=by
 have C:=p.st.c0;unfold ExpW;simp only[expR];rw[if_pos j,zIn,if_pos h47,o];simp only;have I:qo.wrap (s.sM+1)=s.sM+1:=zWr;have i:¬ 4000<s.sM+1:=zOm;show qj qg 156 [eWk ts l s,lSb sc,eNd n,aB body] (eXO ts l (repR ts es f sc n body (payS 1 s) g));generalize repR ts es f sc n body (payS 1 s) g=Q at *
 refine qSQ call156 func156 rfl { mt:=[4] } ?_;simp[go_sem,I,i,h47,qZ];refine t8 t (wkX ts l (payS 1 s) sc n body) ?_;simp[go_sem,qZ];exact .hf _ (k5 ts l Q)
theorem replW(ts)(h:okTS ts)(l es)(ah:Free ts es)(hb:∀ p,p∈ts.sT->WfN p.body/\vF ts p.body)(f)(ih:∀ env sc n body s,Pre ts es f env sc n body s->ExpW ts l es f sc n body s)(env sc n body s)(p:Pre ts es f env sc n body s)(h47:n.op=47)
  (P) (hp:(ts.sT.find? fun p=>decide (p.name=n.name))=some P) (ay:P.params.length=n.sD.length):qj qg 214 [eWk ts l s,lSb sc,eNd n,aB body] (eXO ts l (repR ts es f sc n body s P)):=by
 have a8:=List.mem_of_find?_eq_some hp;have b0:=(h.pl P a8).1;have b1:=h.np;obtain⟨i,hi,a2,ai⟩:∃ i,∃ hi:i<ts.sT.length,ts.sT[i]=P/\zC (ckR ts ts.sT.length) n.name=some i:=by
  cases hc:zC (ckR ts ts.sT.length) n.name with
  |none =>
   unfold zC at hc;rw[List.findIdx?_eq_none_iff]at hc;have:=hc P (by show P∈ts.sT.take ts.sT.length;rw[za];exact a8);have h2:=List.find?_some hp;rw[h2]at this;cases this
  |some i =>
   obtain⟨h1,h2⟩:=ZW (Wk h (qn _)) hc;have h2:i<ts.sT.length:=h2;have h3:=PF.qdJ hc h2;have h3:(ts.sT.find? fun p=>decide (p.name=n.name))=some ts.sT[i]:=h3;rw[hp]at h3;exact⟨i,h2,(Option.some.inj h3).symm,rfl⟩
 have cp:=VC (ckR ts ts.sT.length) (Wk h (qn _)) n.name;rw[ai]at cp;have C:=Yz;have a9:¬(i:Int)<0:=zOm;obtain⟨E',hE⟩:∃ E':Nd->ISt->XO,E'=fun k s=>expR ts es f sc k body s:=⟨_,rfl⟩
 obtain⟨a6,a7⟩:∃ a6,a6=repR ts es f sc n body s P:=⟨_,rfl⟩;have al:∀ k,k∈n.sD->∀ o,StOk (qG ts es) o->s.sM<=o.sM->qj qg 156 [eWk ts l o,lSb sc,eNd k,aB body] (eXO ts l (E' k o)):=fun k hk o I a9=>by
  rw[hE];exact ih env sc k body o ⟨zW1 p.fu,I,p.en,p.wf.kid hk,p.cl.kid hk,p.so,zW1 p.le⟩
 have an:∀ k,k∈n.sD->∀ o,StOk (qG ts es) o->s.sM<=o.sM->4000<(E' k o).1.sM\/(¬ 4000<(E' k o).1.sM/\Gos (qG ts es) o (E' k o).1 (E' k o).2.2):=fun k hk o I a9=>by
  have ho:=Jv ts es ah hb f env sc k body o (zW1 p.fu) I p.en (p.wf.kid hk) (p.cl.kid hk) p.so;have ao:E' k o=expR ts es f sc k body o:=by rw[hE]
  rw[ao];cases hx:expI ts es f env k body o with
  |error d=>rw[hx]at ho;exact .inl ho.1
  |ok r =>
   obtain⟨⟨m,y⟩,t⟩:=r;rw[hx]at ho;obtain⟨e1,e2,e3⟩:=ho;have g:=Zy ts ah f I p.en hx;rw[e2,e3];exact .inr ⟨zW1 g.c1,g⟩
 have aq:∀ t,uz E' P.params n.sD [] s = .error t->a6=(t,nd0,0):=fun t ht=>by
  rw[a7];unfold repR;rw[<-hE,ht]
 have ar:∀ own t O,uz E' P.params n.sD [] s = .ok (own,t)->StOk (qG ts es) t->s.sM<=t.sM->yd O->(∀ nm,u9 nm own=getK nm O)->(∀ e,e∈own->0<=e.2.size/\e.2.size<=4000)->own.length<=8->qj qg 156 [eWk ts l t,lSb own,eNd P.body,aB true] (eXO ts l a6):=fun own t O ht I a9 hO aa ab h8=>by
  have e:a6=expR ts es f own P.body true t:=by rw[a7];unfold repR;rw[<-hE,ht]
  rw[e];have b2:=I.c0;exact ih O own P.body true t ⟨zW1 p.fu,I,hO,(hb P a8).1,(hb P a8).2,⟨aa,fun h=>absurd h zSp,ab⟩,zOm⟩
 rw[<-a7];have aj:=p.st;clear a7 hE ih;refine qSQ call214 func214 rfl { mt:=[4] } ?_;simp[go_sem,qZ];refine t8 cp (.zk (zB ts) (.zs (.zs .nil))) ?_;simp[go_sem,qZ,idxO,a9];refine aP n.sD.length (fun k U=>∃(o:ISt) (L:List Sb) (O:IEnv),U.tm 1=lSb sc/\U.tm 3=aB body/\U.tm 4 = .ptr 0 0/\U.tm 6 = .ip (cNd n)/\U.tm 8 = .ptr 1 0/\U.tm 9 = .ptr 2 0/\U.tm 12=aI i/\U.tm 14=aI k/\U.mu[0]?=some (.arr (cWk ts l o))/\U.mu[1]?=some (.arr zWc)/\U.mu[2]?=some (.arr [aI 0,aS ⟨#[]⟩,aI 0,.lst true [],aI 0])/\OwnF 3 U.mu 9 (U.tm 13) (L.map cSb)/\uz E' P.params n.sD [] s=uz E' (P.params.drop k) (n.sD.drop k) L o/\StOk (qG ts es) o/\s.sM<=o.sM/\yd O/\(∀ nm,u9 nm L=getK nm O)/\(∀ e,e∈L->0<=e.2.size/\e.2.size<=4000)/\L.length=k) ?_ ?_
 .exact ⟨s,[],[],zSi,zSi,zSi,zSi,zSi,zSi,zSi,zSi,zSi,zSi,zSi,by simp[go_sem];exact OwnF.nil zSp,rfl,aj,Yf _,.nil,fun nm=>rfl,fun e he=>absurd he qO,rfl⟩
 rintro k U hk ⟨o,L,O,e1,e3,e4,e6,e8,e9,a1,a3,m0,m1,m2,ho,hI,I,ad,hO,aa,ab,au⟩;generalize a4:U.tm 13=av at *
 obtain⟨rr,T⟩:=kS m0 m1 m2;have b3:U.mu.length=rr.length+3:=by rw[T];rfl
 have az:n.sD.length<=8:=zOm;by_cases J:k<n.sD.length
 .have a5:k<P.params.length:=by omega
  have w1:=zWk k;rw[ze J,ze a5]at hI;simp only[uz]at hI;have x1:=al n.sD[k] (qv J) o I ad;have x2:=an n.sD[k] (qv J) o I ad;generalize E' n.sD[k] o=q at *
  clear m0 m1 m2;simp[go_sem,e1,e3,e4,e6,e8,e9,a1,a3,a4,T,J,a5,hi,a2,C,qZ];refine fG [0,1,2,3,4,5,6,7,8,9,10,11,12,17,13,14,15,16] [(8,1,[]),(13,2,[0,3,6]),(14,2,[0,3,6]),(15,1,[]),(16,1,[])] zKr zKr zSi ?_;simp[go_sem,e1,e3,e4,e6,e8,e9,a1,a3,a4,T,J,a5,hi,a2,C,qZ];refine t8 x1 (wkX ts l o sc n.sD[k] body) ?_;simp[go_sem,e1,e3,e4,e6,e8,e9,a1,a3,a4,T,J,a5,hi,a2,C,qZ];by_cases a0:4000<q.1.sM
  .have aw:a6=(q.1,nd0,0):=aq _ (by rw[hI,if_pos a0])
   simp[go_sem,e1,e3,e4,e6,e8,e9,a1,a3,a4,T,J,a5,hi,a2,C,qZ,a0];rw[aw];exact rdZ ts l q.1
  .rcases x2 with x2|⟨_,g⟩
   .exact absurd x2 a0
   rw[if_neg a0]at hI;simp[go_sem,e1,e3,e4,e6,e8,e9,a1,a3,a4,T,J,a5,hi,a2,C,qZ,a0];refine tJ zKr ?_;simp[go_sem,e1,e3,e4,e6,e8,e9,a1,a3,a4,T,J,a5,hi,a2,C,qZ,a0];obtain⟨g1,g2,g3⟩:=Wo g I;have gz:=g.z0;have hy:(AV.sc (.string P.params[k].1) :: AV.sc (.string ⟨#[]⟩) :: AV.sc (.bool true) :: (cNd q.2.1++[AV.sc (.int .i64 q.2.2)]))=cSb (P.params[k].1,⟨some q.2.1,q.2.2,⟨#[]⟩⟩):=zSi;rw[hy];generalize ae:(P.params[k].1,(⟨some q.2.1,q.2.2,⟨#[]⟩⟩:IV))=en at *
   refine qe4 (lo:=3) (xs:=L) (y:=en) ?_ zOm ?_
   .have h1:OwnF 3 (U.mu++[Cell.arr (cWk ts l q.1),Cell.arr (cNd q.2.1)]) 9 av (L.map cSb):=YD.qcQ ho zSo fun i _ hi=>qL hi
    rw[T]at h1;have h2:=OwnF.set (i:=0) (c:=Cell.arr (cWk ts l q.1)) h1 zOm;simpa using h2
   intro b4 R af ag;have n0:=ag 0 zOm;have n1:=ag 1 zOm;have n2:=ag 2 zOm;simp at n0 n1 n2;obtain⟨r2,ak⟩:=kS n0 n1 n2;simp[go_sem,e1,e3,e4,e6,e8,e9,a1,a3,a4,ak,J,a5,hi,a2,C,qZ,a0,w1];refine aM ⟨q.1,L++[en],setK en.1 en.2 O,zS1 e1,zS1 e3,zS1 e4,zS1 e6,zS1 e8,zS1 e9,zS1 a1,zSi,zSi,zSi,zSi,?_,?_,g1,?_,?_,?_,?_,?_⟩
   .have h2:=OwnF.set (i:=0) (c:=Cell.arr (cWk ts l q.1)) af zOm
    simp[go_sem];rw[ak]at af;simpa using af
   .rw [hI,<-ae]
   .omega
   .rw [<-ae];exact hO.set ⟨gz,g3⟩
   .intro nm
    rw[Wn,uo,aa];by_cases e:en.1=nm
    .rw [if_pos e,if_pos e.symm]
    .rw [if_neg e,if_neg fun x=>e x.symm]
   .intro e he
    rcases qP.1 he with he|he
    .exact ab e he
    .rw [qX]at he;subst he;rw[<-ae];exact⟨gz,g3⟩
   .simp [au]
 .simp [go_sem,e1,e3,e4,e6,e8,e9,a1,a3,a4,T,J,hi,a2,C,qZ]
  refine fG [0,1,2,3,4,5,6,7,8,9,10,11,12,15,13,14] [(9,1,[]),(13,1,[]),(14,1,[])] zKr zKr zSi ?_;simp[go_sem,e1,e3,e4,e6,e8,e9,a1,a3,a4,T,J,hi,a2,C,qZ];refine aA (fU (args1:=[eWk ts l o,lSb L,eNd P.body,aB true]) (fun j=>decide (3<=j)) ⟨.inl rfl,.inr ?_,.inl rfl,.inl rfl,trivial⟩ (qj.toSound _ (ar L o O ?_ I ad hO aa ab zOm) (wkX ts l o L P.body true))) ?_ ?_
  .have h1:=Y13.Kf ho (Jw L).ok fun r hr c hc=>by
    obtain⟨x,_,rfl⟩:=qp.1 hr;exact Wp x c hc
   rw[T]at h1;exact h1
  .rw [hI,Wy zOm,Wy zOm];rfl
  .rintro r m ⟨hv,rfl⟩
   cases hv;simp[go_sem,cutM,qZ,e1,e3,e4,e6,e8,e9];exact .hf _ (k5 ts l a6)
  .rintro r m ⟨hv,rfl⟩
   cases hv
end
end QZ
end Go.Proofs.YthflbhjlkgdafaaGreatDoor
set_option maxHeartbeats 1000000
namespace Go.Ev
theorem awp.cut{P pl l j g C i Q st}(J)
  (h:awp P pl l (seqQ (awp P pl j (seqQ (Keep J .mk) (ui i (seqQ (awp P pl C Q) Q)))) Q) st)
  (o:∀ st,J st->awp P pl g (ui i (seqQ (awp P pl C Q) Q)) st):awp P pl (.seq l (.seq (.block i (.seq j g)) C)) Q st:=by
 refine awp.mono l (Q:=seqQ (awp P pl j (seqQ (Keep J .mk) (ui i (seqQ (awp P pl C Q) Q)))) Q) h (fun e st h=>?_);cases e with
 |normal =>
  refine awp.mono j (Q:=seqQ (Keep J .mk) (ui i (seqQ (awp P pl C Q) Q))) h (fun e st h=>?_);cases e with
  |normal=>exact o st h
  |exit i=>exact h
  |ret=>exact h
  |pan v=>exact h
 |exit i=>exact h
 |ret=>exact h
 |pan v=>exact h
theorem qrQ{K:St->Prop}(J){st}(h:FzQ (fun _=>J) (.exit 0) st)(k:∀ st2,J st2->K st2):FzQ (fun _ st=>K st) (.exit 0) st:=by
 obtain⟨g,f,q,j⟩:=h;exact⟨g,f,q,k _ j⟩
end Go.Ev
namespace Go.Proofs.YthflbhjlkgdafaaGreatDoor
open Go Go.Ev Go.Proofs Tryz
namespace RA
open YF Y9 Y10 Y1 YX YA YB YC P1 P2 PA QD QE QK QX QY QZ
section
variable {av:AV}{es:List (dC×Bool)}{l:List dC}
theorem four{C:Type}{l}{a b c d:C}(g:l[0]?=some a)(i:l[1]?=some b)(j:l[2]?=some c)(o:l[3]?=some d):∃ r,l=a :: b :: c :: d :: r:=by
 match l,g,i,j,o with
 |_ :: _ :: _ :: _ :: r,g,i,j,o =>
  grind
def resK(n:Nd)(g:List Nd)(z:Int):Except ISt ((dC×List Nd×Int)×ISt)->XO
 | .error s=>(s,nd0,0)
 | .ok ((nm,ks,m),s)=>(s,.mk n.op nm n.n (g++ks) n.pos,z+m)
structure AtK (ts:TS) (l:List dC) (es:List (dC×Bool)) (n:Nd) (body:Bool) (s:ISt) (k:Nat) (sc2:List Sb) (env2:IEnv) (nm2:dC) (s3:ISt) (acc:List Nd) (av:AV) (z:Int) (st:St):Prop where
 e3:st.tm 3=aB body
 e4:st.tm 4 = .ptr 0 0
 e6:st.tm 6 = .ip (cNd n)
 e8:st.tm 8 = .ptr 1 0
 e9:st.tm 9 = .ptr 2 0
 e11:st.tm 11 = .ptr 3 0
 e12:st.tm 12=aI z
 e13:st.tm 13=aI k
 m0:st.mu[0]?=some (.arr (cWk ts l s3))
 m1:st.mu[1]?=some (.arr zWc)
 m2:st.mu[2]?=some (.arr [aI 0,aS ⟨#[]⟩,aI 0,.lst true [],aI 0])
 m3:st.mu[3]?=some (.arr [aI n.op,aS nm2,aI n.n,av,aI n.pos])
 ho:OwnF 4 st.mu 5 av (acc.map cNd)
 so:ScOf ts body sc2 env2
 en:yd env2
 al:acc.length=k
 l0:0<=s3.last
 c0:s.sM+1<=s3.sM
 c1:s3.sM<=4000
 z1:0<=z
 z2:z<=1+4000*(k:Int)
theorem AtK.same{ts n body s k j i o J p z st g}(A:AtK ts l es n body s k j i o J p av z st)
  (P:g.tm 3=aB body) (R:g.tm 4 = .ptr 0 0) (T:g.tm 6 = .ip (cNd n)) (U:g.tm 8 = .ptr 1 0) (e9:g.tm 9 = .ptr 2 0) (t:g.tm 11 = .ptr 3 0) (C:g.tm 12=aI z) (I:g.tm 13=aI k) (em:g.mu=st.mu):AtK ts l es n body s k j i o J p av z g:=
 ⟨P,R,T,U,e9,t,C,I,by rw[em];exact A.m0,by rw[em];exact A.m1,by rw[em];exact A.m2,by rw[em];exact A.m3,by rw[em];exact A.ho,A.so,A.en,A.al,A.l0,A.c0,A.c1,A.z1,A.z2⟩
theorem qe5{g lo sz mu mu' xs}(h:OwnF g mu sz av xs)(i:∀ b s o q,av = .sl b s o q->b<lo)(p:g<=mu'.length)(t:∀ j,g<=j->j<lo->mu'[j]?=mu[j]?):OwnF g mu' sz av xs:=by
 obtain⟨C,l,_⟩:=h;refine⟨?_,l,p⟩;rcases C with rfl|⟨b,rfl,I⟩
 .exact .inl rfl
 .exact .inr ⟨b,rfl,by rw[t b (l b _ _ _ rfl) (i b _ _ _ rfl)];exact I⟩
theorem AtK.keep{ts n body s k p i t U C z st g}(A:AtK ts l es n body s k p i t U C av z st)
  (e3:g.tm 3=aB body) (e4:g.tm 4 = .ptr 0 0) (e6:g.tm 6 = .ip (cNd n)) (e8:g.tm 8 = .ptr 1 0) (e9:g.tm 9 = .ptr 2 0) (J:g.tm 11 = .ptr 3 0) (P:g.tm 12=aI z) (R:g.tm 13=aI k) (lo) (h4:4<=lo) (T:∀ b s o q,av = .sl b s o q->b<lo) (hl:4<=g.mu.length) (I:∀ j,j<lo->g.mu[j]?=st.mu[j]?):AtK ts l es n body s k p i t U C av z g:=
 ⟨e3,e4,e6,e8,e9,J,P,R,by rw[I 0 zOm];exact A.m0,by rw[I 1 zOm];exact A.m1,by rw[I 2 zOm];exact A.m2,by rw[I 3 zOm];exact A.m3,qe5 A.ho T hl (fun j _=>I j),A.so,A.en,A.al,A.l0,A.c0,A.c1,A.z1,A.z2⟩
theorem qrR{mu lo s x}{xs ys:List Sb}{K}(g:OwnF lo mu 9 s (xs.map cSb))(j:qA mu x=some (ys.map cSb))(p:xs.length+ys.length<=100000)(l:∀ av mu',OwnF lo mu' 9 av ((xs++ys).map cSb)->(∀ i,i<lo->mu'[i]?=mu[i]?)->K av mu') :
  qx qg mu #[274,274] s x K:=by
 refine qx.ownF (lo:=lo) (e:=281) (sz:=9) (bt:=112) (zv := .agg [aS ⟨#[]⟩,aS ⟨#[]⟩,aB false,aI 0,aS ⟨#[]⟩,aI 0,.lst true [],aI 0,aI 0]) (xs:=xs.map cSb) (ys:=ys.map cSb) zSi zSi zSi rfl rfl zOm zOm g j (Jw xs) (Jw ys) zSo ?_;intro av mu' h o;exact l av mu' (by rw[zi];exact h) o
theorem expK(ts)(h:okTS ts)(l es)(t:Tn l es)(hl:l.length<=400000)(hF:qG ts es<=200000)(b4:Free ts es)(hb:∀ p,p∈ts.sT->WfN p.body/\vF ts p.body)(f)(ih:∀ env sc n body s,Pre ts es f env sc n body s->ExpW ts l es f sc n body s)
  (env) (sc) (n) (body) (s) (p:Pre ts es (f+1) env sc n body s) (hc:s.sM+1<=4000) (h1:¬n.op=1) (h47:¬n.op=47):ExpW ts l es (f+1) sc n body s:=by
 have dh:=p.st.c0;have di:=p.st.c1;have dj:=p.wf.len;obtain⟨E',hE⟩:∃ E':List Sb->Nd->ISt->XO,E'=fun sc k s=>expR ts es f sc k body s:=⟨_,rfl⟩
 obtain⟨R',bg⟩:∃ R':List Sb->dC->ISt->(List Sb×dC)×ISt,R'=fun sc nm s=>renR ts es sc nm body s:=⟨_,rfl⟩
 have bh:∀ k,k∈n.sD->∀ P I sk,StOk (qG ts es) sk->s.sM+1<=sk.sM->yd P->ScOf ts body I P->(I.length:Int)<=sk.sM+8->qj qg 156 [eWk ts l sk,lSb I,eNd k,aB body] (eXO ts l (E' I k sk)):=fun k hk P I sk b5 ch b6 bi bj=>by
  rw[hE];exact ih P I k body sk ⟨zW1 p.fu,b5,b6,p.wf.kid hk,p.cl.kid hk,bi,bj⟩
 have bk:∀ k,k∈n.sD->∀ P I sk,StOk (qG ts es) sk->s.sM+1<=sk.sM->yd P->ScOf ts body I P->4000<(E' I k sk).1.sM\/(¬ 4000<(E' I k sk).1.sM/\Gos (qG ts es) sk (E' I k sk).1 (E' I k sk).2.2):=fun k hk P I sk b5 ch b6 bi=>by
  have ho:=Jv ts es b4 hb f P I k body sk (zW1 p.fu) b5 b6 (p.wf.kid hk) (p.cl.kid hk) bi;have cj:E' I k sk=expR ts es f I k body sk:=by rw[hE]
  rw[cj];cases hx:expI ts es f P k body sk with
  |error d=>rw[hx]at ho;exact .inl ho.1
  |ok r =>
   obtain⟨⟨m,y⟩,t⟩:=r;rw[hx]at ho;obtain⟨e1,e2,e3⟩:=ho;have g:=Zy ts b4 f b5 b6 hx;rw[e2,e3];exact .inr ⟨zW1 g.c1,g⟩
 obtain⟨ax,b9⟩:∃ ax,ax=resK n [] 1 (uH E' R' (binB n.op) 0 sc n.name n.sD (payS 1 s)):=⟨_,rfl⟩;have bb:expR ts es (f+1) sc n body s=ax:=by
  simp only[expR];rw[if_pos hc,if_neg h1,if_neg h47,b9,hE,bg];cases uH (fun sc k s=>expR ts es f sc k body s) (fun sc nm s=>renR ts es sc nm body s) (binB n.op) 0 sc n.name n.sD (payS 1 s) with
  |error e=>rfl
  |ok r=>rfl
 unfold ExpW;rw[bb];clear hE bb ih;have bc:StOk (qG ts es) (payS 1 s):=(Jm p.st zOm hc).ok p.st;have w1:qo.wrap (s.sM+1)=s.sM+1:=zWr;have bj:¬ 4000<s.sM+1:=zOm;have ck:=jp n;refine qSQ call156 func156 rfl { mt:=[4] } ?_;simp[go_sem,w1,bj,h1,h47,ck];refine aP n.sD.length (fun k U=>∃(full:Bool) (I:List Sb) (P:IEnv) (a9:dC) (s2:ISt) (ad:List Nd) (av:AV) (z:Int),U.tm 1 = .lst full (I.map cSb)/\AtK ts l es n body s k I P a9 s2 ad av z U/\(I.length:Int)+(if k<=1 then 1 else 0)<=s2.sM+8/\dueN (qG ts es) (binB n.op) k<=pot (qG ts es) s2/\(k<=1->a9=n.name)/\resK n ad z (uH E' R' (binB n.op) k I a9 (n.sD.drop k) s2)=ax) ?_ ?_
 .refine ⟨false,sc,env,n.name,payS 1 s,[],.lst true [],1,zSi,⟨zSi,zSi,by simp[go_sem,jp n],zSi,zSi,zSi,zSi,zSi,by simp[go_sem];exact⟨rfl,rfl⟩,zSi,zSi,zSi,by simp[go_sem];exact OwnF.nil zSp,p.so,p.en,rfl,bc.l0,by show _<=s.sM+1;omega,bc.c1,zOm,zOm⟩,by show _<=s.sM+1+8;have:=p.le;simp;omega,?_,fun _=>rfl,b9.symm⟩
  rw[Vm];have:=p.st.p;unfold dueN;split<;>omega
 .rintro k U hk ⟨full,I,P,a9,s2,ad,av,z,J,A,af,an,b7,hI⟩
  obtain⟨rr,T⟩:=four A.m0 A.m1 A.m2 A.m3;have e3:=A.e3;have e4:=A.e4;have e6:=A.e6;have e8:=A.e8;have e9:=A.e9;have a0:=A.e11;have a5:=A.e12;have a6:=A.e13;have ai:=A.ho.one;have aj:=A.ho.cells;by_cases a7:k<n.sD.length
  .have w2:=zWk k
   rw[ze a7]at hI;simp only[uH]at hI;refine awp.cut (fun U=>∃(full:Bool) (lo:Nat) (sl:AV) (ab:List Sb) (ag:IEnv) (ar:dC) (s3:ISt) (av:AV),(if binB n.op=true/\k=1 then R' I a9 s2 else ((I,a9),s2))=((ab,ar),s3)/\U.tm 1=sl/\(sl = .lst full (ab.map cSb)\/(OwnF lo U.mu 9 sl (ab.map cSb)/\(∀ b s o q,av = .sl b s o q->b<lo)/\4<=lo))/\AtK ts l es n body s k ab ag ar s3 ad av z U/\(ab.length:Int)+(if k+1<=1 then 1 else 0)<=s3.sM+8/\dueN (qG ts es) (binB n.op) (k+1)<=pot (qG ts es) s3/\(k+1<=1->ar=n.name)) ?_ ?_
   .clear bh bk
    by_cases aq:k=1
    .subst aq
     have be:=b7 (qn _);have de:U.mu.length=rr.length+4:=by rw[T];rfl
     have az:∀ b s o q,av = .sl b s o q->b<rr.length+4:=fun b s o q e=>by
      rcases A.ho.1 with h|⟨c,h,hc⟩
      .rw [h]at e;cases e
      .rw [h]at e;cases e;have:=(ql.1 hc).1;omega
     have aa:(1:Int)<n.sD.length:=zOm;have cm:=A.c0;have b8:=A.l0;have cp:=A.c1;by_cases ak:binB n.op=true
     .have a8:n.op=15\/n.op=45\/n.op=46:=by simpa[binB,or_assoc] using ak
      have dk:=h.ns;have dm:=h.nf;have dn:qG ts es<=l.length+40:=by have:=t.len;unfold qG;omega
      have cq:okNm ts:=⟨h.sl,zOm,zOm,fun f hf=>zW1 (h.fl f hf)⟩;have cn:=kE ts cq n.name;have aw:=kC ts n.name;have cr:(named ts n.name).2=(zS ts n.name).length:=by rw[kQ h]
      rw[cr]at cn;generalize (named ts n.name).1=C at *
      have bt:StOk (qG ts es) s2:=⟨b8,zOm,cp,zW1 (U1 (qG ts es) (binB n.op) 1)⟩;have cs:=bt.last;have cf:=qrI ts h l es t hl s2 ⟨b8,zOm⟩ (b4 s2.last b8);by_cases ae:body=true\/zS ts n.name≠[]
      .have hq:(if binB n.op=true/\1=1 then R' I a9 s2 else ((I,a9),s2))=((I++[(n.name,⟨none,0,vN (yE ts es (qG ts es) s2.last)⟩)],vN (yE ts es (qG ts es) s2.last)),⟨yE ts es (qG ts es) s2.last,s2.sM⟩):=by
        rw[if_pos ⟨ak,rfl⟩,bg,be];show renR ts es I n.name body s2=_;unfold renR;rw[if_pos ae]
       have ct:body=true\/(body=false/\0<(zS ts n.name).length):=by
        cases body with
        |true=>exact .inl rfl
        |false=>exact .inr ⟨rfl,List.length_pos_iff.2 (ae.resolve_left zSp)⟩
       clear hI;have bu:renR ts es I n.name body s2=((I++[(n.name,⟨none,0,vN (yE ts es (qG ts es) s2.last)⟩)],vN (yE ts es (qG ts es) s2.last)),⟨yE ts es (qG ts es) s2.last,s2.sM⟩):=by
        unfold renR;rw[if_pos ae]
       obtain⟨a1,a2,a3⟩:=qe1 (es:=es) (nm:=n.name) (s:=s2) A.en A.so;have a4:=K5 (ts:=ts) (es:=es) (nm:=n.name) (body:=body) (s:=s2) A.en;obtain⟨b1,b2,b3⟩:=K6 (body:=body) (nm:=n.name) (env:=P) b4 b8;rw[bu]at a1 a3;rw[<-a3]at b1 b2;simp only at b1 b2 a1;have bl:dueN (qG ts es) (binB n.op) 1=(qG ts es:Int):=by unfold dueN;rw[if_pos ⟨ak,zOm⟩]
       have bm:dueN (qG ts es) (binB n.op) 2=0:=by unfold dueN;rw[zIn]
       rw[bl]at an;unfold pot at an;generalize (renI ts es P n.name body s2).1.1=ag at *
       clear a2 a3 b3;generalize dp:yE ts es (qG ts es) s2.last=R at *
       rcases a8 with a8|a8|a8<;>rcases ct with au|⟨au,cu⟩
       all_goals
        simp[go_sem,e3,e4,e6,e8,e9,a0,a5,a6,J,T,a7,aa,a8,qZ];refine t8 cn (.zk (zB ts) (.zs .nil)) ?_;simp[go_sem,e3,e4,e6,e8,e9,a0,a5,a6,J,T,a7,aa,a8,qZ,aw.len];rw[if_pos aw.one];generalize putCells _ 0 C=PC
        first
        |simp[go_sem,e3,e4,e6,e8,e9,a0,a5,a6,J,T,a7,aa,a8,qZ,au,cu]
        |simp[go_sem,e3,e4,e6,e8,e9,a0,a5,a6,J,T,a7,aa,a8,qZ,au]
        refine t8 cf (.zk (wW ts l s2) .nil) ?_;simp[go_sem,e3,e4,e6,e8,e9,a0,a5,a6,J,T,a7,aa,a8,qZ,au];refine qk.move 2 2 zKr zKr ?_ ?_
        all_goals
         simp[go_sem,e3,e4,e6,e8,e9,a0,a5,a6,J,T,a7,aa,a8,qZ,au];refine qrR (lo:=rr.length+6) (xs:=[]) (ys:=I) (OwnF.nil zSp) (by simp[qA]) (by simp at af⊢;omega) ?_;intro dq dr cv aq;simp[go_sem,e3,e4,e6,e8,e9,a0,a5,a6,J,T,a7,aa,a8,qZ,au];refine qe4 (y:=(n.name,⟨none,0,vN R⟩)) cv (by simp at af⊢;omega) ?_;intro cw ds ay ah;have n0:=(ah 0 zOm).trans (aq 0 zOm);have n1:=(ah 1 zOm).trans (aq 1 zOm);have n2:=(ah 2 zOm).trans (aq 2 zOm);have n3:=(ah 3 zOm).trans (aq 3 zOm);simp at n0 n1 n2 n3;simp[go_sem,e3,e4,e6,e8,e9,a0,a5,a6,J,a7,aa,a8,qZ,au];refine aM ⟨false,rr.length+6,cw,I++[(n.name,⟨none,0,vN R⟩)],ag,vN R,⟨R,s2.sM⟩,av,hq,zSi,.inr ⟨zVs ay,?_,zOm⟩,⟨zS2 e3 au,zS1 e4,zS1 e6,zS1 e8,zS1 e9,zS1 a0,zS1 a5,zS1 a6,by simp[go_sem,n0],zS1 n1,zS1 n2,zS2 n3 a8,?_,a1,a4,A.al,b1,A.c0,A.c1,A.z1,A.z2⟩,?_,?_,fun h=>zOm⟩
         .intro b s o q e;have:=az b s o q e;omega
         .simp only[qK]
          refine qe5 A.ho az (zW1 ay.2.2) fun j h4 hj=>?_
          obtain⟨i,rfl⟩:∃ i,j=i+4:=⟨j-4,zOm⟩;rw[ah _ zOm,aq _ zOm,T];simp only[vW];rw[zGa]
         .simp at af⊢;omega
         .rw [bm];unfold pot;simp only;omega
      .have bv:body=false:=by cases body with
        |true=>exact absurd (.inl rfl) ae
        |false=>rfl
       have cx:zS ts n.name=[]:=Classical.byContradiction fun x=>ae (.inr x)
       have hq:(if binB n.op=true/\1=1 then R' I a9 s2 else ((I,a9),s2))=((I,a9),s2):=by
        rw[if_pos ⟨ak,rfl⟩,bg,be];show renR ts es I n.name body s2=_;unfold renR;rw[if_neg ae]
       rcases a8 with a8|a8|a8
       all_goals
        simp[go_sem,e3,e4,e6,e8,e9,a0,a5,a6,J,T,a7,aa,a8,qZ];refine t8 cn (.zk (zB ts) (.zs .nil)) ?_;simp[go_sem,e3,e4,e6,e8,e9,a0,a5,a6,J,T,a7,aa,a8,qZ,aw.len];rw[if_pos aw.one];generalize putCells _ 0 C=PC;simp[go_sem,e3,e4,e6,e8,e9,a0,a5,a6,J,T,a7,aa,a8,qZ,bv,cx];refine aM ⟨full,rr.length+5,.lst full (I.map cSb),I,P,a9,s2,av,hq,zS1 J,.inl rfl,A.keep (zS2 e3 bv) (zS1 e4) (zS1 e6) (zS1 e8) (zS1 e9) (zS1 a0) (zS1 a5) (zS1 a6) (rr.length+4) zOm ?_ zSi (fun j hj=>?_),?_,?_,fun h=>zOm⟩
        .exact az
        .simp only[qK]
         rw[T]
         match j,hj with
         | 0,_=>rfl
         | 1,_=>rfl
         | 2,_=>rfl
         | 3,_=>simp[a8]
         |i+4,hj =>
          simp only[vW];rw[zGa]
        .simp at af⊢;omega
        .have bl:dueN (qG ts es) (binB n.op) 1=(qG ts es:Int):=by unfold dueN;rw[if_pos ⟨ak,zOm⟩]
         have bm:dueN (qG ts es) (binB n.op) 2=0:=by unfold dueN;rw[zIn]
         rw[bl]at an;rw[bm];omega
     .have bw:¬n.op=15:=fun e=>ak (by simp[binB,e])
      have ca:¬n.op=45:=fun e=>ak (by simp[binB,e])
      have cb:¬n.op=46:=fun e=>ak (by simp[binB,e])
      simp[go_sem,e3,e4,e6,e8,e9,a0,a5,a6,J,T,a7,aa,bw,ca,cb,qZ];refine aM ⟨full,4,.lst full (I.map cSb),I,P,a9,s2,av,by rw[if_neg (fun x=>ak x.1)],zS1 J,.inl rfl,A.same (zS1 e3) (zS1 e4) (zS1 e6) (zS1 e8) (zS1 e9) (zS1 a0) (zS1 a5) (zS1 a6) (zS1 T),?_,?_,fun h=>zOm⟩
      .simp at af⊢;omega
      .rw [<-qcO (fun x=>ak x.1)];exact an
    .have cc:¬(k:Int)=1:=by omega
     simp[go_sem,e3,e4,e6,e8,e9,a0,a5,a6,J,T,a7,cc,qZ];refine aM ⟨full,4,.lst full (I.map cSb),I,P,a9,s2,av,by rw[if_neg (fun x=>aq x.2)],zS1 J,.inl rfl,A.same (zS1 e3) (zS1 e4) (zS1 e6) (zS1 e8) (zS1 e9) (zS1 a0) (zS1 a5) (zS1 a6) (zS1 T),?_,?_,fun h=>b7 zOm⟩
     .split at af<;>split<;>omega
     .rw [<-qcO (fun x=>aq x.2)];exact an
   .rintro U ⟨full,lo,sl,ab,ag,ar,s3,av,hq,J,bn,A,af,an,b7⟩
    rw[hq]at hI;simp only at hI;have b0:StOk (qG ts es) s3:=⟨A.l0,zW1 A.c0,A.c1,zW1 (U1 (qG ts es) (binB n.op) (k+1))⟩;have bo:(ab.length:Int)<=s3.sM+8:=by split at af<;>omega
    have x1:=bh n.sD[k] (qv a7) ag ab s3 b0 A.c0 A.en A.so bo;have x2:=bk n.sD[k] (qv a7) ag ab s3 b0 A.c0 A.en A.so;generalize E' ab n.sD[k] s3=q at *
    clear bh bk;rw[qiX,qiY];refine qk.fz (qrQ (fun U=>∃ full,U.tm 1 = .lst full (ab.map cSb)/\AtK ts l es n body s k ab ag ar s3 ad av z U) ?_ ?_)
    .rcases bn with bn|⟨cy,az,h4⟩
     .exact FzQ.skip ⟨full,by rw[J,bn],A⟩
     .refine FzQ.own (d:=1) J cy (Jw ab) (fun r hr c hc=>by obtain⟨x,_,rfl⟩:=qp.1 hr;exact Wp x c hc) ?_
      intro da bq dt ah;refine⟨bq,zSi,A.keep (by simp[go_sem,A.e3]) (by simp[go_sem,A.e4]) (by simp[go_sem,A.e6]) (by simp[go_sem,A.e8]) (by simp[go_sem,A.e9]) (by simp[go_sem,A.e11]) (by simp[go_sem,A.e12]) (by simp[go_sem,A.e13]) lo h4 az ?_ ?_⟩
      .have:=A.ho.2.2;simp only[qK];omega
      .intro j hj;simp only[qK];exact ah j hj
    rintro U ⟨full,J,A⟩;obtain⟨rr,T⟩:=four A.m0 A.m1 A.m2 A.m3;have e3:=A.e3;have e4:=A.e4;have e6:=A.e6;have e8:=A.e8;have e9:=A.e9;have a0:=A.e11;have a5:=A.e12;have a6:=A.e13;have ai:=A.ho.one;have aj:=A.ho.cells;refine fG [0,1,2,3,4,5,6,7,8,9,10,11,12,17,13,14,15,16] [(8,1,[]),(13,2,[0,3,6]),(14,2,[0,3,6]),(15,1,[]),(16,1,[])] zKr zKr zSi ?_;simp[go_sem,e3,e4,e6,e8,e9,a0,a5,a6,J,T,a7,qZ,ai,aj];refine t8 x1 (.zk (wW ts l s3) (.cons (WK.lst fun r hr c hc=>by
     obtain⟨x,_,rfl⟩:=qp.1 hr;exact Wp x c hc) (.zk (qE _) (.zs .nil)))) ?_
    simp[go_sem,e3,e4,e6,e8,e9,a0,a5,a6,J,T,a7,qZ,ai,aj];by_cases ao:4000<q.1.sM
    .rw [if_pos ao]at hI
     have hI:ax=(q.1,nd0,0):=hI.symm;simp[go_sem,e3,e4,e6,e8,e9,a0,a5,a6,J,T,a7,qZ,ai,aj,ao];rw[hI];exact rdZ ts l q.1
    .rcases x2 with x2|⟨_,g⟩
     .exact absurd x2 ao
     rw[if_neg ao]at hI;simp[go_sem,e3,e4,e6,e8,e9,a0,a5,a6,J,T,a7,qZ,ai,aj,ao];obtain⟨g1,g2,g3⟩:=Wo g b0;have gz:=g.z0;have du:=g.cz;have db:=g.c1;have gp:=g.p;have dv:=A.z1;have dw:=A.z2;have cm:=A.c0;have dc:=A.al;have df:=A.ho.2.2;refine YD.appNd (lo:=4) (xs:=ad) ?_ zOm ?_
     .have h1:OwnF 4 (U.mu++[Cell.arr (cWk ts l q.1),Cell.arr (cNd q.2.1)]) 5 av (ad.map cNd):=YD.qcQ A.ho zSo fun i _ hi=>qL hi
      rw[T]at h1;have h2:=OwnF.set (i:=0) (c:=Cell.arr (cWk ts l q.1)) h1 zOm;simpa using h2
     intro cd da ay ah;have n0:=ah 0 zOm;have n1:=ah 1 zOm;have n2:=ah 2 zOm;have n3:=ah 3 zOm;simp at n0 n1 n2 n3;obtain⟨r2,cg⟩:=four n0 n1 n2 n3;have br:=ay.one;have bs:=ay.cells;have w3:qo.wrap (z+q.2.2)=z+q.2.2:=zWr;simp[go_sem,e3,e4,e6,e8,e9,a0,a5,a6,J,cg,a7,qZ,br,bs,ao,w2,w3];refine aM ⟨full,ab,ag,ar,q.1,ad++[q.2.1],cd,z+q.2.2,zS1 J,⟨zS1 e3,zS1 e4,zS1 e6,zS1 e8,zS1 e9,zS1 a0,zSi,zSi,zSi,zSi,zSi,zSi,?_,A.so,A.en,zP1 dc,g1.l0,zOm,db,zOm,zOm⟩,zOm,zOm,b7,?_⟩
     .have h2:=OwnF.set (i:=3) (c:=Cell.arr [aI n.op,aS ar,aI n.n,cd,aI n.pos]) ay zOm
      rw[cg]at h2;simpa[go_sem] using h2
     .rw [<-hI]
      generalize uH E' R' (binB n.op) (k+1) ab ar (List.drop (k+1) n.sD) q.1=X;cases X with
      |error e=>rfl
      |ok r =>
       obtain⟨⟨a,b,c⟩,d⟩:=r;simp[resK];omega
  .simp [go_sem,e3,e4,e6,e8,e9,a0,a5,a6,J,T,a7,qZ,ai,aj]
   refine fG [0,1,2,5,3,4] [(3,1,[1]),(4,1,[])] zKr zKr zSi ?_;simp[go_sem,e3,e4,e6,e8,e9,a0,a5,a6,J,T,a7,qZ,ai,aj];rw[Wy zOm]at hI;have hI:ax=(s2,.mk n.op a9 n.n ad n.pos,z):=by rw[<-hI];simp[uH,resK]
   rw[hI];refine .tup _ _ rfl fun k x y hx hy=>?_
   match k,hx,hy with
   | 0,hx,hy=>cases hx;cases hy;exact .hf _ (wW ts l s2)
   | 1,hx,hy =>
    cases hx;cases hy;have dd:eNd (.mk n.op a9 n.n ad n.pos) = .agg [aI n.op,aS a9,aI n.n,.lst false (ad.map cNd),aI n.pos]:=by
     show AV.agg (cNd _)=_;rw[jp];rfl
    show Rd _ _ (eNd (.mk n.op a9 n.n ad n.pos));rw[dd];refine .agg _ _ rfl fun k x y hx hy=>?_
    match k,hx,hy with
    | 0,hx,hy=>cases hx;cases hy;exact .zsc _
    | 1,hx,hy=>cases hx;cases hy;exact .zsc _
    | 2,hx,hy=>cases hx;cases hy;exact .zsc _
    | 3,hx,hy =>
     cases hx;cases hy;have h1:=OwnF.set (i:=1) (c:=Cell.arr (cWk ts l s2)) A.ho zOm;have h2:=OwnF.set (i:=2) (c:=Cell.arr [aI n.op,aS a9,aI n.n,av,aI n.pos]) h1 zOm;rw[T]at h2;exact h2.1.rd (YD.K7 ad).ok fun r hr c hc=>by
      obtain⟨x,_,rfl⟩:=qp.1 hr;exact jQ x c hc
    | 4,hx,hy=>cases hx;cases hy;exact .zsc _
    |k+5,hx,hy=>cases hx
   | 2,hx,hy=>cases hx;cases hy;exact .zsc _
   |k+3,hx,hy=>cases hx
end
end RA
namespace RB
open YF Y9 Y1 YX YZ YB YC YE YG YH P1 P2 Q4 Q6 PF QE QT QW QX QY QZ RA
theorem qe6(l):∀ es nm,getK nm (putN es l)=some true↔(getK nm es=some true\/∃ x,x∈l/\x.name=nm):=by
 induction l with
 |nil=>intro es nm;exact⟨fun h => .inl h,fun h=>h.elim id fun⟨x,g,_⟩=>absurd g qO⟩
 |cons a l i =>
  intro es nm;have e:putN es (a :: l)=putN (setK a.name true es) l:=rfl;rw[e,i,uo];by_cases e:nm=a.name
  .grind
  .rw [if_neg e]
   constructor
   .grind
   .rintro (h|⟨x,g,j⟩)
    .exact .inl h
    .rcases qz.1 g with rfl|g
     .grind
     grind
theorem qrS(l:List Pd):∀ es nm,getK nm (l.foldl (fun es p=>putN es (preN p.body)) es)=some true↔(getK nm es=some true\/∃ p,p∈l/\∃ x,x∈preN p.body/\x.name=nm):=by
 induction l with
 |nil=>simp
 |cons a l i =>
  intro es nm;rw[List.foldl_cons,i,qe6];constructor
  .grind
  .rintro (h|⟨p,g,h⟩)
   .grind
   .rcases qz.1 g with rfl|g
    .grind
    grind
structure Ti (es:List (dC×Bool)):Prop where
 nd:(es.map Prod.fst).Nodup
 tr:∀ e,e∈es->e.2=true
theorem Ti.put(l):∀{es},Ti es->Ti (putN es l):=by
 induction l with
 |nil=>intro es h;exact h
 |cons a l i =>
  intro es h;refine i (es:=setK a.name true es) ⟨Us h.nd,fun e g=>?_⟩;rcases U4 g with rfl|g
  .rfl
  .exact h.tr e g
theorem tM(l:List Pd):∀{es},Ti es->Ti (l.foldl (fun es p=>putN es (preN p.body)) es):=by
 induction l with
 |nil=>grind
 |cons a l g=>intro es h;exact g (h.put _)
theorem k6{nm}(n)(i:nm≠⟨#[]⟩):nm∈namL n↔∃ x,x∈preN n/\x.name=nm:=by
 unfold namL;rw[qp];constructor
 .rintro ⟨x,g,e⟩
  exact⟨x,(jg.1 g).1,e⟩
 .rintro ⟨x,g,e⟩
  exact⟨x,jg.2 ⟨g,by rw[e];simpa using i⟩,e⟩
theorem takTn(ts n):Tn (takL ts n) (vG ts n):=by
 have i:∀ nm:dC,nm≠⟨#[]⟩->(nm∈takL ts n↔getK nm (vG ts n)=some true):=fun nm o=>by
  unfold takL vG;rw[qrS,qe6,qP,k6 n o,List.mem_flatMap];constructor
  .grind [k6]
  .rintro ((h|h)|⟨p,P,h⟩)
   .cases h
   .exact .inl h
   grind [k6]
 refine⟨i,?_⟩;have g:Ti (vG ts n):=tM _ (Ti.put _ ⟨.nil,fun e t=>absurd t qO⟩);have:=List.Nodup.length_le_of_subset (l₂:=⟨#[]⟩ :: takL ts n) g.nd fun x C=>by
  by_cases e:x=⟨#[]⟩
  .grind
  .refine q9 _ ((i x e).2 ?_)
   obtain⟨q,l,rfl⟩:=qp.1 C;have I:=g.tr q l;have J:=(ZT g.nd (k:=q.1) (v:=q.2)).2 l;rw[J,I]
 grind
theorem qe7(ts)(h:okTS ts)(l es)(t:Tn l es)(J:l.length<=400000)(P:qG ts es<=200000)(g:Free ts es)(j:∀ p,p∈ts.sT->WfN p.body/\vF ts p.body):∀ f env sc n body s,Pre ts es f env sc n body s->ExpW ts l es f sc n body s
 | 0,env,sc,n,body,s,p=>zW2 p.fu p.st.c1
 |f+1,env,sc,n,body,s,p=>by
  have R:=qe7 ts h l es t J P g j f;by_cases o:s.sM+1<=4000
  case neg=>grind [expZ]
  by_cases T:n.op=1
  .grind [expN]
  by_cases h47:n.op=47
  .obtain ⟨C,I,i⟩:=p.cl n (K4 n) h47
   have U:(payS 1 s).sM=s.sM+1:=rfl;exact expC ts l es f env sc n body s p o h47 C I (replW ts h l es g j f R env sc n body (payS 1 s) ⟨zW1 p.fu,(Jm p.st zOm o).ok p.st,p.en,p.wf,p.cl,p.so,zW1 p.le⟩ h47 C I i)
  grind [expK]
theorem inlRU(ts)(h:okTS ts)(hv:∀ p,p∈ts.sT->yb p.body=true)(hb:∀ p,p∈ts.sT->WfN p.body/\vF ts p.body)(n)(hn:yb n=true)(a7:(jE ts [] n).1=0->vF ts n):qj qg 73 [eTS ts,eNd n] (.tup [eNd (zm ts n).1,aI (zm ts n).2]):=by
 have U:=ux hn;have a8:=Z9.1 hn;have C:∀ p,p∈ts.sT->WfN p.body:=fun p hp=>(hb p hp).1
 have a9:∀ p,p∈ts.sT->(preN p.body).length<=400:=fun p hp=>by grind [Z9,Vs]
 have aa:(preN n).length<=400:=by grind [Vs]
 have hF:=qpC h hv hn;have hT:=takTn ts n;have af:=h.np;have ab:(takL ts n).length<=400000:=by
  have h1:∀ L:List Pd,(∀ p,p∈L->(preN p.body).length<=400)->(L.flatMap fun p=>namL p.body).length<=400*L.length:=by
   intro L;induction L with
   |nil=>intro _;simp
   |cons a L ih =>
    intro hL;have a1:=ih fun p hp=>hL p (q9 _ hp)
    have a2:=Wm a.body;have a3:=hL a (zo ..);rw[List.flatMap_cons,zj,List.length_cons];omega
  grind [Wm,takL,zj]
 have J:=qoM ts (vG ts n);have P:StOk (qG ts (vG ts n)) ⟨0,0⟩:=⟨zSp,zSp,zSp,by simp[pot]⟩;have cf:=qeR ts h C [] ⟨zSp,zSp⟩ zSp n U a8.2.2.2;have l:=qa7 (szN n) n (qn _) U.small;have ct:=qrD ts h C n U aa a9;have T:WKs [eTS ts,.lst true [],eNd n] [eTS ts,lPm [],eNd n] := .zk (zB ts) (.cons (WK.lst fun r hr=>absurd hr qO) (.zk (qE n) .nil));have ad:WKs [eTS ts,eNd n] [eTS ts,eNd n] := .zk (zB ts) (.zk (qE n) .nil);generalize i:zm ts n=R;unfold zm at i;by_cases j:(jE ts [] n).1=0
 case neg =>
  rw[if_pos j]at i;subst i;refine qSU call73 func73 rfl ?_;refine t8 cf T ?_;simp[go_sem,j];refine fG [0,1,2,4,3] [(3,1,[2])] zKr zKr zSi ?_;simp_all[go_sem,Vp]
 rw[if_neg (zUs j)]at i;cases ha:anyN (fun n=>decide (n.op=47)) n with
 |false =>
  rw[ha]at i l;rw[if_pos rfl]at i;subst i;refine qSU call73 func73 rfl ?_;refine t8 cf T ?_;simp[go_sem,j];refine t8 l (.zk (qE n) .nil) ?_;simp[go_sem,j];exact .hf _ (HF.tup fun x hx=>by
   simp only[qz,qO,or_false]at hx;rcases hx with rfl|rfl
   .exact qE n
   .exact HF.sc _)
 |true =>
  rw[ha]at i l;rw[if_neg zSp]at i;have a0:=a7 j;have cx:=qe7 ts h (takL ts n) (vG ts n) hT ab hF J hb 4001 [] [] n false ⟨0,0⟩ ⟨zSp,P,.nil,U,a0,⟨fun nm=>rfl,fun _ nm v hv=>(by cases hv),fun e he=>absurd he qO⟩,zSp⟩;have ho:=Jv ts (vG ts n) J hb 4001 [] [] n false ⟨0,0⟩ zSp P .nil U a0 ⟨fun nm=>rfl,fun _ nm v hv=>(by cases hv),fun e he=>absurd he qO⟩;have a4:=fun {n' z s'}=>U5 ts C (vG ts n) 4001 (env:=[]) (n:=n) (n':=n') (body:=false) (s:=⟨0,0⟩) (s':=s') (z:=z) (fun e he=>absurd he qO) U
  have a5:=fun {n' z s'}=>Zy ts J 4001 (env:=[]) (n:=n) (n':=n') (body:=false) (s':=s') (z:=z) P .nil
  have a6:=fun {d}=>Vo ts (vG ts n) 4001 (env:=[]) (n:=n) (body:=false) (s:=⟨0,0⟩) (d:=d)
  unfold outI at i;unfold ExpW at cx;generalize expR ts (vG ts n) 4001 [] n false ⟨0,0⟩=q at *
  generalize expI ts (vG ts n) 4001 [] n false ⟨0,0⟩=E at *
  have ae:(4000<q.1.sM/\R=(nd0,2))\/(¬ 4000<q.1.sM/\Small q.2.1/\depN q.2.1<=1000000/\((400<q.2.2/\R=(nd0,2))\/(¬ 400<q.2.2/\24<depN q.2.1/\R=(nd0,2))\/(¬ 400<q.2.2/\¬ 24<depN q.2.1/\R=(q.2.1,0)))):=by
   cases E with
   |error d =>
    have:=a6 rfl;subst this;exact .inl ⟨ho.1,i.symm⟩
   |ok r =>
    obtain⟨⟨m,y⟩,t⟩:=r;obtain⟨o1,o2,o3⟩:=ho;obtain⟨s1,s2⟩:=a4 rfl;have g:=a5 rfl;have gc:=g.c1;have gz:=g.cz;have dl:=qcR m;rw[o1,o2,o3];have gz:0+y<=t.sM:=gz;refine .inr ⟨zOm,s2,zOm,?_⟩;simp only at i;by_cases z1:y<=400
    .by_cases z2:depN m<=24
     .grind
     grind
    .rw [if_neg (fun x=>z1 x.1)]at i
     grind
  clear i ho a4 a5 a6;refine qSU call73 func73 rfl ?_;refine t8 cf T ?_;simp[go_sem,j];refine t8 l (.zk (qE n) .nil) ?_;simp[go_sem,j];refine fG [0,1,2,5,3,4,6,7,8,9,10,15,11,12,13,14] [(3,1,[0,5]),(6,1,[]),(11,2,[0,1,2,5]),(12,2,[0,1,2,5]),(13,1,[]),(14,1,[])] zKr zKr zSi ?_;simp[go_sem,j];refine t8 ct ad ?_;simp[go_sem,j];refine t8 cx ?_ ?_
  .exact .zk (wW ts (takL ts n) ⟨0,0⟩) (.cons (WK.lst fun r hr=>absurd hr qO) (.zk (qE n) (.zs .nil)))
  simp[go_sem,j];have ag:∀ I:Mu,Rd I (.tup [eNd q.2.1,aI 0]) (.tup [eNd q.2.1,aI 0]):=fun I => .hf _ (HF.tup fun x hx=>by
   simp only[qz,qO,or_false]at hx;rcases hx with rfl|rfl
   .exact qE _
   .exact HF.sc _)
  rcases ae with ⟨g1,g2⟩|⟨g1,gs,gd,⟨g2,g3⟩|⟨g2,g3,g4⟩|⟨g2,g3,g4⟩⟩
  .simp_all [go_sem,g1,Vp]
  .rw [g3]
   simp[go_sem,j,g1,g2];exact Vp _ _
  .rw [g4]
   simp[go_sem,j,g1,g2];refine t8 (kY (szN q.2.1) q.2.1 (qn _) gs gd) (.zk (qE _) .nil) ?_;simp_all[go_sem,g1,Vp]
  .rw [g4]
   simp[go_sem,j,g1,g2];refine t8 (kY (szN q.2.1) q.2.1 (qn _) gs gd) (.zk (qE _) .nil) ?_;simp[go_sem, *]
end RB
namespace FF
open Y1 YZ F2
mutual
theorem qe8:∀ n:Nd,depN n=(dN n:Int)
 | .mk _ _ _ ks _=>by simp only[depN,dN];rw[qe9 ks];omega
theorem qe9:∀ ks:List Nd,yw ks=(dNs ks:Int)
 | []=>rfl
 |k :: ks=>by simp only[yw,dNs];rw[qe8 k,qe9 ks];omega
end
end FF
namespace IB
open QU P1 P2 Y1 YF Y9 Y10 Y16 YX YB PA YC YE YG Q4 PE PF RB F2 FD FE FF
section
variable {C g:Type}{es:List (dC×Bool)}{ts:TS}
structure SpD (ts:TS):Prop where
 h:okTS ts
 wp:∀ p,p∈ts.sT->WfN p.body
 wf:∀ f,f∈ts.sP->WfN f.2
 hv:∀ p,p∈ts.sT->yb p.body=true
 hf:∀ f,f∈ts.sP->yb f.2=true
theorem SpD.chk(S:SpD ts):qj qg 29 [eTS ts] (lDg (vT ts)):=
 qq8 ts S.h S.wp S.wf (fun p g=>(Z9.1 (S.hv p g)).2.2.2) (fun f hf=>(Z9.1 (S.hf f hf)).2.2.2)
theorem qrT(S:SpD ts)(j:vT ts=[]):∀ p,p∈ts.sT->WfN p.body/\vF ts p.body:=fun p g=>⟨S.wp p g,by
 obtain⟨i,l,rfl⟩:=uA.1 g;obtain⟨_,t,o⟩:=Wa (qdL j i l);exact kq (uD S.h zOm) (szN ts.sT[i].body) _ _ _ _ (qn _) o (S.wp _ g)⟩
theorem callF(S:SpD ts){n}(g:yb n=true)(i:(jE ts [] n).1=0):vF ts n:=by
 obtain⟨_,l,j⟩:=Wa i;exact kq (uD S.h (qn _)) (szN n) _ _ _ _ (qn _) j (ux g)
theorem inlR(S:SpD ts)(i:vT ts=[]){n}(g:yb n=true):qj qg 73 [eTS ts,eNd n] (.tup [eNd (zm ts n).1,aI (zm ts n).2]):=
 inlRU ts S.h S.hv (qrT S i) n g (callF S g)
def WfE(env:IEnv):Prop:=∀ e,e∈env->∀ a,e.2.arg=some a->WfN a/\kd a.op=101
theorem qfA[DecidableEq g]{k v}:∀{es}{x:g×C},x∈setK k v es->x=(k,v)\/x∈es
 | [],x,h=>by simp[setK]at h;exact .inl h
 |e :: es,x,h=>by
  unfold setK at h;split at h
  .rcases qz.1 h with h|h
   .exact .inl h
   .exact .inr (q9 _ h)
  .rcases qz.1 h with h|h
   .exact .inr (by rw[h];exact zo ..)
   .rcases qfA h with h|h
    .exact .inl h
    .exact .inr (q9 _ h)
theorem WfE.set{env}(h:WfE env){k v}(j:∀ a,v.arg=some a->WfN a/\kd a.op=101):WfE (setK k v env):=fun e g a i=>by
 rcases qfA g with rfl|g
 .exact j a i
 .exact h e g a i
theorem Yy[DecidableEq g]{k}:∀{es}{x:g×C},x∈delK k es->x∈es
 | [],x,h=>by cases h
 |e :: es,x,h=>by
  unfold delK at h;split at h
  .exact q9 _ h
  .rcases qz.1 h with h|h
   .rw [h];exact zo ..
   .exact q9 _ (Yy h)
theorem qfB[DecidableEq g]{k v}:∀{es:List (g×C)},getK k es=some v->∃ e,e∈es/\e.2=v
 | [],h=>by cases h
 |e :: es,h=>by
  unfold getK at h;split at h
  .cases h;exact⟨e,zo ..,rfl⟩
  .obtain ⟨x,i,j⟩:=qfB h
   exact⟨x,q9 _ i,j⟩
theorem WfE.ren{env}(h:WfE env)(nm body s):WfE (renI ts es env nm body s).1.1:=by
 have g:WfE (delK nm env):=fun e i=>h e (Yy i)
 unfold renI;split
 .exact g.set fun a j=>by cases j
 .exact g
theorem qfC{E}:∀{ks ps own g s s'},(∀ k,k∈ks->∀ s r s',E k s = .ok (r,s')->WfN r.1/\kd r.1.op=101)->WfE own->vC E ps ks own s = .ok (g,s')->WfE g
 | [],ps,own,g,s,s',_,i,e=>by
  have e:Except.ok (own,s)=(Except.ok (g,s'):XR IEnv):=by cases ps<;>exact e
  cases e;exact i
 |k :: ks,[],own,g,s,s',_,i,e=>by cases e;exact i
 |k :: ks,p :: ps,own,g,s,s',j,i,e=>by
  simp only[vC]at e;split at e
  .cases e
  .rename_i C m s1 l
   exact qfC (fun k o=>j k (q9 _ o)) (i.set fun a t=>by cases t;exact j k (zo ..) _ _ _ l) e
theorem qfD{E R bin}(p:∀ env nm s,WfE env->WfE (R env nm s).1.1):∀{ks i env nm s s' r},(∀ k,k∈ks->∀ env s r s',WfE env->E env k s = .ok (r,s')->WfN r.1/\kd r.1.op=kd k.op)->WfE env->vD E R bin i env nm ks s = .ok (r,s')->(r.2.1.map fun k=>kd k.op)=(ks.map fun k=>kd k.op)/\∀ k,k∈r.2.1->WfN k
 | [],i,env,nm,s,s',r,_,_,e=>by cases e;exact⟨rfl,fun k g=>absurd g qO⟩
 |k :: ks,i,env,nm,s,s',r,t,C,e=>by
  simp only[vD]at e;have I:WfE (if bin=true/\i=1 then R env nm s else ((env,nm),s)).1.1:=by
   split
   .exact p _ _ _ C
   .exact C
  split at e
  .cases e
  .rename_i J m s1 P
   obtain⟨a,b⟩:=t k (zo ..) _ _ _ _ I P;split at e
   .cases e
   .rename_i T j m' s2 U
    cases e;obtain⟨l,hl⟩:=qfD p (fun k g=>t k (q9 _ g)) I U;exact⟨by simp only[zf];rw[show kd J.op=kd k.op from b,show (j.map fun k=>kd k.op)=_ from l],fun x o=>by
     rcases qz.1 o with rfl|o
     .exact a
     .exact hl x o⟩
theorem Wq(t:∀ p,p∈ts.sT->WfN p.body/\kd p.body.op=102):∀(f){env n body s s' r},WfE env->WfN n->expI ts es f env n body s = .ok (r,s')->WfN r.1/\kd r.1.op=kd n.op
 | 0,_,_,_,_,_,_,_,_,e=>by cases e
 |f+1,env,n,body,s,s',r,I,g,e=>by
  simp only[expI]at e;split at e
  .split at e
   .rename_i o
    unfold Z6 at e;split at e
    .cases e;exact⟨g,rfl⟩
    .rename_i v U
     split at e
     .cases e
      exact⟨.mk _ g.shape (fun h=>absurd (Eq.trans o.symm (show n.op=2 from h)) zDe) fun k i=>g.kid i,rfl⟩
     .rename_i a ha
      split at e
      .cases e
       obtain⟨x,hx,J⟩:=qfB U;obtain⟨w,k1⟩:=I x hx a (by rw[J];exact ha);exact⟨w,by rw[o];exact k1⟩
      .cases e
   .split at e
    .rename_i o
     split at e
     .cases e
     .rename_i p P
      obtain⟨own,s1,R,T⟩:=Jl e;have C:=g.shape;rw[o,show shp 47 n.sD.length=some (qM (min n.sD.length 401) 101) from rfl]at C;have C:=Option.some.inj C;have ho:WfE own:=qfC (fun k i s r s' h=>by
       obtain⟨a,b⟩:=Wq t f I (g.kid i) h;have:kd k.op∈qM (min n.sD.length 401) (101:Int):=by rw[C];exact List.mem_map_of_mem i
       exact⟨a,b.trans (List.eq_of_mem_replicate this)⟩) (fun e he=>absurd he qO) R
      obtain⟨hb,kb⟩:=t p (List.mem_of_find?_eq_some P);obtain⟨a,b⟩:=Wq t f ho hb T;exact⟨a,by rw[b,kb,o];rfl⟩
    .obtain ⟨q,s1,R,T⟩:=Jl e
     cases T;obtain⟨l,hl⟩:=qfD (fun env nm s h=>h.ren nm body s) (fun k i env s r s' h hh=>Wq t f h (g.kid i) hh) I R;have j:=congrArg List.length l;simp only[zT]at j;refine⟨.mk _ ?_ g.num fun k i=>hl k i,rfl⟩;show shp n.op q.2.1.length=some (q.2.1.map fun k=>kd k.op);rw[j,l];exact g.shape
  .cases e
theorem qrU(S:SpD ts)(I:vT ts=[]){n}(l:yb n=true)(g:(zm ts n).2=0):WfN (zm ts n).1/\dN (zm ts n).1<=24:=by
 have o:=ux l;have J:∀ p,p∈ts.sT->WfN p.body/\kd p.body.op=102:=fun p t=>by
  have w:=S.wp p t;obtain⟨i,P,rfl⟩:=uA.1 t;exact⟨w,qdB w (Wa (qdL I i P)).1⟩
 unfold zm at g⊢;split
 .rename_i h
  rw[if_pos h]at g;exact absurd g h
 .split
  .exact ⟨o,qa9 l⟩
  .rename_i R T
   rw[if_neg R,if_neg T]at g;split
   .rename_i d C
    rw[C]at g;have:=qoF C;simp only at g;omega
   .rename_i x j
    unfold outI at j;split at j
    .cases j
    .rename_i y z s1 U
     split at j
     .rename_i hz
      cases j;exact⟨(Wq (r:=(x,z)) J _ (fun e g=>absurd g qO) o U).1,by have:=qe8 x;show dN x<=24;omega⟩
     .cases j
theorem qrV(S:SpD ts)(g:vT ts=[]){n}(i:yb n=true)(j:(zm ts n).2=0):Small (zm ts n).1:=(qrU S g i j).1.small
def qrW(ts:TS)(a s:Int)(l:List Nd):Bool:=l.all fun b=>!(decide ((zm ts b).2=0)&&decide (3000<wkN a s (zm ts b).1))
def qfE(ts:TS)(a s:Int)(n:Nd):Bool:=qrW ts a s (ts.sP.map Prod.snd++[n])
end
end IB
namespace IN
open Y1 P1 YF
def ZA(I:Nd->Nd×Int)(W:Nd->Int)(l:List Nd):Bool:=l.all fun b=>!(decide ((I b).2=0)&&decide (3000<W (I b).1))
theorem qrX(ts I W)(a3:ts.sP.length<=1000)(a s n)(step:∀ b,b∈ts.sP.map Prod.snd++[n]->qj qg 73 [eTS ts,eNd b] (.tup [eNd (I b).1,aI (I b).2]))(yx:∀ b,b∈ts.sP.map Prod.snd++[n]->(I b).2=0->qj qg 34 [eNd (I b).1,aI a,aI s] (aI (W (I b).1))):qj qg 35 [eTS ts,aI a,aI s,eNd n] (aB (ZA I W (ts.sP.map Prod.snd++[n]))):=by
 have a4:(ts.sP.map Prod.snd++[n]).length=ts.sP.length+1:=zSp;have C:∀(k:Nat)(h:k<ts.sP.length)(h2:k<(ts.sP.map Prod.snd++[n]).length),(ts.sP.map Prod.snd++[n])[k]=ts.sP[k].2:=fun k h h2=>by grind
 have J:∀(h2:ts.sP.length<(ts.sP.map Prod.snd++[n]).length),(ts.sP.map Prod.snd++[n])[ts.sP.length]=n:=fun h2=>zSp
 generalize ts.sP.map Prod.snd++[n]=L at *
 generalize hR:ZA I W L=R;refine qSU call35 func35 rfl ?_;refine aP (ts.sP.length+1) (fun k U=>U.tm 1=aI a/\U.tm 2=aI s/\U.tm 4 = .ip (cTS ts)/\U.tm 7 = .ip (cNd n)/\U.tm 9=aI k/\ZA I W (L.drop k)=R) ?_ ?_
 .simp [go_sem, *]
 rintro k U a5 ⟨P,T,p,e7,t,g⟩;have wi:∀ b:Nd,WKs [eTS ts,eNd b] [eTS ts,eNd b]:=fun b => .zk (zB ts) (.zk (qE b) .nil)
 have ww:∀ b:Nd,WKs [eNd b,aI a,aI s] [eNd b,aI a,aI s]:=fun b => .zk (qE b) (.zs (.zs .nil))
 have w1:=zWk k;by_cases l:k<ts.sP.length+1
 .have i:k<L.length:=by omega
  have a1:k<=ts.sP.length:=zOm;have a0:(k:Int)<=ts.sP.length:=zOm;have c1:=step _ (qv i);have c2:=yx _ (qv i);rw[ze i,ZA,List.all_cons]at g;by_cases hf:k<ts.sP.length
  .rw [C k hf i]at g c1 c2
   generalize I ts.sP[k].2=ib at *
   obtain⟨b',e'⟩:=ib;simp only at g c1 c2;simp[go_sem,p,e7,t,hf,a1,a0];refine fW c1 (wi _) ?_;by_cases he:e'=0
   .subst he
    have c3:=c2 rfl;simp[go_sem,P,T];refine t8 c3 (ww b') ?_;generalize W b'=w at *
    by_cases j:3000<w
    .simp [j]at g
     subst g;simp[go_sem,j];exact .zsc _
    .simp [j]at g
     simp[go_sem,j,t,w1,l];exact aM ⟨zS1 P,zS1 T,zS1 p,by simp[go_sem,e7],zSi,by simpa[ZA] using g⟩
   simp_all[go_sem,aM,ZA]
  .have o:k=ts.sP.length:=by omega
   subst o;rw[J i]at g c1 c2;generalize I n=ib at *
   obtain⟨b',e'⟩:=ib;simp only at g c1 c2;simp[go_sem,p,e7,t];refine fW c1 (wi _) ?_;by_cases he:e'=0
   .subst he
    have c3:=c2 rfl;simp[go_sem,P,T];refine t8 c3 (ww b') ?_;generalize W b'=w at *
    by_cases j:3000<w
    .simp [j]at g
     subst g;simp[go_sem,j];exact .zsc _
    .simp [j]at g
     simp[go_sem,j,t,w1,l];exact aM ⟨zS1 P,zS1 T,zS1 p,by simp[go_sem,e7],zSi,by simpa[ZA] using g⟩
   .simp [he]at g
    simp[go_sem,he,t,w1,l];exact aM ⟨zS1 P,zS1 T,zS1 p,by simp[go_sem,e7],zSi,by simpa[ZA] using g⟩
 .have o:k=ts.sP.length+1:=by omega
  subst o;rw[Wy zOm]at g;have a2:R=true:=by rw[<-g];rfl
  subst a2;simp[go_sem,p,t,show ¬((ts.sP.length:Int)+1<=ts.sP.length) by omega];exact .zsc _
end IN
namespace IF
open P1 Y1 YF Y16 YG Q4 FE IB IN
theorem qrY{ts}(S:SpD ts)(i:vT ts=[])(a s)(l:0<=a/\a<=100)(o:0<=s/\s<=100){n}(p:yb n=true):qj qg 35 [eTS ts,aI a,aI s,eNd n] (aB (qfE ts a s n)):=by
 have j:∀ b,b∈ts.sP.map Prod.snd++[n]->yb b=true:=fun b g=>by
  rcases qP.1 g with h|h
  .obtain ⟨f,hf,rfl⟩:=qp.1 h
   exact S.hf f hf
  .rw [qX]at h;subst h;exact p
 exact qrX ts (zm ts) (wkN a s) (zW1 S.h.nfa) a s n (fun b g=>inlR S i (j b g)) (fun b g t=>kZ a s l o _ _ (qn _) (qrV S i (j b g) t))
end IF
set_option maxHeartbeats 1000000
namespace OJ
open Y1 P1 YF Y16 Q4 Q8 OI
def vV(n:Nd):Bool:=decide (cntN n 40<=40)&&yb n
theorem k7(n):qj qg 27 [eNd n] (aB (vV n)):=by
 refine qSV call27 func27 rfl ?_;unfold vV;simp[go_sem];refine t8 (qrO n 40 zOm) (.zk (qE n) (.zs .nil)) ?_;by_cases h:cntN n 40<=40
 .simp [go_sem,h]
  refine fW (qm9 n) (.zk (qE n) .nil) ?_;exact .zsc _
 .simp [go_sem,h]
  exact .zsc _
def sz1(b:Bd):Bool:=decide (b.lo.ts.length<=200)&&decide (b.up.ts.length<=200)
theorem qrZ(bs)(T:bs.length<=1000000):qj qg 32 [lBd bs] (aB (bs.all sz1)):=by
 refine qSV call32 func32 rfl ?_;generalize J:bs.all sz1=R;simp[go_sem];refine aP bs.length (fun k U=>U.tm 0=lBd bs/\U.tm 3=aI k/\(bs.drop k).all sz1=R) ?_ ?_
 .simp [go_sem, *]
 rintro k U hk ⟨o,t,g⟩;by_cases i:k<bs.length
 .have P:=zWk k
  rw[ze i,List.all_cons]at g;generalize C:bs[k]=b at *
  by_cases h1:b.lo.ts.length<=200
  .have j:¬(200:Int)<b.lo.ts.length:=by omega
   by_cases h2:b.up.ts.length<=200
   .have l:¬(200:Int)<b.up.ts.length:=by omega
    have p:sz1 b=true:=by grind [sz1]
    rw[p,Bool.true_and]at g;simp[go_sem,o,t,i,C,j,l,P]
    try refine⟨i,aM ?_⟩
    exact⟨zS1 o,zSi,g⟩
   .have l:(200:Int)<b.up.ts.length:=by omega
    have p:sz1 b=false:=by grind [sz1]
    rw[p,Bool.false_and]at g;subst g;simp[go_sem,o,t,i,C,j,l];exact .zsc _
  .have j:(200:Int)<b.lo.ts.length:=by omega
   have p:sz1 b=false:=by grind [sz1]
   rw[p,Bool.false_and]at g;subst g;simp[go_sem,o,t,i,C,j];exact .zsc _
 .have I:k=bs.length:=by omega
  subst I;rw[yf]at g;replace g:true=R:=g;subst g;simp[go_sem,o,t];exact .zsc _
def srt1(ns:Nat)(x:Int):Bool:=decide (0<=x)&&decide (x<ns)
def prB(ns:Nat)(p:Pd):Bool:=p.params.all fun q=>srt1 ns q.2
def shpB(ts:TS):Bool:=ts.sA.all (fldB ts.sS.length)&&ts.sT.all (prB ts.sS.length)
theorem qr0(ts)(hf:ts.sA.length<=1000000)(hp:ts.sT.length<=1000000)(hq:∀ p,p∈ts.sT->p.params.length<=1000000)(hs:ts.sS.length<=1000000):qj qg 28 [eTS ts] (aB (shpB ts)):=by
 refine qSV call28 func28 rfl ?_;generalize a2:shpB ts=R;simp[go_sem];refine aP ts.sA.length (fun k U=>U.tm 1 = .ip (cTS ts)/\U.tm 3=aI k/\((ts.sA.drop k).all (fldB ts.sS.length)&&ts.sT.all (prB ts.sS.length))=R) ?_ ?_
 .exact ⟨zSi,zSi,by simpa[shpB] using a2⟩
 rintro k U hk ⟨l,T,g⟩;by_cases i:k<ts.sA.length
 .have w1:=zWk k
  rw[ze i,List.all_cons]at g;generalize I:ts.sA[k]=f at *
  by_cases h1:1<=f.sS.length
  .have a0:¬(f.sS.length:Int)<1:=by omega
   by_cases h3:f.sS.length<=3
   .have a1:¬(3:Int)<f.sS.length:=by omega
    have hF:fldB ts.sS.length f=f.sS.all (srt1 ts.sS.length):=by unfold fldB;simp[h1,h3];rfl
    rw[hF]at g;simp[go_sem,l,T,i,I,a0,a1];rw[Bool.and_assoc]at g;refine aP f.sS.length (fun j U=>U.tm 1 = .ip (cTS ts)/\U.tm 3=aI k/\U.tm 4=aI j/\((f.sS.drop j).all (srt1 ts.sS.length)&&((ts.sA.drop (k+1)).all (fldB ts.sS.length)&&ts.sT.all (prB ts.sS.length)))=R) ?_ ?_
    .exact ⟨zS1 l,zS1 T,zSi,zUs g⟩
    clear l T g;rintro j U hj ⟨l,T,e4,g⟩;by_cases o:j<f.sS.length
    .have w2:=zWk j
     rw[ze o,List.all_cons,Bool.and_assoc]at g;generalize hx:f.sS[j]=x at *
     simp[go_sem,l,T,e4,i,I,o];refine fG [0,1,2,3,4,5,6,7,8,9,10,11,12,13,14,15,16,17,18,19,20,21,22,23,24] [] zKr zKr zSi ?_;by_cases x0:0<=x
     .have C:¬x<0:=by omega
      by_cases xl:x<ts.sS.length
      .have J:¬(ts.sS.length:Int)<=x:=by omega
       have t:srt1 ts.sS.length x=true:=by unfold srt1;simp[x0,xl]
       rw[t,Bool.true_and]at g;simp[go_sem,l,T,e4,i,I,o,hx,C,J,w2]
       try refine⟨o,aM ?_⟩
       exact⟨zS1 l,zS1 T,zSi,g⟩
      .have J:(ts.sS.length:Int)<=x:=by omega
       have t:srt1 ts.sS.length x=false:=by unfold srt1;simp[xl]
       rw[t,Bool.false_and]at g;subst g;simp[go_sem,l,T,e4,i,I,o,hx,C,J];exact .zsc _
     .have C:x<0:=by omega
      have t:srt1 ts.sS.length x=false:=by unfold srt1;simp[x0]
      rw[t,Bool.false_and]at g;subst g;simp[go_sem,l,T,e4,i,I,o,hx,C];exact .zsc _
    .have P:j=f.sS.length:=by omega
     subst P;rw[yf]at g;replace g:(true&&((ts.sA.drop (k+1)).all (fldB ts.sS.length)&&ts.sT.all (prB ts.sS.length)))=R:=g;rw[Bool.true_and]at g;simp[go_sem,l,T,e4,i,I,w1]
     try refine⟨i,aM ?_⟩
     exact⟨zS1 l,zSi,g⟩
   .have a1:(3:Int)<f.sS.length:=by omega
    have hF:fldB ts.sS.length f=false:=by unfold fldB;simp[h3]
    rw[hF,Bool.false_and,Bool.false_and]at g;subst g;simp[go_sem,l,T,i,I,a0,a1];exact .zsc _
  .have a0:(f.sS.length:Int)<1:=by omega
   have hF:fldB ts.sS.length f=false:=by unfold fldB;simp[h1]
   rw[hF,Bool.false_and,Bool.false_and]at g;subst g;simp[go_sem,l,T,i,I,a0];exact .zsc _
 .have P:k=ts.sA.length:=by omega
  subst P;rw[yf]at g;replace g:(true&&ts.sT.all (prB ts.sS.length))=R:=g;rw[Bool.true_and]at g;simp[go_sem,l,T];refine aP ts.sT.length (fun k U=>U.tm 1 = .ip (cTS ts)/\U.tm 5=aI k/\(ts.sT.drop k).all (prB ts.sS.length)=R) ?_ ?_
  .exact ⟨zS1 l,zSi,zUs g⟩
  clear l T g;rintro k U hk ⟨l,e5,g⟩;by_cases i:k<ts.sT.length
  .have w1:=zWk k
   rw[ze i,List.all_cons]at g;have a3:=hq _ (qv i);generalize I:ts.sT[k]=f at *
   unfold prB at g;simp[go_sem,l,e5,i,I];refine aP f.params.length (fun j U=>U.tm 1 = .ip (cTS ts)/\U.tm 5=aI k/\U.tm 6=aI j/\((f.params.drop j).all (fun q=>srt1 ts.sS.length q.2)&&(ts.sT.drop (k+1)).all (prB ts.sS.length))=R) ?_ ?_
   .exact ⟨zS1 l,zS1 e5,zSi,g⟩
   clear l e5 g;rintro j U hj ⟨l,e5,e6,g⟩;by_cases o:j<f.params.length
   .have w2:=zWk j
    rw[ze o,List.all_cons,Bool.and_assoc]at g;generalize hx:f.params[j]=x at *
    obtain⟨xn,xs⟩:=x;simp only at g;simp[go_sem,l,e5,e6,i,I,o];refine fG [0,1,2,3,4,5,6,7,8,9,10,11,12,13,14,15,16,17,18,19,20,21,22,23,24,25,26] [] zKr zKr zSi ?_;by_cases x0:0<=xs
    .have C:¬xs<0:=by omega
     by_cases xl:xs<ts.sS.length
     .have J:¬(ts.sS.length:Int)<=xs:=by omega
      have t:srt1 ts.sS.length xs=true:=by unfold srt1;simp[x0,xl]
      rw[t,Bool.true_and]at g;simp[go_sem,l,e5,e6,i,I,o,hx,C,J,w2]
      try refine⟨o,aM ?_⟩
      exact⟨zS1 l,zS1 e5,zSi,g⟩
     .have J:(ts.sS.length:Int)<=xs:=by omega
      have t:srt1 ts.sS.length xs=false:=by unfold srt1;simp[xl]
      rw[t,Bool.false_and]at g;subst g;simp[go_sem,l,e5,e6,i,I,o,hx,C,J];exact .zsc _
    .have C:xs<0:=by omega
     have t:srt1 ts.sS.length xs=false:=by unfold srt1;simp[x0]
     rw[t,Bool.false_and]at g;subst g;simp[go_sem,l,e5,e6,i,I,o,hx,C];exact .zsc _
   .have P:j=f.params.length:=by omega
    subst P;rw[yf]at g;replace g:(true&&(ts.sT.drop (k+1)).all (prB ts.sS.length))=R:=g;rw[Bool.true_and]at g;simp[go_sem,l,e5,e6,i,I,w1]
    try refine⟨i,aM ?_⟩
    exact⟨zS1 l,zSi,g⟩
  .have P:k=ts.sT.length:=by omega
   subst P;rw[yf]at g;replace g:true=R:=g;subst g;simp[go_sem,l,e5];exact .zsc _
def prT(p:Pd):Bool:=vV p.body&&decide (p.params.length<=4)
structure wX (ts:TS) (sc:Sc) (bs:List Bd) (n:Nd):Prop where
 so:ts.sS.length<=4
 fl:ts.sA.length<=4
 pr:ts.sT.length<=4
 fa:ts.sP.length<=4
 at4:sc.sC.length<=4
 bl:bs.length<=4
 tn:vV n=true
 tp:∀ p,p∈ts.sT->prT p=true
 tf:∀ f,f∈ts.sP->vV f.2=true
 sh:shpB ts=true
def VG(ts:TS)(sc:Sc)(bs:List Bd)(n:Nd)(D:List Dg)(g v:Bool)(wk:Int)(lt:Bool):Bool:=
 decide (ts.sS.length<=4)&&(decide (ts.sA.length<=4)&&(decide (ts.sT.length<=4)&&(decide (ts.sP.length<=4)&&(decide (sc.sC.length<=4)&&(decide (bs.length<=4)&&(vV n&&(ts.sT.all prT&&((ts.sP.all fun f=>vV f.2)&&(shpB ts&&(decide (D.length=0)&&(g&&(decide (sumI sc.sC<=5)&&(bs.all sz1&&(v&&(decide (wk<=2000)&&lt)))))))))))))))
theorem qr1(ts sc bs n D j v wk lt)
  (hD:wX ts sc bs n->qj qg 29 [eTS ts] (lDg D))
  (hS:wX ts sc bs n->qj qg 30 [eTS ts,eSc sc] (aB j))
  (hA:j=true->qj qg 31 [eSc sc] (aI (sumI sc.sC)))
  (hV:wX ts sc bs n->D=[]->j=true->sumI sc.sC<=5->bs.all sz1=true->qj qg 33 [eTS ts,eSc sc,lBd bs] (aB v))
  (hW:wX ts sc bs n->qj qg 34 [eNd n,aI 5,aI 4] (aI wk))
  (hL:wX ts sc bs n->D=[]->qj qg 35 [eTS ts,aI 5,aI 4,eNd n] (aB lt)) :
  qj qg 7 [eTS ts,eSc sc,lBd bs,eNd n] (aB (VG ts sc bs n D j v wk lt)):=by
 generalize g:VG ts sc bs n D j v wk lt=R;unfold VG at g;refine qSV call7 func7 rfl ?_;by_cases ms:ts.sS.length<=4
 case neg =>
  have I:(4:Int)<ts.sS.length:=zOm;rw[decide_eq_false ms]at g;simp at g;subst g;simp[go_sem,I];exact .zsc _
 have I:¬(4:Int)<ts.sS.length:=zOm;rw[decide_eq_true ms]at g;by_cases mf:ts.sA.length<=4
 case neg =>
  have J:(4:Int)<ts.sA.length:=zOm;rw[decide_eq_false mf]at g;simp at g;subst g;simp[go_sem,I,J];exact .zsc _
 have J:¬(4:Int)<ts.sA.length:=zOm;rw[decide_eq_true mf]at g;by_cases mp:ts.sT.length<=4
 case neg =>
  have lp:(4:Int)<ts.sT.length:=zOm;rw[decide_eq_false mp]at g;simp at g;subst g;simp[go_sem,I,J,lp];exact .zsc _
 have lp:¬(4:Int)<ts.sT.length:=zOm;rw[decide_eq_true mp]at g;by_cases ma:ts.sP.length<=4
 case neg =>
  have la:(4:Int)<ts.sP.length:=zOm;rw[decide_eq_false ma]at g;simp at g;subst g;simp[go_sem,I,J,lp,la];exact .zsc _
 have la:¬(4:Int)<ts.sP.length:=zOm;rw[decide_eq_true ma]at g;by_cases mc:sc.sC.length<=4
 case neg =>
  have lc:(4:Int)<sc.sC.length:=zOm;rw[decide_eq_false mc]at g;simp at g;subst g;simp[go_sem,I,J,lp,la,lc];exact .zsc _
 have lc:¬(4:Int)<sc.sC.length:=zOm;rw[decide_eq_true mc]at g;by_cases mb:bs.length<=4
 case neg =>
  have lb:(4:Int)<bs.length:=zOm;rw[decide_eq_false mb]at g;simp at g;subst g;simp[go_sem,I,J,lp,la,lc,lb];exact .zsc _
 have lb:¬(4:Int)<bs.length:=zOm;rw[decide_eq_true mb]at g;simp only[Bool.true_and]at g;simp[go_sem,I,J,lp,la,lc,lb];refine t8 (k7 n) (.zk (qE n) .nil) ?_;cases ht:vV n with
 |false =>
  rw[ht]at g;replace g:false=R:=g;subst g;simp[go_sem];exact .zsc _
 |true =>
 rw[ht,Bool.true_and]at g;simp[go_sem];refine aP ts.sT.length (fun k U=>U.tm 2=lBd bs/\U.tm 4 = .ip (cTS ts)/\U.tm 5 = .ip [lI sc.sC,aI sc.sN]/\U.tm 7 = .ip (cNd n)/\U.tm 9=aI k/\(∀ p,p∈ts.sT.take k->prT p=true)) ?_ ?_
 .simp [go_sem, *]
 rintro k U hk ⟨e2,l,T,e7,e9,o⟩;by_cases i:k<ts.sT.length
 .have w1:=zWk k
  have a5:ts.sT.take (k+1)=ts.sT.take k++[ts.sT[k]]:=wd i;have a4:=qv i;generalize hp:ts.sT[k]=C at *
  have t:prT C=false->R=false:=fun h=>by
   grind
  simp[go_sem,l,e9,i,hp];refine t8 (k7 C.body) (.zk (qE C.body) .nil) ?_;cases hb:vV C.body with
  |false =>
   rw[t (by grind [prT])];simp[go_sem];exact .zsc _
  |true =>
   by_cases c:C.params.length<=4
   .have c':¬(4:Int)<C.params.length:=by omega
    have hy:prT C=true:=by grind [prT,decide_eq_true]
    simp[go_sem,l,e9,i,hp,c',w1]
    try refine⟨i,aM ?_⟩
    refine⟨zS1 e2,zS1 l,zS1 T,by simp[go_sem,e7],zSi,fun p a6=>?_⟩
    grind
   .have c':(4:Int)<C.params.length:=by omega
    rw[t (by grind [prT,decide_eq_false])];simp[go_sem,l,e9,i,hp,c'];exact .zsc _
 have a0:k=ts.sT.length:=zOm;subst a0;rw[za]at o;rw[qY.2 o,Bool.true_and]at g;simp[go_sem,l,e9];refine aP ts.sP.length (fun k U=>U.tm 2=lBd bs/\U.tm 4 = .ip (cTS ts)/\U.tm 5 = .ip [lI sc.sC,aI sc.sN]/\U.tm 7 = .ip (cNd n)/\U.tm 10=aI k/\(∀ p,p∈ts.sP.take k->vV p.2=true)) ?_ ?_
 .simp [go_sem, *]
 clear e2 l T e7 e9;rintro k U hk ⟨e2,l,T,e7,a1,a2⟩;by_cases i:k<ts.sP.length
 .have w1:=zWk k
  have a5:ts.sP.take (k+1)=ts.sP.take k++[ts.sP[k]]:=wd i;have a4:=qv i;generalize hp:ts.sP[k]=C at *
  obtain⟨fn,fb⟩:=C;simp[go_sem,l,a1,i,hp];refine t8 (k7 fb) (.zk (qE fb) .nil) ?_;cases hb:vV fb with
  |false =>
   have t:R=false:=by
    grind
   rw[t];simp[go_sem];exact .zsc _
  |true =>
   simp[go_sem,l,a1,w1]
   try refine⟨i,aM ?_⟩
   refine⟨zS1 e2,zS1 l,zS1 T,by simp[go_sem,e7],zSi,fun p a6=>?_⟩
   grind
 have a0:k=ts.sP.length:=zOm;subst a0;rw[za]at a2;rw[qY.2 a2,Bool.true_and]at g;simp[go_sem,l,a1];refine t8 (qr0 ts zOm zOm (fun p hp=>by have:=o p hp;unfold prT at this;simp at this;omega) zOm) (.zk (zB ts) .nil) ?_;cases a3:shpB ts with
 |false =>
  rw[a3]at g;replace g:false=R:=g;subst g;simp[go_sem];exact .zsc _
 |true =>
 rw[a3,Bool.true_and]at g;have P:wX ts sc bs n:=⟨ms,mf,mp,ma,mc,mb,ht,o,a2,a3⟩;simp[go_sem,l];refine t8 (hD P) (.zk (zB ts) .nil) ?_;cases D with
 |cons d D' =>
  have t:R=false:=by
   rw[<-g];rfl
  have a7:¬(D'.length:Int)+1=0:=zOm;rw[t];simp[go_sem,a7];exact .zsc _
 |nil =>
 replace g:(j&&(decide (sumI sc.sC<=5)&&(bs.all sz1&&(v&&(decide (wk<=2000)&&lt)))))=R:=g;simp[go_sem,l,T];refine t8 (hS P) (.zk (zB ts) (.zk (zD _) .nil)) ?_;cases j with
 |false =>
  replace g:false=R:=g;subst g;simp[go_sem];exact .zsc _
 |true =>
 rw[Bool.true_and]at g;simp[go_sem,T];refine t8 (hA rfl) (.zk (zD _) .nil) ?_;by_cases c5:sumI sc.sC<=5
 case neg =>
  rw[decide_eq_false c5]at g;replace g:false=R:=g;subst g;simp[go_sem,c5];exact .zsc _
 rw[decide_eq_true c5,Bool.true_and]at g;simp[go_sem,c5,e2];refine t8 (qrZ bs zOm) (.zk (wG _) .nil) ?_;cases hz:bs.all sz1 with
 |false =>
  rw[hz]at g;replace g:false=R:=g;subst g;simp[go_sem];exact .zsc _
 |true =>
 rw[hz,Bool.true_and]at g;simp[go_sem,e2,l,T];refine t8 (hV P rfl rfl c5 hz) (.zk (zB ts) (.zk (zD _) (.zk (wG _) .nil))) ?_;cases v with
 |false =>
  replace g:false=R:=g;subst g;simp[go_sem];exact .zsc _
 |true =>
 rw[Bool.true_and]at g;simp[go_sem,e7];refine t8 (hW P) (.zk (qE n) (.zs (.zs .nil))) ?_;by_cases cw:wk<=2000
 case neg =>
  rw[decide_eq_false cw]at g;replace g:false=R:=g;subst g;simp[go_sem,cw];exact .zsc _
 rw[decide_eq_true cw,Bool.true_and]at g;subst g;simp[go_sem,cw,l,e7];refine fW (hL P rfl) (.zk (zB ts) (.zs (.zs (.zk (qE n) .nil)))) ?_;exact .zsc _
end OJ
namespace O8
open Y1 EO F4 GF
theorem tD{P mu}{t g e sz bt b:Nat}{x cells ys zv K}(I:qF P t=some (e,sz,bt))(j:(qF P g).isSome=true)(J:qB P e=some zv)
  (l:zv.cells.length=sz) (o:zv.cells.all AV.one=true) (p:sz≠0) (R:bt<=16384) (T:mu[b]?=some (.arr cells)) (U:qA mu x=some ys) (wy:qV sz ys) (hl:ys.length<=4294967296)
  (k:∀ av mu',Own mu' sz av ys->(∀ i,i<mu.length->i≠b->mu'[i]?=mu[i]?)->(∀ b,qq av=some b->b=mu.length)->mu.length<=mu'.length->K av mu'):qx P mu #[t,g] (.sl b sz 0 0) x K:=by
 refine .inl ?_;refine⟨t,g,e,sz,bt,ys,rfl,I,j,⟨zv,J,l,o⟩,p,R,U,wy,?_⟩;refine .inr ⟨b,0,cells,rfl,T,zOm,zOm,?_⟩;refine k _ _ (.inr ⟨mu.length,zSp,?_⟩) (fun i hi C=>?_) (fun b h=>by cases h;rfl) zSp
 .rw [List.getElem?_append_right zSp];simp
 .rw [qL (zUs hi)]
  rw[yH (fun e=>C (by rw[e]))]
def OwnZ(mu:Mu)(sz:Nat)(av:AV):Prop:=av = .lst true []\/∃ b c,av = .sl b sz 0 0/\mu[b]?=some (.arr c)
theorem growN(mu)(n:Nat)(I:n<=1000000):qC qg 131 [.lst true [],aI n] mu fun e m=>∃ av,e = .ret av/\OwnZ m 5 av/\(∀ i,i<mu.length->m[i]?=mu[i]?)/\mu.length<=m.length/\∀ b,qq av=some b->mu.length<=b:=by
 refine qSW call131 func131 rfl {} ?_;have l:qo.wrap 0=0:=zWr;have p:qo.wrap (n:Int)=n:=zWr;have g:¬(n:Int)<0:=zOm;by_cases t:n=0
 .subst t
  simp[go_sem,l];exact⟨.inl rfl,by simp[qq]⟩
 .have o:0<n:=by omega
  simp[go_sem,l,p,g,o];refine⟨⟨_,_,⟨rfl,rfl⟩,fun r j=>by simp at j⟩,?_⟩;refine .inr (.inr ⟨_,_,34,5,64,.agg [aI 0,aS ⟨#[]⟩,aI 0,.lst true [],aI 0],n,[],rfl,zSi,zSi,zSi,rfl,rfl,zOm,zOm,rfl,o,rfl,fun r j=>by simp at j,zSo,?_⟩);simp[go_sem];refine⟨.inr ⟨mu.length,_,rfl,by simp;rfl⟩,fun i C=>by rw[qL C],by simp[qq]⟩
theorem qr2(mu a b)(ha:a.length<=100000)(hb:b.length<=100000):qC qg 50 [.lst true [[lNd a],[lNd b]]] mu fun e m=>∃ av,e = .ret av/\Own m 5 av ((a++b).map cNd):=by
 refine qSW call50 func50 rfl {} ?_;have v1:qo.wrap 1=1:=zWr;have v2:qo.wrap 2=2:=zWr;have I:=Yv a;have wb:=Yv b;simp[go_sem];have n0:¬((a.length:Int)+b.length)<0:=zOm;refine qm.up 2 (fun k U=>U.tm 0 = .lst true [[lNd a],[lNd b]]/\U.tm 3=aI ((if 0<k then (a.length:Int) else 0)+(if 1<k then (b.length:Int) else 0))/\U.tm 9 = .lst true [[lNd a],[lNd b]]/\U.tm 10=aI 2/\U.tm 11=aI k/\U.mu=mu) ?_ ?_
 .simp [go_sem]
 rintro k U hk ⟨e0,e3,e9,J,P,hm⟩;by_cases T:k<2
 .have:k=0\/k=1:=by omega
  rcases this with rfl|rfl
  .have w1:qo.wrap (a.length:Int)=a.length:=zWr
   have n1:¬(a.length:Int)<0:=zOm;simp[go_sem, *]
  .have w1:qo.wrap ((a.length:Int)+b.length)=a.length+b.length:=zWr
   simp[go_sem, *]
 .have:k=2:=by omega
  subst this;have g:=growN mu (a.length+b.length) zOm;simp[go_sem,e3,J,P,hm];refine aA (zUs g) ?_ ?_
  .rintro r m ⟨av,h,l,hs,hl,a1⟩
   cases h;simp[go_sem,e0];refine qm.up 2 (fun k U=>U.tm 25 = .lst true [[lNd a],[lNd b]]/\U.tm 26=aI 2/\U.tm 27=aI k/\(if k=0 then OwnZ U.mu 5 (U.tm 6) else Own U.mu 5 (U.tm 6) ((if k=1 then a else a++b).map cNd))) ?_ ?_
   .simp_all [go_sem]
   rintro k a2 hk ⟨f25,f26,f27,l⟩;by_cases T:k<2
   .have:k=0\/k=1:=by omega
    rcases this with rfl|rfl
    .rw [if_pos rfl]at l
     rcases l with h6|⟨b6,c6,h6,a0⟩
     .simp [go_sem,f25,f26,f27,h6]
      refine qx.own (sz:=5) (e:=34) (bt:=64) (zv := .agg [aI 0,aS ⟨#[]⟩,aI 0,.lst true [],aI 0]) (xs:=[]) (ys:=a.map cNd) zSi zSi zSi rfl rfl zOm zOm (.inl rfl) (by simp[qA]) (fun r hr=>by simp at hr) I zSo ?_;intro o R i t C;simp at i;simp[go_sem,f25,f26,f27,v1];exact i
     .simp [go_sem,f25,f26,f27,h6]
      refine tD (e:=34) (bt:=64) (zv := .agg [aI 0,aS ⟨#[]⟩,aI 0,.lst true [],aI 0]) (ys:=a.map cNd) zSi zSi zSi rfl rfl zOm zOm a0 (by simp[qA]) I zSo ?_;intro o R i t C a3;simp[go_sem,f25,f26,f27,v1];exact i
    .rw [zIn,if_pos rfl]at l
     simp[go_sem,f25,f26,f27];refine qx.own (sz:=5) (e:=34) (bt:=64) (zv := .agg [aI 0,aS ⟨#[]⟩,aI 0,.lst true [],aI 0]) (xs:=a.map cNd) (ys:=b.map cNd) zSi zSi zSi rfl rfl zOm zOm l (by simp[qA]) I wb zSo ?_;intro o R i t C;simp[go_sem,f25,f26,f27,v2];exact i
   .have:k=2:=by omega
    simp_all[go_sem]
  grind
end O8
set_option maxHeartbeats 1000000
namespace OD
open Y1 Y9 P2 EO F4 GF GR KA O8
theorem k8{n a b}(g:n.op=41)(j:n.sD=[a,b]):conj n=conj a++conj b:=by
 obtain⟨op,nm,i,ks,p⟩:=n;cases j;rw[conj,u3,u3,u3];exact if_pos g
theorem k9{n a}(g:n.op=48)(j:n.sD=[a]):conj n=(conj a).map (uF n.pos):=by
 obtain⟨op,nm,i,ks,p⟩:=n;cases j;have h:¬op=41:=by intro h;rw[h]at g;cases g
 rw[conj,u3,u3];rw[if_neg h];exact if_pos g
theorem pb{n}(g:¬n.op=41)(j:¬n.op=48):conj n=[n]:=by
 obtain⟨op,nm,i,ks,p⟩:=n;rw[conj];exact(if_neg g).trans (if_neg j)
theorem shp2{n}(h:WfN n)(j:n.op=41):∃ a b,n.sD=[a,b]:=by
 have g:(n.sD.map fun k=>kd k.op)=[102,102]:=by
  have g:=h.shape;unfold shp at g
  grind
 have i:=congrArg List.length g
 match l:n.sD,i with
 | [a,b],_=>exact⟨a,b,rfl⟩
theorem shp1{n}(h:WfN n)(j:n.op=48):∃ a,n.sD=[a]:=by
 have g:(n.sD.map fun k=>kd k.op)=[102]:=by
  have g:=h.shape;unfold shp at g
  grind
 have i:=congrArg List.length g
 match l:n.sD,i with
 | [a],_=>exact⟨a,rfl⟩
def cW(pos:Int)(k:Nd):List AV:=if k.op=48 then cNd k else [aI 48,aS ⟨#[]⟩,aI 0,.lst true [cNd k],aI pos]
theorem qfF{mu}:∀{l},(∀ c,c∈l->HF c)->Rds mu l l
 | [],_=>trivial
 |c :: l,h=>⟨.hf _ (h c zSp),qfF fun x g=>h x (zP1 g)⟩
theorem cW_rd(mu pos k):Rds mu (cW pos k) (cNd (uF pos k)):=by
 unfold cW uF;split
 .rename_i h
  exact qfF (jQ k)
 .exact ⟨.hf _ (HF.sc _),.hf _ (HF.sc _),.hf _ (HF.sc _),.wk _ true _ (.hf _ (HF.lst fun r g=>by rw[qX]at g;subst g;exact jQ k)),.hf _ (HF.sc _),trivial⟩
theorem Wr(pos)(xs:List Nd):qV 5 (xs.map (cW pos)):=fun r g=>by
 obtain⟨n,_,rfl⟩:=qp.1 g;unfold cW;split
 .cases n;exact⟨rfl,rfl⟩
 .exact ⟨rfl,rfl⟩
theorem qr3(pos)(xs:List Nd):qV 5 (xs.map fun x=>cNd (uF pos x)):=fun r g=>by
 obtain⟨n,_,rfl⟩:=qp.1 g;cases uF pos n;exact⟨rfl,rfl⟩
theorem VH:∀ m n,szN n<=m->WfN n->(conj n).length<=100000->qj qg 17 [eNd n] (lNd (conj n))
 | 0,n,hm,_,_=>by obtain⟨op,nm,i,ks,q⟩:=n;simp[szN]at hm
 |m+1,n,hm,hw,hl=>by
  refine qSV call17 func17 rfl ?_;by_cases o1:n.op=41
  .obtain ⟨a,b,l⟩:=shp2 hw o1
   rw[k8 o1 l]at hl⊢;have ha:=zl (n:=n) (k:=a) (by rw[l];simp);have hb:=zl (n:=n) (k:=b) (by rw[l];simp);rw[zj]at hl;have ca:=VH m a zOm (hw.kid (by rw[l];simp)) zOm;have cb:=VH m b zOm (hw.kid (by rw[l];simp)) zOm;simp[go_sem,o1,l];refine fG [0,1,2,3,5,6,7,8,4,9,10,11,12] [(4,1,[6,8]),(9,1,[]),(11,1,[])] zKr zKr zSi ?_;simp[go_sem,l];refine t8 ca (.zk (qE a) .nil) ?_;simp[go_sem,l];refine fW cb (.zk (qE b) .nil) ?_;refine aA (qr2 _ (conj a) (conj b) zOm zOm) ?_ ?_
   .rintro r m' ⟨t,h,ho⟩
    cases h;simp[go_sem];exact Own.rd ho (Yv _).ok fun r hr c hc=>by
     obtain⟨x,_,rfl⟩:=qp.1 hr;exact jQ x c hc
   .rintro r m' ⟨t,h,ho⟩
    cases h
  by_cases o2:n.op=48
  .obtain ⟨a,l⟩:=shp1 hw o2
   rw[k9 o2 l]at hl⊢;have ha:=zl (n:=n) (k:=a) (by rw[l];simp);rw[zT]at hl;have ca:=VH m a zOm (hw.kid (by rw[l];simp)) hl;simp[go_sem,o1,o2,l];refine fW ca (.zk (qE a) .nil) ?_;refine qm.up (conj a).length (fun k U=>U.tm 1 = .ip (cNd n)/\U.tm 28=lNd (conj a)/\U.tm 29=aI (conj a).length/\U.tm 30=aI k/\Own U.mu 5 (U.tm 3) (((conj a).take k).map (cW n.pos))) ?_ ?_
   .simp [go_sem]
    exact .inl rfl
   rintro k U a6 ⟨e1,o,C,I,ho⟩;by_cases J:k<(conj a).length
   .have w1:=zWk k
    generalize hx:(conj a)[k]=x;have a1:(conj a).take (k+1)=(conj a).take k++[x]:=by rw[wd J,hx]
    have wf:qV 5 (((conj a).take k).map (cW n.pos)):=Wr _ _;have a2:∀ c,Own (U.mu++[c]) 5 (U.tm 3) (((conj a).take k).map (cW n.pos)):=fun c=>by
     rcases ho with h|⟨b,h1,h2⟩
     .exact .inl h
     .exact .inr ⟨b,h1,by rw[qL (ql.1 h2).1];exact h2⟩
    have a7:(((conj a).take k).map (cW n.pos)).length<=100000:=zSo;by_cases ox:x.op=48
    .have a0:cW n.pos x=cNd x:=by unfold cW;rw[if_pos ox]
     have P:=Wr n.pos [x];simp[go_sem,e1,o,C,I,J,hx,ox];refine qx.own (sz:=5) (e:=34) (bt:=64) (zv := .agg [aI 0,aS ⟨#[]⟩,aI 0,.lst true [],aI 0]) (xs:=((conj a).take k).map (cW n.pos)) (ys:=[x].map (cW n.pos)) zSi zSi zSi rfl rfl zOm zOm (a2 _) (by simp[qA,a0]) wf P zSo ?_;intro a3 R T a4 a5;rw[<-zi,<-a1]at T;simp[go_sem,e1,o,C,I,w1];exact⟨J,by simpa[List.map_take] using T⟩
    .have a0:cW n.pos x=[aI 48,aS ⟨#[]⟩,aI 0,.lst true [cNd x],aI n.pos]:=by unfold cW;rw[if_neg ox]
     have P:=Wr n.pos [x];simp[go_sem,e1,o,C,I,J,hx,ox];refine qx.own (sz:=5) (e:=34) (bt:=64) (zv := .agg [aI 0,aS ⟨#[]⟩,aI 0,.lst true [],aI 0]) (xs:=((conj a).take k).map (cW n.pos)) (ys:=[x].map (cW n.pos)) zSi zSi zSi rfl rfl zOm zOm (a2 _) (by simp[qA,a0]) wf P zSo ?_;intro a3 R T a4 a5;rw[<-zi,<-a1]at T;simp[go_sem,e1,o,C,I,w1];exact⟨J,by simpa[List.map_take] using T⟩
   .have:k=(conj a).length:=by omega
    subst this;rw[za]at ho;simp[go_sem,e1,o,C,I];have hm:=cZ (g:=fun x=>cNd (uF n.pos x)) ho (Wr n.pos (conj a)).ok (qr3 n.pos (conj a)).ok (fun x _=>cW_rd U.mu n.pos x);rw[show (conj a).map (fun x=>cNd (uF n.pos x))=((conj a).map (uF n.pos)).map cNd by rw[List.map_map];rfl]at hm;exact hm
  .rw [pb o1 o2]at hl⊢
   simp[go_sem,o1,o2];exact .wk _ true _ (.hf _ (HF.lst fun r hr=>by rw[qX]at hr;subst hr;exact jQ n))
end OD
namespace O0
open P1 YF E4 GF
section
variable {bv:AV}{args:List AV}{bs:List Bd}{mu mu':Mu}{p:Nat}{P:qc}
def yG(P:qc)(f:zV)(args:List AV)(mu:Mu)(r:AV):Prop:=qC P f args mu fun e R=>e = .ret r/\MuLe mu R
theorem qr4{lo}(h:MuLe mu mu')(j:mu.length<=lo):MuLe mu (cutM (fun i=>!decide (lo<=i)) mu' 0):=by
 intro b c g;have l:b<mu.length:=(ql.1 g).1;rw[jA,h b c g];simp;omega
theorem yG.of{f r}(h:qC P f args mu fun e mu'=>∃ x,e = .ret x/\MuLe mu mu'/\Rd (cutM (fun i=>decide (mu.length<=i)) mu' 0) x r):yG P f args mu r:=by
 refine⟨h.1,fun G w o s p=>(h.2 G w o s p).mono fun e J ⟨R,mu',U,t⟩=>?_⟩;rcases t with ⟨x,v,⟨C,g,j,l⟩,rfl,I⟩|⟨x,v,⟨C,g,_⟩,_⟩
 .cases g
  exact⟨_,_,U.trans s (Zc U.sim _),.inl ⟨r,v,⟨rfl,qr4 j (qn _)⟩,rfl,V1 U.sim _ l I⟩⟩
 .exact absurd g zSp
theorem qi.mem{g caps r K i}(j:yG P g (args++caps) mu r)(k:∀ mu',MuLe mu mu'->K r mu'):qi P false mu (.fn (.func g) [] caps) args K i:=
 fH j (fun r m h=>by obtain⟨e,h⟩:=h;cases e;exact k m h) (fun r m h=>absurd h.1 zSp)
theorem tG{f args' v}(mu)(h:qj P f args' v)(o:WKs args args'):yG P f args mu v:=by
 have i:=qj.toSound mu h o;refine⟨i.1,fun G w p s t=>(i.2 G w p s t).mono fun e J ⟨C,R,U,I⟩=>⟨C,R,U,?_⟩⟩;rcases I with ⟨x,u,⟨g,j⟩,l⟩|⟨x,u,⟨g,j⟩,l⟩
 .exact .inl ⟨x,u,⟨g,by rw[j];exact MuLe.refl _⟩,l⟩
 .exact absurd g zSp
theorem MuLe.app(h:MuLe mu mu')(c:List Cell):MuLe mu (mu'++c):=fun b x g=>by
 have:=h b x g;rw[qL (ql.1 this).1];exact this
theorem MuLe.len(h:MuLe mu mu'):mu.length<=mu'.length:=by
 cases i:mu.length with
 |zero=>omega
 |succ n =>
  have g:mu[n]?=some mu[n]:=qy zOm;have:=(ql.1 (h n _ g)).1;omega
def ZB(P:qc)(mu:Mu)(l:AV){C:Type}(enc:C->AV)(ok:C->Prop)(g:C->AV):Prop:=
 ∃ j i,l = .fn (.func j) [] i/\∀ x,ok x->∀ R,MuLe mu R->yG P j ([enc x]++i) R (g x)
theorem ZB.call{i C enc ok g}(h:ZB P mu i enc ok g){x:C}(l:ok x)(o:MuLe mu mu'){K p}(k:∀ m,MuLe mu' m->K (g x) m):qi P false mu' i [enc x] K p:=by
 obtain⟨t,j,rfl,h⟩:=h;exact qi.mem (h x l mu' o) k
def Za(P:qc)(mu:Mu)(l:AV){C:Type}(enc:C->AV)(ok:C->C->Prop)(g:C->C->AV):Prop:=
 ∃ j i,l = .fn (.func j) [] i/\∀ x y,ok x y->∀ R,MuLe mu R->yG P j ([enc x,enc y]++i) R (g x y)
theorem Za.call{i C enc ok g}(h:Za P mu i enc ok g){x y:C}(l:ok x y)(o:MuLe mu mu'){K p}(k:∀ m,MuLe mu' m->K (g x y) m):qi P false mu' i [enc x,enc y] K p:=by
 obtain⟨t,j,rfl,h⟩:=h;exact qi.mem (h x y l mu' o) k
theorem tB(h:MuLe mu mu'){i}(l:mu.length<=i)(c):MuLe mu (mu'.set i c):=fun b x g=>by
 have j:=(ql.1 g).1;rw[zGl];exact h b x g
abbrev cNs(ts:TS)(sc:Sc)(bv:AV)(n:Int)(g:Bool):List AV:=cTS ts++[lI sc.sC,aI sc.sN,bv,aI n,aB g]
def BvR(mu:Mu)(bv:AV)(bs:List Bd):Prop:=bv=lBd bs\/Own mu 4 bv (bs.map cBd)
theorem BvR.le(h:BvR mu bv bs)(g:MuLe mu mu'):BvR mu' bv bs:=by
 rcases h with rfl|rfl|⟨b,rfl,i⟩
 .exact .inl rfl
 .exact .inr (.inl rfl)
 .exact .inr (.inr ⟨b,rfl,g _ _ i⟩)
structure NsR (mu:Mu) (p:Nat) (ts:TS) (sc:Sc) (bs:List Bd) (ch:Bool) (bv:AV):Prop where
 st:mu[p]?=some (.arr (cNs ts sc bv (sumI sc.sC) ch))
 bv:BvR mu bv bs
theorem NsR.le{ts sc g}(h:NsR mu p ts sc bs g bv)(i:MuLe mu mu'):NsR mu' p ts sc bs g bv:=⟨i _ _ h.st,h.bv.le i⟩
theorem zx{c}(h:mu[p]?=some c)(l:List Cell):(mu++l)[p]?=some c:=by
 rw[qL (ql.1 h).1];exact h
theorem VI(xs:List Bd):qV 4 (xs.map cBd):=fun r g=>by
 obtain⟨n,_,rfl⟩:=qp.1 g;exact⟨rfl,rfl⟩
theorem BvR.rd(h:BvR mu bv bs):Rd mu bv (lBd bs):=by
 rcases h with rfl|h
 .exact .hf _ (wG bs)
 .exact Own.rd h (VI bs).ok fun r g c i=>by
   obtain⟨b,_,rfl⟩:=qp.1 g;exact qbB b c i
theorem NsR.rd{ts sc l}(h:NsR mu p ts sc bs l bv):Rd mu (.ptr p 0) (.ip (cNs ts sc (lBd bs) (sumI sc.sC) l)):=by
 refine .ptr p 0 _ _ h.st zSp fun k x y g i=>?_
 have j:=J5 ts
 match k with
 | 0=>simp at g i;subst g;subst i;exact .hf _ (j _ (by simp[cTS]))
 | 1=>simp at g i;subst g;subst i;exact .hf _ (j _ (by simp[cTS]))
 | 2=>simp at g i;subst g;subst i;exact .hf _ (j _ (by simp[cTS]))
 | 3=>simp at g i;subst g;subst i;exact .hf _ (j _ (by simp[cTS]))
 | 4=>simp at g i;subst g;subst i;exact .hf _ (zy _)
 | 5=>simp at g i;subst g;subst i;exact .zsc _
 | 6=>simp at g i;subst g;subst i;exact h.bv.rd
 | 7=>simp at g i;subst g;subst i;exact .zsc _
 | 8=>simp at g i;subst g;subst i;exact .zsc _
 |k+9=>simp at g
end
end O0
namespace O1
open E1 EO EW
def divN(n x:Int):Nat->Int
 | 0=>x
 |j+1=>divN n x j / n
theorem pg{n x m}(o:1<=n)(i:0<=x)(l:x<=m):∀ j,0<=divN n x j/\divN n x j<=m
 | 0=>⟨i,l⟩
 |j+1=>by
  have g:=pg o i l j;have d0:0<=divN n x j / n:=Int.ediv_nonneg g.1 zOm;have d1:divN n x j / n<=divN n x j:=Int.ediv_le_self n g.1;exact⟨d0,Int.le_trans d1 g.2⟩
def digN(n r:Int):Nat->List Int
 | 0=>[]
 |k+1=>divN n r k % n :: digN n r k
theorem ph(n r):∀ k,(digN n r k).length=k
 | 0=>rfl
 |k+1=>by simp[digN,ph n r k]
theorem wK(xs:List Int):(xs.map rI).flatten=xs.map aI:=by
 induction xs with
 |nil=>rfl
 |cons x xs g=>simp[g]
theorem pi(n r)(g:1<=n):∀ k,divN n r k=r / n ^ k
 | 0=>by simp[divN]
 |k+1=>by
  rw[divN,pi n r g k,Int.pow_succ,Int.ediv_ediv_of_nonneg];exact Int.pow_nonneg zOm
theorem qr5{n r}(g:1<=n){k}(i:0<=r)(h:r<n ^ k):divN n r k=0:=by
 rw[pi n r g,Int.ediv_eq_zero_of_lt i h]
theorem tR{lo b n mu}{xs:List Int}(j:lo<=b)(g:mu[b]?=some (.arr (xs.map aI)))(i:xs.length=n):OwnF lo mu 1 (.sl b 1 0 n) (xs.map rI):=by
 have p:b<mu.length:=(ql.1 g).1;refine⟨.inr ⟨b,zP1 i,by rw[g,wK]⟩,fun t s o l e=>?_,zOm⟩;injection e;omega
theorem qr6(m z v)(l:List AV):(qM (m+1) z++l).set m v=qM m z++v :: l:=by
 induction m with
 |zero=>rfl
 |succ m g =>
  rw[List.replicate_succ,List.cons_append,List.set_cons_succ,g];rfl
theorem qr7(sc)(g:GSc sc)(J:1<=sumI sc.sC)(l:Nat)(P:l<=3)(r)(R:0<=r)(hr:r<sumI sc.sC ^ l):qj qg 181 [eSc sc,aI l,aI r] (lI (digN (sumI sc.sC) r l)):=by
 refine qSU call181 func181 rfl ?_;refine t8 (UK l 0 3) (.zs (.zs (.zs .nil))) ?_;simp[go_sem,show (0:Int)<=l by omega,show (l:Int)<=3 by omega,show ¬r<0 by omega];refine t8 (YP sc g) (.zk (zD sc) .nil) ?_;have C:=g.sum sc.sC.length;rw[za]at C;generalize hn:sumI sc.sC=n at *
 have a8:=YI (n:=n) zOm zOm l P;have T:n≠0:=zOm;simp[go_sem,show (0:Int)<=l by omega,show (l:Int)<=4294967296 by omega];refine qm.up l (fun j U=>U.tm 7=aI n/\U.tm 8 = .sl 0 1 0 l/\U.tm 2=aI (divN n r j)/\U.tm 9=aI (l-1-j)/\U.mu=[.arr (qM (l-j) (aI 0)++(digN n r j).map aI)]) ?_ ?_
 .simp [go_sem,divN,digN]
  exact zWr
 rintro j U hj ⟨e7,e8,e2,e9,hm⟩;have hd:=pg (n:=n) (m:=8000) J R zOm j;by_cases a0:j<l
 .have a9:=pg (n:=n) (m:=8000) J R zOm (j+1)
  have hq:(divN n r j).tdiv n=divN n r (j+1):=by rw[divN,Int.tdiv_eq_ediv_of_nonneg hd.1]
  have a1:(divN n r j).tmod n=divN n r j % n:=Int.tmod_eq_emod_of_nonneg hd.1;have I:qM (l-j) (aI 0)=qM ((l-(j+1))+1) (aI 0):=by congr 1;omega
  have o:=qr6 (l-(j+1)) (aI 0) (aI (divN n r j % n)) ((digN n r j).map aI);rw[<-I]at o;have a7:(qM (l-j) (aI 0)++(digN n r j).map aI).length=l:=by simp[ph];omega
  have a2:qo.wrap ((l:Int)-1-j-1)=(l:Int)-1-(j+1:Nat):=by rw[zWr];omega
  have a3:qo.wrap (divN n r (j+1))=divN n r (j+1):=zWr;generalize aa:qM (l-j) (aI 0)++(digN n r j).map aI=cells at *
  have t:0<=(l:Int)-1-j:=zOm;have a4:(l:Int)-1-j<l:=zOm;have a5:((l:Int)-1-j).toNat=l-(j+1):=zOm;generalize (l:Int)-1-j=c at *
  simp[go_sem,e7,e8,e2,e9,hm,t,a4,a5,T,a1,hq,a3,show l-(j+1)+1<=cells.length by omega,o];refine⟨a0,?_,?_⟩
  .rw [a2];omega
  .rw [digN];rfl
 .have a6:j=l:=by omega
  subst a6;have hz:=qr5 J R hr;have t:¬(0:Int)<=(j:Int)-1-j:=zOm;generalize (j:Int)-1-j=c at *
  rw[hz]at e2;simp[go_sem,e7,e8,e2,e9,hm,t];refine(tR (lo:=0) (xs:=digN n r j) (Nat.zero_le _) ?_ (ph n r j)).rdI;simp
end O1
namespace O2
open P1 E1 EO F4 GF KA O0 ET EQ
theorem Jx(r):qj qg 85 [eRel r] (eBd (exR r)):=by
 refine qSU call85 func85 rfl ?_;exact .hf _ (yD (exR r))
theorem Ws(r e):qj qg 99 [eRel r,aI e] (eRel r):=by
 refine qSU call99 func99 rfl ?_;exact .hf _ (qr r)
theorem OwnV.rdN{mu av l}(h:OwnV mu av l):RdN mu av (lI l):=by
 rcases h with ⟨rfl,rfl⟩|⟨b,cells,rfl,j,t,o⟩
 .exact RdN.nil (.inr rfl)
 .refine RdN.sl j zOm zSp (jD l).ok (fun k y g=>?_) (fun k u y i g=>?_)
  .rw [O1.wK]at g
   obtain⟨z,_,rfl⟩:=qp.1 (List.mem_of_getElem? g);exact FL.sc _
  .rw [O1.wK]at g
   rw[Nat.zero_add]at i;have p:k<l.length:=by have:=(ql.1 g).1;simpa using this
   rw[<-o,List.getElem?_take_of_lt p,i]at g;cases g;rfl
theorem tW{mu i av l}(h:OwnV mu av l):RdN mu (.agg [aI i,av]) (eRel ⟨i,l⟩):=by
 intro G p v s r;cases r with
 |agg _ j t o =>
  refine .agg _ j (zUs t) fun k x g=>?_
  match k with
  | 0 =>
   simp at g;subst g;have:=o 0 (aI i) rfl;generalize j.getD 0 z6=u at *
   cases this with
   |sc _ h=>exact .sc _ h
  | 1 =>
   simp at g;subst g;exact OwnV.rdN h G p _ s (o 1 av rfl)
  |k+2=>simp at g
theorem Zv{n:Int}(g:0<=n)(l:n<=12){j}(i:j<=3):0<=n ^ j/\n ^ j<=8000:=YI g zOm j i
theorem allF(ts sc bs ch n)(h0:0<=n)(h1:n<=12)(k)(hk:0<=k)(h3:k<=3) :
  wu qg 86 [.ip (cNs ts sc (lBd bs) n ch),aI k] (eRel (KA.allN n k)):=by
 obtain⟨K,rfl⟩:=Int.eq_ofNat_of_zero_le hk;refine wu.of_sound ?_;refine qSW call86 func86 rfl {} ?_;simp[go_sem];refine aP K (fun j U=>U.tm 0 = .ip (cNs ts sc (lBd bs) n ch)/\U.tm 4 = .ptr 0 0/\U.tm 5 = .ptr 1 0/\U.tm 6=aI (n ^ j)/\U.tm 10=aI K/\U.tm 11=aI j/\U.mu=[.arr [aI 0,.lst true []],.arr [aI K,.lst true []]]) ?_ ?_
 .exact ⟨zSi,zSi,zSi,zSi,zSi,zSi,zSi⟩
 rintro j U hj ⟨e0,e4,o,e6,l,p,hm⟩;by_cases g:j<K
 .have w1:=zWk j
  have hp:=Zv h0 h1 (j:=j+1) zOm;have w2:qo.wrap (n ^ j*n)=n ^ (j+1):=by rw[show n ^ j*n=n ^ (j+1) from (Int.pow_succ n j).symm];exact zWr
  simp[go_sem,e0,e6,l,p,g,w1,w2]
  try refine⟨g,aM ?_⟩
  try refine aM ?_
  exact⟨zS1 e0,zS1 e4,zS1 o,zSi,zS1 l,zSi,zS1 hm⟩
 have C:j=K:=zOm;subst C;have hp:=Zv h0 h1 (j:=j) zOm;obtain⟨T,hT⟩:=Int.eq_ofNat_of_zero_le hp.1;rw[hT]at e6 hp;simp[go_sem,e6,l,p];refine aP T (fun i U=>U.tm 4 = .ptr 0 0/\U.tm 5 = .ptr 1 0/\U.tm 20=aI T/\U.tm 21=aI i/\RelM U.mu j ((qu i).map fun i:Nat=>(i:Int))) ?_ ?_
 .exact ⟨zS1 e4,zS1 o,zSi,zSi,.lst true [],zS1 hm,zS1 hm,.inl ⟨rfl,rfl⟩,by simp[qq],by simp[qq]⟩
 clear e0 e4 o e6 l p hm;rintro i U hi ⟨e4,o,I,J,t,g0,g1,ho,n0,n1⟩;by_cases g:i<T
 .have w1:=zWk i
  simp[go_sem,o,I,J,g,g1];refine aV (e:=3) (bt:=8) (z:=0) zSi zSi zSi zOm ho.v zSo ?_;intro a4 R P a1 a2 a3;obtain⟨k1,k2⟩:=RelM.step g0 g1 n0 n1 P a1 a2 a3;simp[go_sem,o,J,k1,P.v.one,P.v.cells,w1];refine⟨g,aM ⟨zS1 e4,zS1 o,zS1 I,zSi,?_⟩⟩;rw[List.range_succ,zi];simpa[go_sem] using k2
 .have C:i=T:=by omega
  subst C;have a0:∀ c,(U.mu.set 0 c)[0]?=some c:=fun c=>qJ (ql.1 g0).1
  simp[go_sem,e4,o,I,J,g0,g1,a0,ho.v.one];have e:KA.allN n (j:Int)=⟨(j:Int),(qu i).map fun i:Nat=>(i:Int)⟩:=by
   unfold KA.allN;rw[Int.toNat_natCast,hT,Int.toNat_natCast]
  rw[e];refine tW (ho.v.same fun b hb=>?_);rw[yH (fun e=>n0 (by rw[e];exact hb))]
end O2
namespace O3
open P1 E1 E2 E4 EO EP EQ ET F4 F6 KA KC O0 O1 O2
theorem qr8(ts sc)(S:ScN ts sc)(a6:sumI sc.sC<=12)(bs ch n i)(p:i<sc.sC.length) :
  wu qg 171 [.ip (cNs ts sc (lBd bs) n ch),aI i] (eRel ⟨2,Z7 sc i⟩):=by
 obtain⟨a1,a2,a3⟩:=S.le p;have hg:gI sc.sC i=sc.sC[i]:=ji p;refine wu.of_sound ?_;refine qSW call171 func171 rfl {} ?_;have cF:=XU sc S.g i zOm;simp[go_sem];refine t8 cF (.zk (zD sc) (.zs .nil)) ?_;unfold Z7;rw[hg];generalize hF:sumI (sc.sC.take i)=F at *
 generalize hA:sc.sC[i]=A at *
 obtain⟨M,rfl⟩:=Int.eq_ofNat_of_zero_le (show 0<=A by omega);simp[go_sem];refine aP (M-1) (fun k U=>U.tm 0 = .ip (cNs ts sc (lBd bs) n ch)/\U.tm 1=aI i/\U.tm 4 = .ptr 0 0/\U.tm 5 = .ptr 1 0/\U.tm 6=aI F/\U.tm 7=aI ((k:Int)+1)/\RelM U.mu 2 ((qu k).map fun k:Nat=>(F+k)*sumI sc.sC+(F+k+1))) ?_ ?_
 .exact ⟨zSi,zSi,zSi,zSi,zSi,zSi,.lst true [],zSi,zSi,.inl ⟨rfl,rfl⟩,by simp[qq],by simp[qq]⟩
 rintro k U hk ⟨C,e1,e4,I,e6,e7,t,J,g1,P,n0,n1⟩;by_cases a7:k<M-1
 .have j:(k:Int)+1<M:=by omega
  have cR:=qaK sc S.g [F+k,F+k+1] zSp (fun d hd=>by simp at hd;omega);have hr:vS (sumI sc.sC) [F+k,F+k+1]=(F+k)*sumI sc.sC+(F+k+1):=by simp[vS]
  rw[hr]at cR;have w1:qo.wrap ((k:Int)+1+1)=(k:Int)+1+1:=zWr;have w2:qo.wrap (F+((k:Int)+1))=F+k+1:=by grind [yh]
  have w3:qo.wrap (F+(k:Int))=F+k:=zWr;simp[go_sem,C,e1,e7,p,hA,j];refine tJ zKr ?_;simp[go_sem,C,I,e6,e7,g1,w2,w3];refine fW cR (.zk (zD sc) (.cons (WK.ints [F+k,F+k+1]) .nil)) ?_;refine aV (e:=3) (bt:=8) (z:=0) zSi zSi zSi zOm P.v zSo ?_;intro a8 R l T a0 a4;obtain⟨k1,k2⟩:=RelM.step J g1 n0 n1 l T a0 a4;simp[go_sem,I,e7,k1,l.v.one,l.v.cells,w1];simp_all[go_sem,aM,List.range_succ,zi]
 .have a5:k=M-1:=by omega
  subst a5;have j:¬((M-1:Nat):Int)+1<M:=zOm;have o:∀ c,(U.mu.set 0 c)[0]?=some c:=fun c=>qJ (ql.1 J).1
  simp[go_sem,C,e1,e4,I,e7,p,hA,j,J,g1,o,P.v.one];refine tW (P.v.same fun b hb=>?_)
  grind
def hdT(n g t:Int):Int:=t / powI n (g-1)
def hdK(f:Int->Int)(l:List Int):List (Int×Bool):=l.foldl (fun J u=>setK (f u) true J) []
theorem qr9(f l u):hdK f (l++[u])=setK (f u) true (hdK f l):=by simp[hdK]
theorem qfG(f:Int->Int)(x):∀(l:List Int)(es),getK x (l.foldl (fun es u=>setK (f u) true es) es)=if (∃ u,u∈l/\f u=x) then some true else getK x es
 | [],es=>zSp
 |u :: l,es=>by
  rw[List.foldl_cons,qfG f x l,uo];by_cases h:∃ v,v∈l/\f v=x
  .simp_all
  .rw [if_neg h]
   by_cases e:x=f u
   .simp_all
   .rw [if_neg e,if_neg]
    rintro⟨v,g,i⟩;rcases qz.1 g with rfl|g
    .exact e i.symm
    grind
theorem qsA(f x l):getK x (hdK f l)=if (∃ u,u∈l/\f u=x) then some true else none:=by
 rw[hdK,qfG];rfl
theorem qsE{n}(i:1<=n){A}(o:1<=A)(p:A<=3){r}(j:0<=r)(g:r<n ^ A):(digN n r A)[0]?=some (hdT n A r):=by
 obtain⟨k,rfl⟩:∃ k,A=k+1:=⟨A-1,zOm⟩;rw[digN,List.getElem?_cons_zero,pi n r i k];congr 1;have e:((k+1:Nat):Int)-1=k:=zOm;unfold hdT;rw[e,wL zOm zOm];have l:0<n ^ k:=Int.pow_pos zOm;rw[Int.toNat_natCast];rw[Int.pow_succ]at g;exact Int.emod_eq_of_lt (Int.ediv_nonneg j zOm) (Int.ediv_lt_of_lt_mul l (by rw[Int.mul_comm];exact g))
theorem qsF(n a b):j7 n a b=⟨a.ar,a.ts.filter fun t=>decide (¬ ∃ u,u∈b.ts/\hdT n b.ar u=hdT n a.ar t)⟩:=by
 simp_all[j7,hdT,List.filter_congr,decide_eq_decide]
theorem qfH(ts sc)(g:GSc sc)(h0:0<=sumI sc.sC)(ag:sumI sc.sC<=12)(bs ch n a b)(ha:GR (sumI sc.sC) a)(P:GR (sumI sc.sC) b) :
  wu qg 103 [.ip (cNs ts sc (lBd bs) n ch),eRel a,eRel b] (eRel (j7 (sumI sc.sC) a b)):=by
 have cT:∀ r:Rl,GR (sumI sc.sC) r->∀ t,t∈r.ts->∃ l,qj qg 181 [eSc sc,aI r.ar,aI t] (lI (hdT (sumI sc.sC) r.ar t :: l)):=fun r hr t ht=>by
  obtain⟨v0,v1⟩:=hr.val t ht;have r1:=hr.ar1;have r3:=hr.ar3;obtain⟨A,hA⟩:=Int.eq_ofNat_of_zero_le (show 0<=r.ar by omega);rw[wL zOm zOm,hA,Int.toNat_natCast]at v1;have hn:1<=sumI sc.sC:=by
   grind [Int.lt_or_eq_of_le,Int.zero_pow]
  have h1:=qr7 sc g hn A zOm t v0 v1;have h2:=qsE hn (A:=A) zOm zOm v0 v1;rw[hA];cases hd:digN (sumI sc.sC) t A with
  |nil=>grind
  |cons x l=>grind
 have la:=ha.len h0 zOm;have lb:=P.len h0 zOm;have hR:=qsF (sumI sc.sC) a b;generalize j7 (sumI sc.sC) a b=R at *
 refine wu.of_sound ?_;refine qSW call103 func103 rfl {} ?_;simp[go_sem];obtain⟨B,hB⟩:∃ B,B=AV.mp 2:=⟨_,rfl⟩;have ah:B.cells=[B]:=by rw[hB];rfl
 refine aP b.ts.length (fun k U=>U.tm 0 = .ip (cNs ts sc (lBd bs) n ch)/\U.tm 4 = .ip (cRel a)/\U.tm 5 = .ip (cRel b)/\U.tm 6 = .ptr 0 0/\U.tm 7 = .ptr 1 0/\U.tm 8=B/\U.tm 18=lI b.ts/\U.tm 19=aI b.ts.length/\U.tm 20=aI k/\U.mu=[.arr [aI 0,.lst true []],.arr [aI a.ar,.lst true []],.mp (encK (fun n:Int=>aI n) (fun v:Bool=>aB v) (hdK (hdT (sumI sc.sC) b.ar) (b.ts.take k)))]) ?_ ?_
 .simp_all [go_sem,hdK,encK]
 rintro k U hk ⟨e0,e4,e5,e6,e7,e8,a5,a0,a1,hm⟩;by_cases i:k<b.ts.length
 .have w1:=zWk k
  obtain⟨l,cK⟩:=cT b P _ (qv i);have hs:=qr9 (hdT (sumI sc.sC) b.ar) (b.ts.take k) b.ts[k];rw[<-ya i]at hs;have aa:U.mu[2]?=some (.mp (encK (fun n:Int=>aI n) (fun v:Bool=>aB v) (hdK (hdT (sumI sc.sC) b.ar) (b.ts.take k)))):=by rw[hm];rfl
  have T:uf qg U.mu 240 (.mp 2) (aI (hdT (sumI sc.sC) b.ar b.ts[k])) (aB true)=_:=keyI.update (et:=4) (t:=240) zSi (mu:=U.mu) (b:=2) (venc:=fun v:Bool=>aB v) (es:=hdK (hdT (sumI sc.sC) b.ar) (b.ts.take k)) aa (k:=hdT (sumI sc.sC) b.ar b.ts[k]) (v:=true) trivial (fun _ _=>trivial);rw[<-hs,<-hB]at T;simp[go_sem,a5,a0,a1,i];refine tJ zKr ?_;simp[go_sem,e0,e5,e8];refine fW cK (.zk (zD sc) (.zs (.zs .nil))) ?_;refine t7 _ T ?_;simp_all[go_sem,aM]
 have j:k=b.ts.length:=zOm;rw[j,za]at hm;simp[go_sem,e4,a0,a1,j];have ab:∀(I:Mu)(x:Int),I[2]?=some (.mp (encK (fun n:Int=>aI n) (fun v:Bool=>aB v) (hdK (hdT (sumI sc.sC) b.ar) b.ts)))->yL qg I 240 B (aI x) false=some (aB (decide (∃ u,u∈b.ts/\hdT (sumI sc.sC) b.ar u=x))):=fun I x h=>by
  rw[hB];have:=keyI.look (et:=4) (t:=240) zSi (mu:=I) (m := .mp 2) (venc:=fun v:Bool=>aB v) (es:=hdK (hdT (sumI sc.sC) b.ar) b.ts) (by simp only[jW,h]) (k:=x) trivial (fun _ _=>trivial) (z:=aB false) zSi false;refine Eq.trans this ?_;rw[qsA];by_cases hx:∃ u,u∈b.ts/\hdT (sumI sc.sC) b.ar u=x
  .rw [if_pos hx,decide_eq_true hx];rfl
  grind
 generalize hE:encK (fun n:Int=>aI n) (fun v:Bool=>aB v) (hdK (hdT (sumI sc.sC) b.ar) b.ts)=E at *
 generalize hP:(fun t=>decide (¬ ∃ u,u∈b.ts/\hdT (sumI sc.sC) b.ar u=hdT (sumI sc.sC) a.ar t))=p at *
 have hp:∀ t,p t=!decide (∃ u,u∈b.ts/\hdT (sumI sc.sC) b.ar u=hdT (sumI sc.sC) a.ar t):=fun t=>by rw[<-hP];exact decide_not ..
 refine aP a.ts.length (fun k U=>U.tm 0 = .ip (cNs ts sc (lBd bs) n ch)/\U.tm 4 = .ip (cRel a)/\U.tm 6 = .ptr 0 0/\U.tm 7 = .ptr 1 0/\U.tm 8=B/\U.tm 37=lI a.ts/\U.tm 38=aI a.ts.length/\U.tm 39=aI k/\∃ av,U.mu[0]?=some (.arr [aI 0,.lst true []])/\U.mu[1]?=some (.arr [aI a.ar,av])/\U.mu[2]?=some (.mp E)/\OwnI U.mu av ((a.ts.take k).filter p)/\∀ b,qq av=some b->3<=b) ?_ ?_
 .exact ⟨zS1 e0,zS1 e4,zS1 e6,by simp[go_sem,e7],zS1 e8,zSi,zSi,zSi,.lst true [],zS1 hm,zS1 hm,zS1 hm,.inl ⟨rfl,zSp⟩,by simp[qq]⟩
 clear e0 e4 e5 e6 e7 e8 a5 a0 a1 hm i hk;rintro k U hk ⟨e0,e4,e6,e7,e8,a2,o,C,av,g0,g1,g2,ho,n3⟩;by_cases i:k<a.ts.length
 .have w1:=zWk k
  obtain⟨l,cK⟩:=cT a ha _ (qv i);have ad:=ab U.mu (hdT (sumI sc.sC) a.ar a.ts[k]) g2;have a7:=ya i;simp[go_sem,a2,o,C,i];refine tJ zKr ?_;simp[go_sem,e0,e4,e8];refine t8 cK (.zk (zD sc) (.zs (.zs .nil))) ?_;simp[go_sem,ad];have ae:=hp a.ts[k];generalize hq:decide (∃ u,u∈b.ts/\hdT (sumI sc.sC) b.ar u=hdT (sumI sc.sC) a.ar a.ts[k])=q at *
  cases q with
  |true =>
   simp[go_sem,C,w1];refine⟨i,aM ⟨zS1 e0,zS1 e4,zS1 e6,by simp[go_sem,e7],zS1 e8,zS1 a2,zS1 o,zSi,av,zVs g0,by simpa[go_sem] using g1,zVs g2,?_,n3⟩⟩;rw[a7,List.filter_append];simp[go_sem, *]
  |false =>
   simp[go_sem,e7,g1];refine aV (e:=3) (bt:=8) (z:=0) zSi zSi zSi zOm ho.v (by grind) ?_;intro af a3 a4 ai aj a8;have l2:=(ql.1 g2).1;have k0:a3[0]?=some (.arr [aI 0,.lst true []]):=by grind
   have k1:a3[1]?=some (.arr [aI a.ar,av]):=by grind
   have k2:a3[2]?=some (.mp E):=by grind
   simp[go_sem,e7,C,k1,a4.v.one,a4.v.cells,w1];refine⟨i,aM ⟨zS1 e0,zS1 e4,zS1 e6,by simp[go_sem,e7],zS1 e8,zS1 a2,zS1 o,zSi,af,?_,?_,?_,?_,fun b P=>zW1 (a8 b P)⟩⟩
   .simp only[qK];rw[zGl];exact k0
   .simp only[qK];rw[qJ zOm]
   .simp only[qK];rw[zGl];exact k2
   .rw [a7,List.filter_append]
    simp only[qK,List.filter_cons,ae,List.filter_nil,Bool.not_false,if_true];exact a4.same fun b P=>by rw[yH (fun e=>zW1 (a8 b P))]
 .have j:k=a.ts.length:=by omega
  rw[j,za]at ho;have a9:∀ c,(U.mu.set 0 c)[0]?=some c:=fun c=>qJ (ql.1 g0).1
  simp[go_sem,e6,e7,o,C,j,g0,g1,a9,ho.v.one];rw[hR];refine tW (ho.v.same fun b P=>?_);rw[yH (fun e=>zW1 (n3 b P))]
end O3
namespace O4
open Y1 Y10 P1 E4 EO EP EW F6 GF KA KC O0 O2 O3
abbrev cVb(e:dC×Bd):List AV:=aS e.1 :: cBd e.2
theorem qsG(nm l e):jJ nm (l++[e])=if e.1=nm then some e.2 else jJ nm l:=by simp[jJ,List.foldl_append]
abbrev cZ4:List AV:=[aI 0,.lst true [],aI 0,.lst true []]
theorem qfI{bs:List Bd}{i}(h):((bs.map cBd).flatten.drop (i*4)).take 4=cBd bs[i]:=by
 induction bs generalizing i with
 |nil=>simp at h
 |cons b bs g =>
  cases i with
  |zero=>simp[cBd]
  |succ i =>
   have e:(i+1)*4=4+i*4:=zOm;rw[zf,List.flatten_cons,e,<-List.drop_drop];have:(cBd b++(bs.map cBd).flatten).drop 4=(bs.map cBd).flatten:=by
    simp
   grind
structure NmOk (ts:TS) (sc:Sc) (bs:List Bd):Prop where
 S:ScN ts sc
 h12:sumI sc.sC<=12
 bl:bs.length=ts.sA.length
 nf:ts.sA.length<=1000000
 sz:∀ x,x∈ts.sS->x.1.size<=4611686018427387904
theorem nameM{ts sc bs ch bv p mu}(hN:NsR mu p ts sc bs ch bv)(W:NmOk ts sc bs)(full env)(he:env.length<=1000000)(nm) :
  yG qg 84 [.ptr p 0,.lst full (env.map cVb),aS nm] mu (eBd (zG ⟨ts,sc,bs⟩ env nm)):=by
 have az:ts.sS.length=sc.sC.length:=W.S.ns;have ak:sc.sC.length<=1000:=zW1 W.S.g.1;have ar:∀ l,(mu++l)[p]?=some (.arr (cNs ts sc bv (sumI sc.sC) ch)):=fun l=>zx hN.st l
 have b0:=(ql.1 hN.st).1;refine yG.of ?_;refine qSW call84 func84 rfl {} ?_;have ay:∀ b:Bd,Rd (cutM (fun i=>decide (mu.length<=i)) mu 0) (eBd b) (eBd b):=fun b => .hf _ (yD b)
 generalize hR:zG ⟨ts,sc,bs⟩ env nm=R;simp[go_sem];have w0:qo.wrap ((env.length:Int)-1)=(env.length:Int)-1:=zWr;refine aP env.length (fun k U=>U.tm 0 = .ptr p 0/\U.tm 1 = .lst full (env.map cVb)/\U.tm 2=aS nm/\U.tm 6 = .ptr mu.length 0/\U.tm 7=aI ((env.length:Int)-1-k)/\U.mu=mu++[.arr cZ4]/\jJ nm (env.take (env.length-k))=jJ nm env) ?_ ?_
 .simp [go_sem, *]
 rintro k U hk ⟨e0,e1,P,T,e7,hm,hl⟩;by_cases o:k<env.length
 .obtain ⟨J,hJ,ae⟩:∃ J,env.length-k=J+1/\J<env.length:=⟨env.length-k-1,zOm,zOm⟩
  have a5:U.tm 7=aI (J:Int):=by grind
  have w1:qo.wrap ((J:Int)-1)=(env.length:Int)-1-((k+1:Nat):Int):=by grind [yh]
  rw[hJ,ya ae,qsG]at hl;by_cases hx:env[J].1=nm
  .rw [if_pos hx]at hl
   have a6:R=env[J].2:=by grind [zG]
   simp[go_sem,jd,e1,P,T,a5,ae,hx,hm];subst a6;exact⟨MuLe.app (MuLe.refl _) _,.hf _ (yD _)⟩
  .rw [if_neg hx]at hl
   simp[go_sem,jd,e1,P,a5,ae,hx,w1]
   try refine⟨o,aM ?_⟩
   try refine aM ?_
   refine⟨zS1 e0,zS1 e1,zS1 P,zS1 T,zSi,zS1 hm,by grind⟩
 have a7:k=env.length:=zOm;subst a7;rw[Nat.sub_self,List.take_zero]at hl;have a5:U.tm 7=aI (-1):=by grind
 have af:(match je nm ts.sA bs with|some b=>b|none=>wQ sc nm 0 ts.sS)=R:=by
  rw[<-hR,zG,<-hl];rfl
 simp[go_sem,e0,a5,hm,ar];clear hl hR;refine aP ts.sA.length (fun k U=>U.tm 0 = .ptr p 0/\U.tm 2=aS nm/\U.tm 6 = .ptr mu.length 0/\U.tm 35 = .lst false (ts.sA.map vL)/\U.tm 36=aI ts.sA.length/\U.tm 37=aI k/\U.mu[mu.length]?=some (.arr cZ4)/\MuLe mu U.mu/\je nm (ts.sA.drop k) (bs.drop k)=je nm ts.sA bs) ?_ ?_
 .simp_all [go_sem,MuLe.app,MuLe.refl]
 clear e0 e1 P T e7 a5 hm;rintro k U hk ⟨e0,P,T,a8,a0,a2,hz,C,hf⟩;by_cases o:k<ts.sA.length
 .have a9:k<bs.length:=by rw[W.bl];exact o
  have w1:qo.wrap ((k:Int)+1)=(k:Int)+1:=by have:=W.nf;grind [yh]
  rw[ze o,ze a9,je]at hf;have hM:∀ c:Cell,(U.mu++[c])[p]?=some (.arr (cNs ts sc bv (sumI sc.sC) ch)):=fun c=>zx (C _ _ hN.st) _
  have hZ:∀ c:Cell,(U.mu++[c])[mu.length]?=some (.arr cZ4):=fun c=>zx hz _
  have al:=(ql.1 hz).1;have t:∀ x c,((U.mu++[x]).set mu.length c)[mu.length]?=some c:=fun x c=>qJ zSo
  by_cases hx:ts.sA[k].name=nm
  .rw [if_pos hx]at hf
   have a6:R=bs[k]:=by grind
   have I:∀ x c,MuLe mu ((U.mu++[x]).set mu.length c):=fun x c b y hb=>by
    have an:=(ql.1 hb).1;rw[zGl];exact zx (C _ _ hb) _
   have au:=hN.bv;subst a6;rcases au with rfl|rfl|⟨b,rfl,hc⟩
   .simp [go_sem,jd,e0,P,T,a8,a0,a2,o,a9,hx,hM,hZ,t]
    exact⟨I _ _,.hf _ (yD _)⟩
   .simp [go_sem,jd,e0,P,T,a8,a0,a2,o,a9,hx,hM,hZ,t]
    exact⟨I _ _,.hf _ (yD _)⟩
   .have hC:∀ c:Cell,(U.mu++[c])[b]?=some (.arr (bs.map cBd).flatten):=fun c=>zx (C _ _ hc) _
    have ao:=qfI a9;have av:k*4+4<=(bs.map cBd).flatten.length:=by rw[yK (sz:=4) (VI bs).ok,zT];omega
    have ak:(bs.map cBd).length=bs.length:=zSp;rw[ak]at hM;generalize (bs.map cBd).flatten=Y at *
    simp[go_sem,jd,e0,P,T,a8,a0,a2,o,a9,hx,hM,hZ,t,hC,av,ao];exact⟨I _ _,.hf _ (yD _)⟩
  .rw [if_neg hx]at hf
   simp[go_sem,jd,P,a8,a0,a2,o,hx,w1]
   try refine⟨o,aM ?_⟩
   try refine aM ?_
   simp_all[go_sem,zx,MuLe.app]
 have a7:k=ts.sA.length:=zOm;subst a7;have ag:je nm ts.sA bs=none:=by rw[<-hf,yf];rfl
 rw[ag]at af;replace af:wQ sc nm 0 ts.sS=R:=af;have aq:U.mu[p]?=some (.arr (cNs ts sc bv (sumI sc.sC) ch)):=C _ _ hN.st;simp[go_sem,e0,a0,a2,aq];refine aP ts.sS.length (fun k U=>U.tm 0 = .ptr p 0/\U.tm 2=aS nm/\U.tm 6 = .ptr mu.length 0/\U.tm 58 = .lst false (ts.sS.map JT)/\U.tm 59=aI ts.sS.length/\U.tm 60=aI k/\U.mu[mu.length]?=some (.arr cZ4)/\MuLe mu U.mu/\wQ sc nm k (ts.sS.drop k)=R) ?_ ?_
 .simp [go_sem, *]
 clear e0 P T a8 a0 a2 hz C hf o hk aq;rintro k U hk ⟨e0,P,T,aa,a3,a4,hz,C,hf⟩;have al:=(ql.1 hz).1;by_cases o:k<ts.sS.length
 .have aw:k<sc.sC.length:=by omega
  have w1:=zWk k;have b1:=W.sz _ (qv o);rw[ze o,wQ]at hf;have hM:∀ c:Cell,(U.mu++[c])[p]?=some (.arr (cNs ts sc bv (sumI sc.sC) ch)):=fun c=>zx (C _ _ hN.st) _
  have hZ:∀ c:Cell,(U.mu++[c])[mu.length]?=some (.arr cZ4):=fun c=>zx hz _
  have t:∀ x c,((U.mu++[x]).set mu.length c)[mu.length]?=some c:=fun x c=>qJ zSo
  have I:∀ x c,MuLe mu ((U.mu++[x]).set mu.length c):=fun x c b y hb=>by
   have an:=(ql.1 hb).1;rw[zGl];exact zx (C _ _ hb) _
  generalize ab:ts.sS[k]=so at *
  obtain⟨sn,sb⟩:=so;have ah:sn.size<=9223372036854775801:=by grind
  have ai:sn.size<=9223372036854775802:=zOm;simp only at hf;by_cases h1:sn=nm
  .rw [if_pos h1]at hf
   have cF:=UL sc W.S.g (fun a ha=>zW1 (W.S.a1 a ha)) [(k:Int)] (fun s hs=>by grind) zSp zSp;rw[qaJ]at cF;have ht:(qu (gI sc.sC k).toNat).map (fun j:Nat=>sumI (sc.sC.take k)+j)=Jb sc k:=rfl;rw[ht]at cF;simp[go_sem,jd,e0,P,T,aa,a3,a4,o,ab,h1,hM,hZ];refine fW cF (.zk (zD sc) (.cons (cG [(k:Int)]) .nil)) ?_;refine t8 (Jx ⟨1,Jb sc k⟩) (.zk (qr _) .nil) ?_;simp[go_sem,T,hZ,t];subst hf;exact⟨I _ _,.hf _ (yD (exR ⟨1,Jb sc k⟩))⟩
  rw[if_neg h1]at hf;cases sb with
  |false =>
   simp at hf;simp[go_sem,jd,P,aa,a3,a4,o,ab,h1,w1]
   try refine⟨o,aM ?_⟩
   try refine aM ?_
   simp_all[go_sem,zx,MuLe.app]
  |true =>
  simp only[true_and]at hf;by_cases h2:sn++yP=nm
  .rw [if_pos h2]at hf
   have ad:sn++(⟨#[95,102,105,114,115,116]⟩:dC)=nm:=h2;simp[go_sem,jd,e0,P,T,aa,a3,a4,o,ab,h1,ah,ai,ad,hM,hZ];refine fW (XU sc W.S.g k zOm) (.zk (zD sc) (.zs .nil)) ?_;refine t8 (Jx ⟨1,[sumI (sc.sC.take k)]⟩) (.cons (WK.aggs (.zs (.cons (cG [sumI (sc.sC.take k)]) .nil))) .nil) ?_;simp[go_sem,T,hZ,t];subst hf;exact⟨I _ _,.hf _ (yD (exR ⟨1,[sumI (sc.sC.take k)]⟩))⟩
  rw[if_neg h2]at hf;have ad:¬sn++(⟨#[95,102,105,114,115,116]⟩:dC)=nm:=h2;by_cases h3:sn++jq=nm
  .rw [if_pos h3]at hf
   have aj:sn++(⟨#[95,110,101,120,116]⟩:dC)=nm:=h3;have ax:∀ c:Cell,NsR (U.mu++[c]) p ts sc bs ch bv:=fun c=>(hN.le C).le (MuLe.push _ c)
   simp[go_sem,jd,e0,P,T,aa,a3,a4,o,ab,h1,ah,ai,ad,aj,hM,hZ];refine fY (qr8 ts sc W.S W.h12 bs ch (sumI sc.sC) k aw) ⟨(ax _).rd,.hf _ (HF.sc _),trivial⟩ ?_;simp[go_sem];refine t8 (Jx ⟨2,Z7 sc k⟩) (.zk (qr _) .nil) ?_;simp[go_sem,T,hZ,t];subst hf;exact⟨I _ _,.hf _ (yD (exR ⟨2,Z7 sc k⟩))⟩
  rw[if_neg h3]at hf;have aj:¬sn++(⟨#[95,110,101,120,116]⟩:dC)=nm:=h3;simp[go_sem,jd,P,aa,a3,a4,o,ab,h1,ah,ai,ad,aj,w1]
  try refine⟨o,aM ?_⟩
  try refine aM ?_
  simp_all[go_sem,zx,MuLe.app]
 .have a7:k=ts.sS.length:=by omega
  subst a7;have a6:R=bd0:=by rw[<-hf,yf];rfl
  have t:∀ c,(U.mu.set mu.length c)[mu.length]?=some c:=fun c=>qJ al
  have I:∀ c,MuLe mu (U.mu.set mu.length c):=fun c b y hb=>by
   have an:=(ql.1 hb).1;rw[zGl];exact C _ _ hb
  simp[go_sem,T,a3,a4,hz,t];subst a6;exact⟨I _,Rd.aggs ⟨.hf _ (HF.sc _),.wk _ true _ (.hf _ (HF.lst fun r hr=>by simp at hr)),.hf _ (HF.sc _),.wk _ true _ (.hf _ (HF.lst fun r hr=>by simp at hr)),trivial⟩⟩
end O4
namespace O5
open P1 E1 E2 E3 EQ ET EY F3 GF KA KB O0 O2 O4
variable {ts:TS} {sc:Sc} {bs:List Bd} {ch:Bool} {bv:AV} {p:Nat} {mu:Mu}
theorem qsJ(i:NsR mu p ts sc bs ch bv)(W:NmOk ts sc bs)(r)(j:GR (sumI sc.sC) r)(o:r.ar=2):yG qg 89 [eRel r,.ip [.ptr p 0]] mu (eRel (trR (sumI sc.sC) r)):=by
 have g:∀ l,(mu++l)[p]?=some (.arr (cNs ts sc bv (sumI sc.sC) ch)):=fun l=>zx i.st l
 refine yG.of ?_;refine qSW call89 func89 rfl {} ?_;simp[go_sem];refine tJ zKr ?_;simp[go_sem,g];refine fW (UJ _ W.S.n0 W.h12 r j o) (.zs (.zk (qr r) .nil)) ?_;exact⟨MuLe.app (MuLe.refl _) _,.hf _ (qr _)⟩
theorem closM(i:NsR mu p ts sc bs ch bv)(W:NmOk ts sc bs)(r)(j:GR (sumI sc.sC) r)(o:r.ar=2):yG qg 91 [eRel r,.ip [.ptr p 0]] mu (eRel (clR (sumI sc.sC) 200 r)):=by
 have g:∀ l,(mu++l)[p]?=some (.arr (cNs ts sc bv (sumI sc.sC) ch)):=fun l=>zx i.st l
 refine yG.of ?_;refine qSW call91 func91 rfl {} ?_;simp[go_sem];refine tJ zKr ?_;simp[go_sem,g];refine fW (X1 _ W.S.n0 W.h12 r j o) (.zs (.zk (qr r) .nil)) ?_;exact⟨MuLe.app (MuLe.refl _) _,.hf _ (qr _)⟩
theorem reflM(o:NsR mu p ts sc bs ch bv)(W:NmOk ts sc bs)(r)(i:GR (sumI sc.sC) r)(j:r.ar=2):yG qg 93 [eRel r,.ip [.ptr p 0]] mu (eRel (unR (clR (sumI sc.sC) 200 r) (idR (sumI sc.sC)))):=by
 have g:∀ l,(mu++l)[p]?=some (.arr (cNs ts sc bv (sumI sc.sC) ch)):=fun l=>zx o.st l
 have g1:=aR W.S.n0 200 i j;have t:=GR.iden W.S.n0;have C:=g1.1.len W.S.n0 (zW1 W.h12);have I:=t.len W.S.n0 (zW1 W.h12);refine yG.of ?_;refine qSW call93 func93 rfl {} ?_;simp[go_sem];refine tJ zKr ?_;simp[go_sem,g];refine t8 (X1 _ W.S.n0 W.h12 r i j) (.zs (.zk (qr r) .nil)) ?_;simp[go_sem,g];refine fW (UO _ W.S.n0 W.h12) (.zs .nil) ?_;refine fW (jy _ _ zOm zOm) (.zk (qr _) (.zk (qr _) .nil)) ?_;exact⟨MuLe.app (MuLe.refl _) _,.hf _ (qr _)⟩
theorem joinM(i:NsR mu p ts sc bs ch bv)(W:NmOk ts sc bs)(a b)(j:GR (sumI sc.sC) a)(o:GR (sumI sc.sC) b)(t:a.ar+b.ar<=5->a.ts.length*b.ts.length<=1000000):yG qg 98 [eRel a,eRel b,.ip [.ptr p 0]] mu (eRel (vE (js (sumI sc.sC) a b))):=by
 have g:∀ l,(mu++l)[p]?=some (.arr (cNs ts sc bv (sumI sc.sC) ch)):=fun l=>zx i.st l
 have C:=uU _ W.S.n0 W.h12 a b j o t;refine yG.of ?_;refine qSW call98 func98 rfl {} ?_;simp[go_sem];refine tJ zKr ?_;simp[go_sem,g];refine t8 C (.zs (.zk (qr a) (.zk (qr b) .nil))) ?_;cases I:js (sumI sc.sC) a b with
 |ok r =>
  simp[go_sem];refine fW (Ws r 0) (.zk (qr r) (.zs .nil)) ?_;exact⟨MuLe.app (MuLe.refl _) _,.hf _ (qr r)⟩
 |error e =>
  simp[go_sem];refine fW (Ws ⟨0,[]⟩ e) (.zk (qr _) (.zs .nil)) ?_;exact⟨MuLe.app (MuLe.refl _) _,.hf _ (qr rl0)⟩
theorem prodM(i:NsR mu p ts sc bs ch bv)(W:NmOk ts sc bs)(a b)(j:GR (sumI sc.sC) a)(o:GR (sumI sc.sC) b):yG qg 101 [eRel a,eRel b,.ip [.ptr p 0]] mu (eRel (vE (jG (sumI sc.sC) a b))):=by
 have g:∀ l,(mu++l)[p]?=some (.arr (cNs ts sc bv (sumI sc.sC) ch)):=fun l=>zx i.st l
 have t:=Ux _ W.S.n0 W.h12 a b j o;refine yG.of ?_;refine qSW call101 func101 rfl {} ?_;simp[go_sem];refine tJ zKr ?_;simp[go_sem,g];refine t8 t (.zs (.zk (qr a) (.zk (qr b) .nil))) ?_;cases C:jG (sumI sc.sC) a b with
 |ok r =>
  simp[go_sem];refine fW (Ws r 0) (.zk (qr r) (.zs .nil)) ?_;exact⟨MuLe.app (MuLe.refl _) _,.hf _ (qr r)⟩
 |error e =>
  simp[go_sem];refine fW (Ws ⟨0,[]⟩ e) (.zk (qr _) (.zs .nil)) ?_;exact⟨MuLe.app (MuLe.refl _) _,.hf _ (qr rl0)⟩
theorem unM{b x}(C:mu[b]?=some (.arr (cBd x))){I}{f:Rl->Rl}(hf:ZB qg mu I eRel (fun r=>r=x.lo\/r=x.up) (fun r=>eRel (f r))) :
  yG qg 88 [I,.ptr b 0] mu (eBd ⟨f x.lo,f x.up⟩):=by
 have R:∀ m,MuLe mu m->m[b]?=some (.arr (cBd x)):=fun m h=>h _ _ C
 refine yG.of ?_;refine qSW call88 func88 rfl {} ?_;have g:∀ l,(mu++l)[b]?=some (.arr (cBd x)):=fun l=>zx C l
 simp[go_sem];refine fG [0,1,2,4,5,6,3,7,8,9] [(3,1,[6]),(7,1,[]),(9,1,[])] zKr zKr zSi ?_;simp[go_sem,g];refine ZB.call (enc:=eRel) hf (.inl rfl) (MuLe.app (MuLe.refl _) _) fun U o=>?_
 have i:=o _ _ (g _);simp[go_sem,i];refine ZB.call (enc:=eRel) hf (.inr rfl) ((MuLe.app (MuLe.refl _) _).trans o) fun T J=>?_
 have P:=J _ _ (o mu.length (.arr cZ4) zSp);have t:=(ql.1 P).1;have j:∀ c,(T.set mu.length c)[mu.length]?=some c:=fun c=>qJ t
 simp[go_sem,P,j];exact⟨tB (((MuLe.app (MuLe.refl _) _).trans o).trans J) (qn _) _,.hf _ (yD ⟨f x.lo,f x.up⟩)⟩
theorem biM{b c x y}(T:mu[b]?=some (.arr (cBd x)))(U:mu[c]?=some (.arr (cBd y))){J f}(hf:Za qg mu J eRel (fun r s=>(r=x.lo/\s=y.lo)\/(r=x.up/\s=y.up)) (fun r s=>eRel (f r s))) :
  yG qg 95 [J,.ptr b 0,.ptr c 0] mu (eBd (map2 f x y)):=by
 refine yG.of ?_;refine qSW call95 func95 rfl {} ?_;have g:∀ l,(mu++l)[b]?=some (.arr (cBd x)):=fun l=>zx T l
 have i:∀ l,(mu++l)[c]?=some (.arr (cBd y)):=fun l=>zx U l
 simp[go_sem];refine fG [0,1,2,3,4,6,7,8,9,10,5,11,12,13] [(5,1,[8,10]),(11,1,[]),(13,1,[])] zKr zKr zSi ?_;simp[go_sem,g,i];refine Za.call (enc:=eRel) hf (.inl ⟨rfl,rfl⟩) (MuLe.app (MuLe.refl _) _) fun m1 j=>?_
 have o:=j _ _ (g _);have p:=j _ _ (i _);simp[go_sem,o,p];refine Za.call (enc:=eRel) hf (.inr ⟨rfl,rfl⟩) ((MuLe.app (MuLe.refl _) _).trans j) fun m2 P=>?_
 have R:=P _ _ (j mu.length (.arr cZ4) zSp);have I:=(ql.1 R).1;have t:∀ c,(m2.set mu.length c)[mu.length]?=some c:=fun c=>qJ I
 simp[go_sem,R,t];exact⟨tB (((MuLe.app (MuLe.refl _) _).trans j).trans P) (qn _) _,.hf _ (yD (map2 f x y))⟩
end O5
set_option maxHeartbeats 1000000
namespace O6
open Y1 P1 E1 E2 E3 E4 EQ ER EY F3 F6 GF KA KB O0 O2 O3 O4 O5
variable {ts:TS} {sc:Sc} {bs:List Bd}
def IvM(ts:TS)(sc:Sc)(bs:List Bd)(env:List (dC×Bd))(n:Nd):Prop:=∀(I:Mu)(p:Nat)(g:Bool)(i:AV)(full:Bool),NsR I p ts sc bs g i->yG qg 40 [.ptr p 0,.lst full (env.map cVb),eNd n] I (eBd (ivl ⟨ts,sc,bs⟩ env n))
theorem Wt(W:NmOk ts sc bs)(env)(he:env.length<=1000000)(n)(ho:n.op=1\/(n.op=2)\/n.op=3\/n.op=4):IvM ts sc bs env n:=by
 intro I p t T full U;have C:∀ l,(I++l)[p]?=some (.arr (cNs ts sc T (sumI sc.sC) t)):=fun l=>zx U.st l
 have i:∀ l,NsR (I++l) p ts sc bs t T:=fun l=>U.le (MuLe.app (MuLe.refl _) l)
 have hz:∀ c:Cell,(I++[c])[I.length]?=some c:=fun c=>zSp
 have J:=yV ⟨ts,sc,bs⟩ env n;rw[J];refine yG.of ?_;refine qSW call40 func40 rfl {} ?_;generalize o:opI ⟨ts,sc,bs⟩ env n.op n.name n.n (n.sD.map (ivl ⟨ts,sc,bs⟩ env))=R;have a0:∀ c d:Cell,((I++[c]).set I.length d)[I.length]?=some d:=fun c d=>qJ zSp
 rcases ho with h|h|h|h
 .have g:R=zG ⟨ts,sc,bs⟩ env n.name:=by rw[<-o,h];rfl
  subst g;simp[go_sem,h];refine qi.mem (nameM (i _) W full env he n.name) fun m1 h1=>?_
  have j:=h1 _ _ (hz (.arr cZ4));have P:∀ c,(m1.set I.length c)[I.length]?=some c:=fun c=>qJ (ql.1 j).1
  simp[go_sem,j,P];exact⟨tB ((MuLe.app (MuLe.refl _) _).trans h1) (qn _) _,.hf _ (yD (zG ⟨ts,sc,bs⟩ env n.name))⟩
 .have g:R=exR ⟨n.n,[]⟩:=by rw[<-o,h];rfl
  subst g;simp[go_sem,h];refine fW (Jx ⟨n.n,[]⟩) (.cons (WK.aggs (.zs (.cons (WK.lst fun r hr=>absurd hr qO) .nil))) .nil) ?_;exact⟨MuLe.app (MuLe.refl _) _,.hf _ (yD (exR ⟨n.n,[]⟩))⟩
 .have g:R=exR (KA.allN (sumI sc.sC) 1):=by rw[<-o,h];rfl
  subst g;simp[go_sem,h];refine fY (allF ts sc bs t (sumI sc.sC) W.S.n0 W.h12 1 zOm zOm) ⟨(i _).rd,.hf _ (HF.sc _),trivial⟩ ?_;simp[go_sem];refine fW (Jx (KA.allN (sumI sc.sC) 1)) (.zk (qr _) .nil) ?_;exact⟨MuLe.app (MuLe.refl _) _,.hf _ (yD (exR (KA.allN (sumI sc.sC) 1)))⟩
 .have g:R=exR (idR (sumI sc.sC)):=by rw[<-o,h];rfl
  subst g;simp[go_sem,h,C];refine fW (UO _ W.S.n0 W.h12) (.zs .nil) ?_;refine fW (Jx (idR (sumI sc.sC))) (.zk (qr _) .nil) ?_;exact⟨MuLe.app (MuLe.refl _) _,.hf _ (yD (exR (idR (sumI sc.sC))))⟩
theorem qfJ(W:NmOk ts sc bs)(env n x a)(hk:n.sD=[x])(ho:n.op=5\/(11<=n.op/\n.op<=13))(o:okI (sumI sc.sC) a (ivl ⟨ts,sc,bs⟩ env x))(t:11<=n.op->a=2)(ih:IvM ts sc bs env x):IvM ts sc bs env n:=by
 intro I p ch bv full hN;have a6:∀ l,(I++l)[p]?=some (.arr (cNs ts sc bv (sumI sc.sC) ch)):=fun l=>zx hN.st l
 have a1:∀ l,NsR (I++l) p ts sc bs ch bv:=fun l=>hN.le (MuLe.app (MuLe.refl _) l)
 have a4:=yV ⟨ts,sc,bs⟩ env n;rw[a4];refine yG.of ?_;refine qSW call40 func40 rfl {} ?_;have n1:¬n.op=1:=zOm;have n2:¬n.op=2:=zOm;have n3:¬n.op=3:=zOm;have n4:¬n.op=4:=zOm;generalize hR:opI ⟨ts,sc,bs⟩ env n.op n.name n.n (n.sD.map (ivl ⟨ts,sc,bs⟩ env))=R;rw[hk]at hR;generalize hX:ivl ⟨ts,sc,bs⟩ env x=X at *
 have hz:∀ c:Cell,(I++[c])[I.length]?=some c:=fun c=>zSp
 simp[go_sem,n1,n2,n3,n4,hk];refine fG [0,1,2,3,4,5,6,7,8] [(6,1,[]),(7,2,[0,3,5]),(8,1,[])] zKr zKr zSi ?_;simp[go_sem,hk];have ih:=ih _ _ _ _ full (a1 [.arr cZ4]);rw[hX]at ih;refine qi.mem ih fun J h1=>?_
 have a3:=h1 _ _ (hz (.arr cZ4));have a0:=(a1 _).le h1;have P:∀ l,(J++l)[I.length]?=some (.arr cZ4):=fun l=>zx a3 l
 have a7:=(ql.1 a3).1;have a5:∀ x c:Cell,((J++[x]).set I.length c)[I.length]?=some c:=fun x c=>qJ zSo
 have j:MuLe I J:=(MuLe.app (MuLe.refl _) _).trans h1;rcases (show n.op=5\/n.op=11\/n.op=12\/n.op=13 by omega) with h|h|h|h
 .have i:R=X:=by rw[<-hR,h,zf,hX];rfl
  subst i;simp[go_sem,hk,h,P,a5];exact⟨tB (MuLe.app j _) (qn _) _,.hf _ (yD _)⟩
 .have i:R=⟨trR (sumI sc.sC) X.lo,trR (sumI sc.sC) X.up⟩:=by rw[<-hR,h,zf,hX];rfl
  subst i;have T:a=2:=t zOm;have hf:ZB qg (J++[.arr (cBd X)]) (.fn (.func 89) [] [.ip [.ptr p 0]]) eRel (fun r=>r=X.lo\/r=X.up) (fun r=>eRel (trR (sumI sc.sC) r)):=
   ⟨_,_,rfl,fun r U m hm=>qsJ ((a0.le (MuLe.app (MuLe.refl _) _)).le hm) W r (by rcases U with rfl|rfl;exact o.lo;exact o.up) (by rcases U with rfl|rfl;exact o.la.trans T;exact o.ua.trans T)⟩
  simp[go_sem,hk,h];refine qi.mem (unM (b:=J.length) (x:=X) zSp hf) fun m2 t=>?_
  have g:=t _ _ (P [.arr (cBd X)]);have C:∀ c,(m2.set I.length c)[I.length]?=some c:=fun c=>qJ (ql.1 g).1
  simp[go_sem,g,C];exact⟨tB ((j.trans (MuLe.app (MuLe.refl _) _)).trans t) (qn _) _,.hf _ (yD ⟨trR (sumI sc.sC) X.lo,trR (sumI sc.sC) X.up⟩)⟩
 .have i:R=⟨clR (sumI sc.sC) 200 X.lo,clR (sumI sc.sC) 200 X.up⟩:=by rw[<-hR,h,zf,hX];rfl
  subst i;have T:a=2:=t zOm;have hf:ZB qg (J++[.arr (cBd X)]) (.fn (.func 91) [] [.ip [.ptr p 0]]) eRel (fun r=>r=X.lo\/r=X.up) (fun r=>eRel (clR (sumI sc.sC) 200 r)):=
   ⟨_,_,rfl,fun r U m hm=>closM ((a0.le (MuLe.app (MuLe.refl _) _)).le hm) W r (by rcases U with rfl|rfl;exact o.lo;exact o.up) (by rcases U with rfl|rfl;exact o.la.trans T;exact o.ua.trans T)⟩
  simp[go_sem,hk,h];refine qi.mem (unM (b:=J.length) (x:=X) zSp hf) fun m2 t=>?_
  have g:=t _ _ (P [.arr (cBd X)]);have C:∀ c,(m2.set I.length c)[I.length]?=some c:=fun c=>qJ (ql.1 g).1
  simp[go_sem,g,C];exact⟨tB ((j.trans (MuLe.app (MuLe.refl _) _)).trans t) (qn _) _,.hf _ (yD ⟨clR (sumI sc.sC) 200 X.lo,clR (sumI sc.sC) 200 X.up⟩)⟩
 .have i:R=⟨unR (clR (sumI sc.sC) 200 X.lo) (idR (sumI sc.sC)),unR (clR (sumI sc.sC) 200 X.up) (idR (sumI sc.sC))⟩:=by rw[<-hR,h,zf,hX];rfl
  subst i;have T:a=2:=t zOm;have hf:ZB qg (J++[.arr (cBd X)]) (.fn (.func 93) [] [.ip [.ptr p 0]]) eRel (fun r=>r=X.lo\/r=X.up) (fun r=>eRel (unR (clR (sumI sc.sC) 200 r) (idR (sumI sc.sC)))):=
   ⟨_,_,rfl,fun r U m hm=>reflM ((a0.le (MuLe.app (MuLe.refl _) _)).le hm) W r (by rcases U with rfl|rfl;exact o.lo;exact o.up) (by rcases U with rfl|rfl;exact o.la.trans T;exact o.ua.trans T)⟩
  simp[go_sem,hk,h];refine qi.mem (unM (b:=J.length) (x:=X) zSp hf) fun m2 t=>?_
  have g:=t _ _ (P [.arr (cBd X)]);have C:∀ c,(m2.set I.length c)[I.length]?=some c:=fun c=>qJ (ql.1 g).1
  simp[go_sem,g,C];exact⟨tB ((j.trans (MuLe.app (MuLe.refl _) _)).trans t) (qn _) _,.hf _ (yD ⟨unR (clR (sumI sc.sC) 200 X.lo) (idR (sumI sc.sC)),unR (clR (sumI sc.sC) 200 X.up) (idR (sumI sc.sC))⟩)⟩
theorem qsK(W:NmOk ts sc bs)(env n x f)(o:n.sD=[x,f])(h:n.op=15)(t:IvM ts sc bs env x):IvM ts sc bs env n:=by
 intro I p ch bv full hN;have a1:∀ l,(I++l)[p]?=some (.arr (cNs ts sc bv (sumI sc.sC) ch)):=fun l=>zx hN.st l
 have g:∀ l,NsR (I++l) p ts sc bs ch bv:=fun l=>hN.le (MuLe.app (MuLe.refl _) l)
 have C:=yV ⟨ts,sc,bs⟩ env n;rw[C];refine yG.of ?_;refine qSW call40 func40 rfl {} ?_;have n1:¬n.op=1:=zOm;have n2:¬n.op=2:=zOm;have n3:¬n.op=3:=zOm;have n4:¬n.op=4:=zOm;generalize hR:opI ⟨ts,sc,bs⟩ env n.op n.name n.n (n.sD.map (ivl ⟨ts,sc,bs⟩ env))=R;rw[o]at hR;generalize hX:ivl ⟨ts,sc,bs⟩ env x=X at *
 have hz:∀ c:Cell,(I++[c])[I.length]?=some c:=fun c=>zSp
 simp[go_sem,n1,n2,n3,n4,o];refine fG [0,1,2,3,4,5,6,7,8] [(6,1,[]),(7,2,[0,3,5]),(8,1,[])] zKr zKr zSi ?_;simp[go_sem,o];have t:=t _ _ _ _ full (g [.arr cZ4]);rw[hX]at t;refine qi.mem t fun J P=>?_
 have i:=P _ _ (hz (.arr cZ4));have a2:=(g _).le P;have T:∀ l,(J++l)[I.length]?=some (.arr cZ4):=fun l=>zx i l
 have a3:=(ql.1 i).1;have U:∀ x c:Cell,((J++[x]).set I.length c)[I.length]?=some c:=fun x c=>qJ zSo
 have j:MuLe I J:=(MuLe.app (MuLe.refl _) _).trans P;have a0:R=⟨⟨1,[]⟩,X.up⟩:=by rw[<-hR,h,zf,hX];rfl
 subst a0;simp[go_sem,o,h,T,U];exact⟨tB (MuLe.app j _) (qn _) _,Rd.aggs ⟨.hf _ (HF.sc _),.wk _ true _ (.hf _ (HF.lst fun r hr=>by simp at hr)),.hf _ (HF.sc _),.hf _ (zy _),trivial⟩⟩
theorem pj(W:NmOk ts sc bs)(env n x y a b)(hk:n.sD=[x,y])(ho:(6<=n.op/\n.op<=10)\/n.op=14)(hx:okI (sumI sc.sC) a (ivl ⟨ts,sc,bs⟩ env x))(hy:okI (sumI sc.sC) b (ivl ⟨ts,sc,bs⟩ env y))(ih:IvM ts sc bs env x)(aa:IvM ts sc bs env y):IvM ts sc bs env n:=by
 intro I p ch bv full hN;have aj:∀ l,(I++l)[p]?=some (.arr (cNs ts sc bv (sumI sc.sC) ch)):=fun l=>zx hN.st l
 have a2:∀ l,NsR (I++l) p ts sc bs ch bv:=fun l=>hN.le (MuLe.app (MuLe.refl _) l)
 have ab:=yV ⟨ts,sc,bs⟩ env n;rw[ab];refine yG.of ?_;refine qSW call40 func40 rfl {} ?_;have n1:¬n.op=1:=zOm;have n2:¬n.op=2:=zOm;have n3:¬n.op=3:=zOm;have n4:¬n.op=4:=zOm;generalize hR:opI ⟨ts,sc,bs⟩ env n.op n.name n.n (n.sD.map (ivl ⟨ts,sc,bs⟩ env))=R;rw[hk]at hR;have a3:=fun (I:Mu) (ch:Bool) (bv:AV) (h:NsR I p ts sc bs ch bv)=>aa _ _ _ _ full h
 generalize hX:ivl ⟨ts,sc,bs⟩ env x=X at *
 generalize hY:ivl ⟨ts,sc,bs⟩ env y=Y at *
 have hz:∀ c:Cell,(I++[c])[I.length]?=some c:=fun c=>zSp
 simp[go_sem,n1,n2,n3,n4,hk];refine fG [0,1,2,3,4,5,6,7,8] [(6,1,[]),(7,2,[0,3,5]),(8,1,[])] zKr zKr zSi ?_;simp[go_sem,hk];have ih:=ih _ _ _ _ full (a2 [.arr cZ4]);rw[hX]at ih;refine qi.mem ih fun m1 h1=>?_
 have a4:=h1 _ _ (hz (.arr cZ4));have a5:=(a2 _).le h1;have ad:∀ l,(m1++l)[I.length]?=some (.arr cZ4):=fun l=>zx a4 l
 have ak:=(ql.1 a4).1;have al:∀ x c:Cell,((m1++[x]).set I.length c)[I.length]?=some c:=fun x c=>qJ zSo
 have a6:MuLe I m1:=(MuLe.app (MuLe.refl _) _).trans h1;have n5:¬n.op=5:=zOm;have ae:¬n.op=11:=zOm;have af:¬n.op=12:=zOm;have ag:¬n.op=13:=zOm;have ah:¬n.op=15:=zOm;simp[go_sem,hk,n5,ae,af,ag,ah];refine fG [0,1,2,3,4,5,6,7,8] [(6,1,[]),(7,2,[0,3,5]),(8,1,[])] zKr zKr zSi ?_;simp[go_sem,hk];refine qi.mem (a3 _ _ _ (a5.le (MuLe.app (MuLe.refl _) [.arr (cBd X)]))) fun J h2=>?_
 have a0:J[m1.length]?=some (.arr (cBd X)):=h2 _ _ zSp;have a7:=h2 _ _ (ad [.arr (cBd X)]);have a1:=(a5.le (MuLe.app (MuLe.refl _) [.arr (cBd X)])).le h2;have T:∀ l,(J++l)[I.length]?=some (.arr cZ4):=fun l=>zx a7 l
 have U:∀ l,(J++l)[m1.length]?=some (.arr (cBd X)):=fun l=>zx a0 l
 have ai:=(ql.1 a7).1;have a8:∀ x c:Cell,((J++[x]).set I.length c)[I.length]?=some c:=fun x c=>qJ zSo
 have o:MuLe I J:=(a6.trans (MuLe.app (MuLe.refl _) _)).trans h2;have x1:=hx.lo.len W.S.n0 (zW1 W.h12);have x2:=hx.up.len W.S.n0 (zW1 W.h12);have y1:=hy.lo.len W.S.n0 (zW1 W.h12);have y2:=hy.up.len W.S.n0 (zW1 W.h12);have t:∀ r s:Rl,(r=X.lo/\s=Y.lo)\/(r=X.up/\s=Y.up)->GR (sumI sc.sC) r/\GR (sumI sc.sC) s:=fun r s h=>by
  rcases h with ⟨rfl,rfl⟩|⟨rfl,rfl⟩
  .exact ⟨hx.lo,hy.lo⟩
  .exact ⟨hx.up,hy.up⟩
 have P:∀ r s:Rl,GR (sumI sc.sC) r->GR (sumI sc.sC) s->r.ts.length<=8000/\s.ts.length<=8000:=fun r s g1 g2=>⟨g1.len W.S.n0 (zW1 W.h12),g2.len W.S.n0 (zW1 W.h12)⟩
 rcases (show n.op=6\/n.op=7\/n.op=9\/n.op=10\/n.op=8\/n.op=14 by omega) with h|h|h|h|h|h
 .have i:R=map2 (fun r s=>unR r s) X Y:=by rw[<-hR,h,zf,zf,hX,hY];rfl
  subst i;have hf:Za qg (J++[.arr (cBd Y)]) (.fn (.func 94) [] []) eRel (fun r s=>(r=X.lo/\s=Y.lo)\/(r=X.up/\s=Y.up)) (fun r s=>eRel (unR r s)):=
   ⟨_,_,rfl,fun r s hr m hm=>by
    obtain⟨g1,g2⟩:=t r s hr;exact tG m (jy r s (zW1 (P r s g1 g2)) (zW1 (P r s g1 g2))) (.zk (qr r) (.zk (qr s) .nil))⟩
  simp[go_sem,hk,h];refine qi.mem (biM (b:=m1.length) (c:=J.length) (x:=X) (y:=Y) (zx a0 _) zSp hf) fun m3 h3=>?_
  have j:=h3 _ _ (T [.arr (cBd Y)]);have C:∀ c,(m3.set I.length c)[I.length]?=some c:=fun c=>qJ (ql.1 j).1
  simp[go_sem,j,C];exact⟨tB ((o.trans (MuLe.app (MuLe.refl _) _)).trans h3) (qn _) _,.hf _ (yD (map2 (fun r s=>unR r s) X Y))⟩
 .have i:R=map2 (fun r s=>inR r s) X Y:=by rw[<-hR,h,zf,zf,hX,hY];rfl
  subst i;have hf:Za qg (J++[.arr (cBd Y)]) (.fn (.func 96) [] []) eRel (fun r s=>(r=X.lo/\s=Y.lo)\/(r=X.up/\s=Y.up)) (fun r s=>eRel (inR r s)):=
   ⟨_,_,rfl,fun r s hr m hm=>by
    obtain⟨g1,g2⟩:=t r s hr;exact tG m (YQ r s (zW1 (P r s g1 g2)) (zW1 (P r s g1 g2))) (.zk (qr r) (.zk (qr s) .nil))⟩
  simp[go_sem,hk,h];refine qi.mem (biM (b:=m1.length) (c:=J.length) (x:=X) (y:=Y) (zx a0 _) zSp hf) fun m3 h3=>?_
  have j:=h3 _ _ (T [.arr (cBd Y)]);have C:∀ c,(m3.set I.length c)[I.length]?=some c:=fun c=>qJ (ql.1 j).1
  simp[go_sem,j,C];exact⟨tB ((o.trans (MuLe.app (MuLe.refl _) _)).trans h3) (qn _) _,.hf _ (yD (map2 (fun r s=>inR r s) X Y))⟩
 .have i:R=map2 (fun r s=>vE (js (sumI sc.sC) r s)) X Y:=by rw[<-hR,h,zf,zf,hX,hY];rfl
  subst i;have hf:Za qg (J++[.arr (cBd Y)]) (.fn (.func 98) [] [.ip [.ptr p 0]]) eRel (fun r s=>(r=X.lo/\s=Y.lo)\/(r=X.up/\s=Y.up)) (fun r s=>eRel (vE (js (sumI sc.sC) r s))):=
   ⟨_,_,rfl,fun r s hr m hm=>by
    obtain⟨g1,g2⟩:=t r s hr;exact joinM ((a1.le (MuLe.app (MuLe.refl _) _)).le hm) W r s g1 g2 (cN W.S.n0 W.h12 g1 g2)⟩
  simp[go_sem,hk,h];refine qi.mem (biM (b:=m1.length) (c:=J.length) (x:=X) (y:=Y) (zx a0 _) zSp hf) fun m3 h3=>?_
  have j:=h3 _ _ (T [.arr (cBd Y)]);have C:∀ c,(m3.set I.length c)[I.length]?=some c:=fun c=>qJ (ql.1 j).1
  simp[go_sem,j,C];exact⟨tB ((o.trans (MuLe.app (MuLe.refl _) _)).trans h3) (qn _) _,.hf _ (yD (map2 (fun r s=>vE (js (sumI sc.sC) r s)) X Y))⟩
 .have i:R=map2 (fun r s=>vE (jG (sumI sc.sC) r s)) X Y:=by rw[<-hR,h,zf,zf,hX,hY];rfl
  subst i;have hf:Za qg (J++[.arr (cBd Y)]) (.fn (.func 101) [] [.ip [.ptr p 0]]) eRel (fun r s=>(r=X.lo/\s=Y.lo)\/(r=X.up/\s=Y.up)) (fun r s=>eRel (vE (jG (sumI sc.sC) r s))):=
   ⟨_,_,rfl,fun r s hr m hm=>by
    obtain⟨g1,g2⟩:=t r s hr;exact prodM ((a1.le (MuLe.app (MuLe.refl _) _)).le hm) W r s g1 g2⟩
  simp[go_sem,hk,h];refine qi.mem (biM (b:=m1.length) (c:=J.length) (x:=X) (y:=Y) (zx a0 _) zSp hf) fun m3 h3=>?_
  have j:=h3 _ _ (T [.arr (cBd Y)]);have C:∀ c,(m3.set I.length c)[I.length]?=some c:=fun c=>qJ (ql.1 j).1
  simp[go_sem,j,C];exact⟨tB ((o.trans (MuLe.app (MuLe.refl _) _)).trans h3) (qn _) _,.hf _ (yD (map2 (fun r s=>vE (jG (sumI sc.sC) r s)) X Y))⟩
 .have i:R=⟨diR X.lo Y.up,diR X.up Y.lo⟩:=by rw[<-hR,h,zf,zf,hX,hY];rfl
  subst i;simp[go_sem,hk,h];refine tJ zKr ?_;simp[go_sem,U];refine t8 (Z1 X.lo Y.up zOm zOm) (.zk (qr _) (.zk (qr _) .nil)) ?_;simp[go_sem,U];refine t8 (Z1 X.up Y.lo zOm zOm) (.zk (qr _) (.zk (qr _) .nil)) ?_;simp[go_sem,T,a8];exact⟨tB (MuLe.app o _) (qn _) _,.hf _ (yD ⟨diR X.lo Y.up,diR X.up Y.lo⟩)⟩
 .have i:R=⟨unR Y.lo (j7 (sumI sc.sC) X.lo Y.up),unR Y.up (j7 (sumI sc.sC) X.up Y.lo)⟩:=by rw[<-hR,h,zf,zf,hX,hY];rfl
  subst i;have a9:NsR (J++[.arr (cBd Y)]) p ts sc bs ch bv:=a1.le (MuLe.app (MuLe.refl _) _);have k1:=(cV (b:=Y.up) hx.lo).len W.S.n0 (zW1 W.h12);have k2:=(cV (b:=Y.lo) hx.up).len W.S.n0 (zW1 W.h12);simp[go_sem,hk,h];refine tJ zKr ?_;simp[go_sem,U];refine fY (qfH ts sc W.S.g W.S.n0 W.h12 bs ch (sumI sc.sC) X.lo Y.up hx.lo hy.up) ⟨a9.rd,.hf _ (qr _),.hf _ (qr _),trivial⟩ ?_;simp[go_sem,U];refine t8 (jy Y.lo _ zOm zOm) (.zk (qr _) (.zk (qr _) .nil)) ?_;simp[go_sem,U];refine fY (qfH ts sc W.S.g W.S.n0 W.h12 bs ch (sumI sc.sC) X.up Y.lo hx.up hy.lo) ⟨a9.rd,.hf _ (qr _),.hf _ (qr _),trivial⟩ ?_;simp[go_sem,U];refine t8 (jy Y.up _ zOm zOm) (.zk (qr _) (.zk (qr _) .nil)) ?_;simp[go_sem,T,a8];exact⟨tB (MuLe.app o _) (qn _) _,.hf _ (yD ⟨unR Y.lo (j7 (sumI sc.sC) X.lo Y.up),unR Y.up (j7 (sumI sc.sC) X.up Y.lo)⟩)⟩
theorem qfK(W:NmOk ts sc bs)(env)(I:env.length<=1000000){A}(C:∀ nm a,A nm=some a->okI (sumI sc.sC) a (zG ⟨ts,sc,bs⟩ env nm)){n a}(h:ArN A n a):IvM ts sc bs env n:=by
 have ok:∀{x:Nd}{b:Int},ArN A x b->okI (sumI sc.sC) b (ivl ⟨ts,sc,bs⟩ env x):=fun l=>UW (σ:=⟨ts,sc,bs⟩) W.S.n0 C l
 induction h with
 |name g h=>grind [Wt]
 |none g h=>grind [Wt]
 |univ g=>grind [Wt]
 |iden g=>grind [Wt]
 |prime g j h p=>grind [qfJ]
 |bin g j h p=>exact qfJ W env _ _ _ j (.inr g) (ok h) (fun _=>rfl) p
 |alike g j l t i o=>grind [pj]
 |join g j l t h i o=>grind [pj]
 |prod g j l t h i o=>grind [pj]
 |compr g j l i=>grind [qsK]
end O6
set_option maxHeartbeats 1000000
namespace O7
open P1 E1 E2 EO EQ ER EY F3 KA KB O0 O4 KE
section
variable {bv:AV}{bs:List Bd}{mu:Mu}{p:Nat}{ts:TS}
abbrev cfV:AV := .ifc 205 (.agg [])
theorem qsL:HF cfV:=HF.ifc (HF.agg fun c g=>by simp at g)
theorem chkC(ok):qR qg 203 [aB ok] (if ok then .ret (.tup []) else .pan cfV):=by
 refine zd.of_sound ?_;refine qSW call203 func203 rfl {} ?_;cases ok
 .simp [go_sem]
  exact⟨_,_,⟨rfl,rfl⟩,.hf _ qsL⟩
 .simp [go_sem]
  exact .hf _ (HF.tup zSp)
structure NsW (mu:Mu) (p:Nat) (bv:AV) (ts:TS) (sc:Sc) (bs:List Bd) (ch:Bool):Prop where
 st:mu[p]?=some (.arr (cNs ts sc bv (sumI sc.sC) ch))
 ow:(bv = .lst true []/\bs=[])\/∃ q,bv = .sl q 4 0 bs.length/\mu[q]?=some (.arr (bs.map cBd).flatten)/\q≠p
theorem NsW.r{sc g}(h:NsW mu p bv ts sc bs g):NsR mu p ts sc bs g bv:=⟨h.st,by
 rcases h.ow with ⟨rfl,rfl⟩|⟨q,rfl,i,_⟩
 .exact .inr (.inl rfl)
 .exact .inr (.inr ⟨q,zSp,i⟩)⟩
theorem NsW.le{mu' sc g}(h:NsW mu p bv ts sc bs g)(i:MuLe mu mu'):NsW mu' p bv ts sc bs g:=⟨i _ _ h.st,by
 rcases h.ow with h|⟨q,j,l,o⟩
 .exact .inl h
 .exact .inr ⟨q,j,i _ _ l,o⟩⟩
def But2(p:Nat)(bv:AV)(mu m:Mu):Prop:=mu.length<=m.length/\∀ i,i<mu.length->i≠p->qq bv≠some i->m[i]?=mu[i]?
theorem But2.trans{a b c}(h:But2 p bv a b)(k:But2 p bv b c):But2 p bv a c:=⟨Nat.le_trans h.1 k.1,fun i g j l=>by
 rw[k.2 i (Nat.lt_of_lt_of_le g h.1) j l];exact h.2 i g j l⟩
theorem tX{a b}(h:MuLe a b):But2 p bv a b:=⟨MuLe.len h,fun i g _ _=>by
 rw[h i a[i] (qy g),qy g]⟩
structure EndN (p:Nat) (bv:AV) (ts:TS) (sc:Sc) (mu:Mu) (r:Br) (e:AEnd) (m:Mu):Prop where
 but:But2 p bv mu m
 fin:match r with
  |some (bs,ch)=>e = .ret (.tup [])/\NsW m p bv ts sc bs ch
  |none=>e = .pan cfV
theorem qsM{sc ch}(hN:NsW mu p bv ts sc bs ch)(i)(I:i<bs.length)(P Q){a}(h0:0<=sumI sc.sC)(a7:sumI sc.sC<=12)(hb:okI (sumI sc.sC) a bs[i])(hP:GR (sumI sc.sC) P)(pa:P.ar=a)(a2:GR (sumI sc.sC) Q) :
  qC qg 251 [.ptr p 0,aI i,eRel P,eRel Q] mu (EndN p bv ts sc mu (Zt i P Q bs ch)):=by
 have l1:=hb.lo.len h0 zOm;have l2:=hb.up.len h0 zOm;have l3:=hP.len h0 zOm;have l4:=a2.len h0 zOm;have l5:=(aG hb.lo hP (by rw[hb.la,pa])).len h0 zOm;have l6:(inR bs[i].up Q).ts.length<=8000:=Nat.le_trans (List.length_filter_le _ _) l2;obtain⟨J,a3⟩:=hN;rcases a3 with ⟨rfl,rfl⟩|⟨q,rfl,hq,T⟩
 .simp at I
 have a0:=qfI I;have o:i*4+4<=(bs.map cBd).flatten.length:=by rw[yK (sz:=4) (VI bs).ok,zT];omega
 generalize hR:Zt i P Q bs ch=R;generalize hY:(bs.map cBd).flatten=Y at *
 refine qSW call251 func251 rfl {} ?_;have t:(Y.drop (i*4)).take 2=cRel bs[i].lo:=by
  have:=congrArg (List.take 2) a0;rw[List.take_take]at this;exact this
 have C:(Y.drop (i*4+2)).take 2=cRel bs[i].up:=by
  have:=congrArg (List.drop 2) a0;rw[List.drop_take,List.drop_drop]at this;exact this
 have e0:i*4+2<=Y.length:=zOm;have hS:∀ l,(mu++l)[p]?=some (.arr (cNs ts sc (.sl q 4 0 bs.length) (sumI sc.sC) ch)):=fun l=>zx J l
 have hQ:∀ l,(mu++l)[q]?=some (.arr Y):=fun l=>zx hq l
 simp[go_sem];refine fG [0,1,2,3,4,5,6,7,8,10,11,12,13,14,15,16,17,18,9,19,20,21,22] [(9,1,[13,17,18]),(19,1,[]),(21,2,[3,7,8,13,17,18]),(22,1,[])] zKr zKr zSi ?_;simp[go_sem,J,hq,I,t,C,e0,o];refine t8 (jy bs[i].lo P zOm zOm) (.zk (qr _) (.zk (qr _) .nil)) ?_;simp[go_sem,J,hq,I,t,C,e0,o];refine t8 (YQ bs[i].up Q zOm zOm) (.zk (qr _) (.zk (qr _) .nil)) ?_;simp[go_sem,J,hq,I,t,C,e0,o,hS,hQ];have g:R=if sub1 (unR bs[i].lo P) (inR bs[i].up Q)=true then (if unR bs[i].lo P=bs[i].lo/\inR bs[i].up Q=bs[i].up then some (bs,ch) else some (bs.set i ⟨unR bs[i].lo P,inR bs[i].up Q⟩,true)) else none:=by
  rw[<-hR];unfold Zt;simp only[zH,qy I,Option.getD_some]
 have cI:=inU (unR bs[i].lo P) (inR bs[i].up Q) zOm zOm;have a4:=E4.XT (unR bs[i].lo P) bs[i].lo zOm;have a5:=E4.XT (inR bs[i].up Q) bs[i].up zOm;change qj qg 54 _ (aB (sub1 (unR bs[i].lo P) (inR bs[i].up Q))) at cI;generalize unR bs[i].lo P=L at *
 generalize inR bs[i].up Q=U at *
 refine t8 cI (.zk (qr _) (.zk (qr _) .nil)) ?_;cases hs:sub1 L U with
 |false =>
  rw[hs,if_neg zSp]at g;subst g;simp[go_sem];refine aC (chkC false) (.zs .nil) ?_;simp[go_sem];exact⟨tX (MuLe.app (MuLe.refl _) _),rfl⟩
 |true =>
 rw[hs,if_pos rfl]at g;simp[go_sem];refine aK (chkC true) (.zs .nil) (fun r e=>?_) (fun r e=>by cases e);cases e;simp[go_sem];refine tJ zKr ?_;simp[go_sem,I,t,C,e0,o,hS,hQ];refine t8 a4 (.zk (qr _) (.zk (qr _) .nil)) ?_;have a8:=(ql.1 J).1;have a9:=(ql.1 hq).1;have a1:∀ x c:Cell,((mu++[x]).set q c)[p]?=some (.arr (cNs ts sc (.sl q 4 0 bs.length) (sumI sc.sC) ch)):=fun x c=>by rw[yH T];exact hS _
 have a6:((bs.set i ⟨L,U⟩).map cBd).flatten=putCells Y (i*4) (cBd ⟨L,U⟩):=by
  rw[<-hY,List.map_set,VW (bs.map cBd) i (cBd ⟨L,U⟩) (VI bs).ok rfl (zUs I)]
 have fin:∀ x d:Cell,d = .arr (cNs ts sc (.sl q 4 0 bs.length) (sumI sc.sC) true)->EndN p (.sl q 4 0 bs.length) ts sc mu (some (bs.set i ⟨L,U⟩,true)) (.ret (.tup [])) (((mu++[x]).set q (.arr (putCells Y (i*4) (cBd ⟨L,U⟩)))).set p d):=fun x d hd=>by
  subst hd;refine⟨⟨zSp,fun j hj h1 h2=>?_⟩,rfl,?_,.inr ⟨q,by rw[List.length_set],?_,T⟩⟩
  .rw [yH (fun e=>h1 e.symm),yH (fun e=>h2 (by rw[<-e];rfl)),qL hj]
  .rw [qJ zSo]
  .rw [yH (fun e=>T e.symm),qJ zSo,a6]
 by_cases c1:L=bs[i].lo
 .have aa:=c1
  simp[go_sem,c1,I,t,C,e0,o,hS,hQ];refine t8 a5 (.zk (qr _) (.zk (qr _) .nil)) ?_;by_cases c2:U=bs[i].up
  .rw [if_pos ⟨c1,c2⟩]at g
   subst g;simp[go_sem,c2];exact⟨tX (MuLe.app (MuLe.refl _) _),rfl,hS _,.inr ⟨q,rfl,hY ▸ hQ _,T⟩⟩
  rw[if_neg (fun h=>c2 h.2)]at g;simp[go_sem,c2];rw[<-c1]at *
  refine tJ zKr ?_;simp[go_sem,I,o,hS,hQ,a1];subst g;have:=fin (.arr (cBd ⟨L,U⟩)) _ rfl;simpa[putCells] using this
 .rw [if_neg (fun h=>c1 h.1)]at g
  simp[go_sem,c1,I,t,C,e0,o,hS,hQ];refine tJ zKr ?_;simp[go_sem,I,o,hS,hQ,a1];subst g;have:=fin (.arr (cBd ⟨L,U⟩)) _ rfl;simpa[putCells] using this
end
end O7
set_option maxHeartbeats 1000000
namespace O9
open Y1 Y9 Y10 P1 YF E1 E2 E4 EO ER ET EY F3 F6 KA KB O0 O2 O4 KE O6 O7
section
variable {bv:AV}{A:dC->Option Int}{a:Int}{mu:Mu}{p:Nat}{ts:TS}
theorem pm{n}(h:ArN A n a)(g:n.op=6\/n.op=7\/n.op=8):∃ x y,n.sD=[x,y]/\ArN A x a/\ArN A y a:=by
 cases h with
 |alike _ i j l=>grind
 |_=>omega
theorem qsN{n}(h:ArN A n a)(g:n.op=11):a=2/\∃ x,n.sD=[x]/\ArN A x 2:=by
 cases h with
 |bin _ i j=>grind
 |_=>omega
theorem qsO{n}(h:ArN A n a)(i:n.op=1):A n.name=some a:=by
 cases h with
 |name _ g=>exact g
 |_=>omega
structure NwC (ts:TS) (sc:Sc):Prop where
 W:NwS ts sc
 nf:ts.sA.length<=1000000
 sz:∀ x,x∈ts.sS->x.1.size<=4611686018427387904
theorem NwC.nm{sc}(C:NwC ts sc){bs}(h:BdS ts (sumI sc.sC) bs):NmOk ts sc bs:=⟨C.W.s,C.W.h12,h.b.1,C.nf,C.sz⟩
theorem NwC.iv{sc}(C:NwC ts sc){bs}(h:BdS ts (sumI sc.sC) bs){n a}(g:ArN (arT ts) n a):IvM ts sc bs [] n:=qfK (C.nm h) [] zSp (C.W.nm h) g
theorem EndN.of{sc M r e m}(h:But2 p bv mu M)(k:EndN p bv ts sc M r e m):EndN p bv ts sc mu r e m:=⟨h.trans k.but,k.fin⟩
theorem EndN.ret{sc r v m}(k:EndN p bv ts sc mu r (.ret v) m):∃ bs g,r=some (bs,g)/\v = .tup []/\But2 p bv mu m/\NsW m p bv ts sc bs g:=by
 obtain⟨i,h⟩:=k;cases r with
 |none=>cases h
 |some q =>
  obtain⟨bs,g⟩:=q;obtain⟨e,h⟩:=h;cases e;exact⟨bs,g,rfl,rfl,i,h⟩
theorem EndN.pan{sc r v m}(k:EndN p bv ts sc mu r (.pan v) m):r=none/\v=cfV/\But2 p bv mu m:=by
 obtain⟨g,h⟩:=k;cases r with
 |none=>grind
 |some q=>grind
theorem nar1U(f n):qj qg 250 [.agg (vL f),.ip (cNd n)] (aB (decide (f.name=n.name))):=by
 refine qSV call250 func250 rfl ?_;simp[go_sem,jd];exact .zsc _
def WWs:List AV->List AV->Prop
 | [],[]=>True
 |x :: p,y :: j=>(x=y\/WK x y)/\WWs p j
 |_,_=>False
theorem WWs.get:∀{xs ys},WWs xs ys->ys.length=xs.length/\∀(k:Nat) x y,xs[k]?=some x->ys[k]?=some y->x=y\/WK x y
 | [],[],_=>⟨rfl,fun k x y h=>by simp at h⟩
 |x :: xs,y :: ys,h=>by
  obtain⟨j,l⟩:=h;obtain⟨o,p⟩:=WWs.get l;refine⟨zP1 o,fun k a b g i=>?_⟩;cases k with
  |zero=>simp at g i;subst g;subst i;exact j
  |succ k=>exact p k a b (zUs g) (zUs i)
 | [],_ :: _,h=>h.elim
 |_ :: _,[],h=>h.elim
theorem tY{P f args args' R}(j:WWs args args')(h:qC P f args' mu R):qC P f args mu R:=by
 obtain⟨l,o⟩:=j.get;refine⟨h.1,fun G w p s g=>h.2 G w p s ⟨by rw[l];exact g.1,fun k y t=>?_⟩⟩;have i:k<args.length:=by grind
 have C:=g.2 k args[k] (qy i);rcases o k _ y (qy i) t with e|e
 .grind
 .exact VRel.mono (G:=⟨G.imm,[]⟩) (G':=G) ⟨fun b h=>h,fun b x h=>by simp at h⟩ (Ext.refl _ _) (e G w.heap _ C)
theorem pn{n x y m}(g:n.sD=[x,y])(i:szN n<=m+1):szN x<=m/\szN y<=m:=by
 have j:=zl (n:=n) (k:=x) (by rw[g];simp);have l:=zl (n:=n) (k:=y) (by rw[g];simp);omega
def NarM(ts:TS)(sc:Sc)(n:Nd)(a:Int):Prop:=∀(I:Mu)(p:Nat)(i:AV)(o:List Bd)(j g:Bool)(P Q:Rl),NsW I p i ts sc o j->BdS ts (sumI sc.sC) o->GR (sumI sc.sC) P->P.ar=a->GR (sumI sc.sC) Q->Q.ar=a ->
 qC qg 205 [.ptr p 0,eNd n,eRel P,eRel Q,aB g] I (EndN p i ts sc I (narN ts sc g n P Q o j))
theorem narM{sc}(C:NwC ts sc):∀ m n a,szN n<=m->ArN (arT ts) n a->NarM ts sc n a
 | 0,n,a,hm,_=>by obtain⟨op,nm,i,ks,q⟩:=n;simp[szN]at hm
 |m+1,n,a,hm,hn=>by
  intro I p bv o ch g P Q hN hb hP pa hQ qa;have h0:=C.W.s.n0;have a3:=C.W.h12;have hI:=C.W.ok hb hn;have cI:=C.iv hb hn;have l1:=hI.lo.len h0 zOm;have l2:=hI.up.len h0 zOm;have l3:=hP.len h0 zOm;have l4:=hQ.len h0 zOm;generalize j:narN ts sc g n P Q o ch=R;rw[Vl]at j;have ai:=fun (I:Mu) (bv:AV) (h:NsR I p ts sc o ch bv)=>cI _ _ _ _ true h
  generalize hX:ivl ⟨ts,sc,o⟩ [] n=X at *
  refine qSW call205 func205 rfl {} ?_;simp[go_sem];refine qi.mem (ai _ _ hN.r) fun m1 h1=>?_
  have ab:=hN.le h1;simp[go_sem];have cA:=inU P X.up zOm zOm;have cB:=inU X.lo Q zOm zOm;change qj qg 54 _ (aB (sub1 P X.up)) at cA;change qj qg 54 _ (aB (sub1 X.lo Q)) at cB;refine t8 cA (.zk (qr _) (.zk (qr _) .nil)) ?_;have a5:EndN p bv ts sc I none (.pan cfV) (m1++[.arr (cBd X)]):=⟨tX (h1.trans (MuLe.app (MuLe.refl _) _)),rfl⟩;cases a6:sub1 P X.up with
  |false =>
   rw[a6,if_neg zSp]at j;subst j;simp[go_sem];refine aC (chkC false) (.zs .nil) ?_;simp[go_sem];exact a5
  |true =>
  simp[go_sem];refine t8 cB (.zk (qr _) (.zk (qr _) .nil)) ?_;cases ad:sub1 X.lo Q with
  |false =>
   rw[a6,ad,if_neg zSp]at j;subst j;simp[go_sem];refine aC (chkC false) (.zs .nil) ?_;simp[go_sem];exact a5
  |true =>
  simp only[a6,ad,Bool.and_self,if_true]at j;simp[go_sem];refine aK (chkC true) (.zs .nil) (fun r e=>?_) (fun r e=>by cases e);cases e;have ae:=hI.lo.ar1;have a7:=hI.lo.ar3;have aj:NsW (m1++[.arr (cBd X)]) p bv ts sc o ch:=ab.le (MuLe.app (MuLe.refl _) _);simp[go_sem];refine fY (allF ts sc o ch (sumI sc.sC) h0 a3 X.lo.ar zOm a7) ⟨aj.r.rd,.hf _ (HF.sc _),trivial⟩ ?_;simp[go_sem];have hM:NsW (m1++[.arr (cBd X),.arr (cRel (KA.allN (sumI sc.sC) X.lo.ar))]) p bv ts sc o ch:=ab.le (MuLe.app (MuLe.refl _) _);have hA:(m1++[.arr (cBd X),.arr (cRel (KA.allN (sumI sc.sC) X.lo.ar))])[m1.length+1]?=some (.arr (cRel (KA.allN (sumI sc.sC) X.lo.ar))):=zSp;have l:But2 p bv I (m1++[.arr (cBd X),.arr (cRel (KA.allN (sumI sc.sC) X.lo.ar))]):=tX (h1.trans (MuLe.app (MuLe.refl _) _));have T:=Jh (n:=sumI sc.sC) (a:=X.lo.ar) h0 ae a7;generalize KA.allN (sumI sc.sC) X.lo.ar=AL at *
  generalize az:(m1++[Cell.arr (cBd X),.arr (cRel AL)])=M at *
  have af:I.length<=m1.length+1:=zW1 (MuLe.len h1);have ag:∀ i,I.length<=i->i≠p/\qq bv≠some i:=fun i hi=>by
   have hp:=(ql.1 hN.st).1;refine⟨zOm,fun e=>?_⟩;rcases hN.ow with ⟨rfl,_⟩|⟨q,rfl,hq,_⟩
   .cases e
   .cases e
    have:=(ql.1 hq).1;omega
  generalize m1.length+1=bA at *
  have keep:∀{m2:Mu}{i:Nat}{c:Cell},But2 p bv M m2->I.length<=i->M[i]?=some c->m2[i]?=some c:=fun {m2 i c} hb hi hc=>by
   obtain⟨f1,f2⟩:=ag i hi;rw[hb.2 i (ql.1 hc).1 f1 f2];exact hc
  by_cases o1:n.op=1
  .rw [if_pos o1]at j
   have hC:HF (.ip (cNd n)):=HF.ip (jQ n);have hF:HF (.fn (.func 250) [] [.ip (cNd n)]):=HF.fn (fun c hc=>by simp at hc) (fun c hc=>by simp at hc;subst hc;exact hC);have cX:=idxFl false ts.sA (.fn (.func 250) [] [.ip (cNd n)]) (fun f=>decide (f.name=n.name)) ⟨_,[],_,rfl,fun f hf=>⟨[.agg (vL f),.ip (cNd n)],nar1U f n,.zk (HF.agg (nv f)) (.zk hC .nil)⟩⟩ (zW1 C.nf);simp[go_sem,o1,hM.st];refine t8 cX (.zk (J4 _) (.zk hF .nil)) ?_;cases hi:idxF ts.sA n.name with
   |none =>
    have a8:idxI ts.sA (fun f=>decide (f.name=n.name)) = -1:=by unfold idxI;rw[show ts.sA.findIdx? (fun f=>decide (f.name=n.name))=none from hi]
    rw[hi]at j;replace j:some (o,ch)=R:=j;subst j;rw[a8];simp[go_sem];exact⟨l,rfl,hM⟩
   |some i =>
    have a8:idxI ts.sA (fun f=>decide (f.name=n.name))=i:=by unfold idxI;rw[show ts.sA.findIdx? (fun f=>decide (f.name=n.name))=some i from hi]
    obtain⟨ak,al,a9,ea⟩:=qb3 C.W hb (qsO hn o1) hi;rw[hi]at j;simp only[zH,List.getElem?_map,qy a9,Option.map_some,Option.getD_some]at j;rw[a8];have hf:=qsM hM i ak P Q h0 a3 al hP pa hQ;cases g with
    |true =>
     rw[Bool.true_or,if_pos rfl]at j;rw[j]at hf;simp[go_sem];refine aA hf (fun r m h=>?_) (fun r m h=>?_)
     .obtain ⟨an,ao,_,U,_,_⟩:=EndN.ret h
      subst U;simp[go_sem];exact EndN.of l h
     .simp [go_sem]
      exact EndN.of l h
    |false =>
     rw[Bool.false_or]at j;cases hv:ts.sA[i].var with
     |true =>
      rw[hv]at j;replace j:some (o,ch)=R:=j;subst j;simp[go_sem,hM.st,a9,hv];exact⟨l,rfl,hM⟩
     |false =>
      rw[hv,Bool.not_false,if_pos rfl]at j;rw[j]at hf;simp[go_sem,hM.st,a9,hv];refine aA hf (fun r m h=>?_) (fun r m h=>?_)
      .obtain ⟨an,ao,_,U,_,_⟩:=EndN.ret h
       subst U;simp[go_sem];exact EndN.of l h
      .simp [go_sem]
       exact EndN.of l h
  rw[if_neg o1]at j;by_cases o6:n.op=6
  .rw [if_pos o6]at j
   obtain⟨x,y,J,hx,hy⟩:=pm hn (.inl o6);rw[J,UZ]at j;have s1:=pn J hm;have aq:=C.W.ok hb hx;have au:=C.W.ok hb hy;have ix:=C.iv hb hx;have iy:=C.iv hb hy;have lx:=aq.up.len h0 zOm;have ly:=au.up.len h0 zOm;have dP:∀ z:Rl,(⟨P.ar,(diR P z).ts⟩:Rl)=diR P z:=fun z=>rfl
   simp only[zf,List.map_nil,List.getD_cons_zero,List.getD_cons_succ,dP]at j;have fx:=fun (I:Mu) (bv:AV) (h:NsR I p ts sc o ch bv)=>ix _ _ _ _ true h
   have fy:=fun (I:Mu) (bv:AV) (h:NsR I p ts sc o ch bv)=>iy _ _ _ _ true h
   generalize b0:ivl ⟨ts,sc,o⟩ [] x=XA at *
   generalize b2:ivl ⟨ts,sc,o⟩ [] y=XB at *
   simp[go_sem,o1,o6,J];refine fG [0,1,2,3,4,7,8,9,10,11,5,6,12,13,14,15,16,17] [(5,1,[9,11]),(12,1,[]),(14,2,[2,4,9,11]),(15,2,[2,4,9,11]),(16,1,[]),(17,1,[])] zKr zKr zSi ?_;simp[go_sem,J];refine qi.mem (fx _ _ hM.r) fun m3 h3=>?_
   simp[go_sem,J];refine qi.mem (fy _ _ (hM.le h3).r) fun m4 h4=>?_
   simp[go_sem,J];have av:NsW (m4++[.arr (cRel XA.up),.arr (cRel XB.up)]) p bv ts sc o ch:=((hM.le h3).le h4).le (MuLe.app (MuLe.refl _) _);have aa:But2 p bv I (m4++[.arr (cRel XA.up),.arr (cRel XB.up)]):=l.trans (tX ((h3.trans h4).trans (MuLe.app (MuLe.refl _) _)));have ga:(m4++[Cell.arr (cRel XA.up),Cell.arr (cRel XB.up)])[m4.length]?=some (.arr (cRel XA.up)):=zSp;have gb:(m4++[Cell.arr (cRel XA.up),Cell.arr (cRel XB.up)])[m4.length+1]?=some (.arr (cRel XB.up)):=zSp;have aw:I.length<=m4.length:=by have:=l.1;have:=MuLe.len h3;have:=MuLe.len h4;omega
   generalize b3:(m4++[Cell.arr (cRel XA.up),Cell.arr (cRel XB.up)])=M5 at *
   generalize m4.length=ba at *
   have c1:=narM C m x a s1.1 hx M5 p bv o ch g (diR P XB.up) Q av hb (tT hP) pa hQ qa;have st1:=fun (b1:List Bd) (k1:Bool) (e:narN ts sc g x (diR P XB.up) Q o ch=some (b1,k1))=>(uG C.W hx g _ Q o b1 ch k1 hb (tT hP) pa hQ qa e).v
   refine fG [0,1,2,3,4,5,6,8,9,7,10] [(7,1,[2,4,8]),(10,1,[])] zKr zKr zSi ?_;simp[go_sem,J,gb];refine t8 (Z1 P XB.up zOm zOm) (.zk (qr _) (.zk (qr _) .nil)) ?_;simp[go_sem,J,gb];refine aA c1 (fun r m6 h=>?_) (fun r m6 h=>?_)
   .obtain ⟨b1,k1,e1,U,t,a0⟩:=EndN.ret h
    subst U;rw[e1]at j;replace j:narN ts sc g y (diR P XA.up) Q b1 k1=R:=j;have ah:m6[ba]?=some (.arr (cRel XA.up)):=by
     obtain⟨f1,f2⟩:=ag ba aw;rw[t.2 ba (ql.1 ga).1 f1 f2];exact ga
    have c2:=narM C m y a s1.2 hy m6 p bv b1 k1 g (diR P XA.up) Q a0 (st1 b1 k1 e1) (tT hP) pa hQ qa;simp[go_sem];refine fG [0,1,2,3,4,5,6,8,9,7,10] [(7,1,[2,4,8]),(10,1,[])] zKr zKr zSi ?_;simp[go_sem,J,ah];refine t8 (Z1 P XA.up zOm zOm) (.zk (qr _) (.zk (qr _) .nil)) ?_;simp[go_sem,J,ah];refine aA c2 (fun r m7 h=>?_) (fun r m7 h=>?_)
    .obtain ⟨_,_,_,U,_,_⟩:=EndN.ret h
     subst U;rw[j]at h;simp[go_sem];exact EndN.of (aa.trans t) h
    .rw [j]at h
     simp[go_sem];exact EndN.of (aa.trans t) h
   .obtain ⟨e1,U,t⟩:=EndN.pan h
    rw[e1]at j;subst j;subst U;simp[go_sem];exact⟨aa.trans t,rfl⟩
  rw[if_neg o6]at j;by_cases o7:n.op=7
  .rw [if_pos o7]at j
   obtain⟨x,y,J,hx,hy⟩:=pm hn (.inr (.inl o7));rw[J,UZ]at j;have s1:=pn J hm;have c1:=narM C m x a s1.1 hx M p bv o ch g P AL hM hb hP pa T.1 (T.2.trans hI.la);have st1:=fun (b1:List Bd) (k1:Bool) (e:narN ts sc g x P AL o ch=some (b1,k1))=>(uG C.W hx g P AL o b1 ch k1 hb hP pa T.1 (T.2.trans hI.la) e).v
   simp[go_sem,o1,o6,o7,J];refine fG [0,1,2,3,4,5,6,7,8] [(8,1,[])] zKr zKr zSi ?_;simp[go_sem,J,hA];refine aA c1 (fun r m2 h=>?_) (fun r m2 h=>?_)
   .obtain ⟨b1,k1,e1,U,t,a0⟩:=EndN.ret h
    subst U;rw[e1]at j;replace j:narN ts sc g y P AL b1 k1=R:=j;have a4:=keep t af hA;have c2:=narM C m y a s1.2 hy m2 p bv b1 k1 g P AL a0 (st1 b1 k1 e1) hP pa T.1 (T.2.trans hI.la);simp[go_sem];refine fG [0,1,2,3,4,5,6,7,8] [(8,1,[])] zKr zKr zSi ?_;simp[go_sem,J,a4];refine aA c2 (fun r m3 h=>?_) (fun r m3 h=>?_)
    .obtain ⟨_,_,_,U,_,_⟩:=EndN.ret h
     subst U;rw[j]at h;simp[go_sem];exact EndN.of (l.trans t) h
    .rw [j]at h
     simp[go_sem];exact EndN.of (l.trans t) h
   .obtain ⟨e1,U,t⟩:=EndN.pan h
    rw[e1]at j;subst j;subst U;simp[go_sem];exact⟨l.trans t,rfl⟩
  rw[if_neg o7]at j;by_cases o8:n.op=8
  .rw [if_pos o8]at j
   obtain⟨x,y,J,hx,hy⟩:=pm hn (.inr (.inr o8));rw[J,qb4]at j;have s1:=pn J hm;have c1:=narM C m x a s1.1 hx M p bv o ch g P AL hM hb hP pa T.1 (T.2.trans hI.la);have st1:=fun (b1:List Bd) (k1:Bool) (e:narN ts sc g x P AL o ch=some (b1,k1))=>(uG C.W hx g P AL o b1 ch k1 hb hP pa T.1 (T.2.trans hI.la) e).v
   have l7:=T.1.len h0 zOm;simp[go_sem,o1,o6,o7,o8,J];refine fG [0,1,2,3,4,5,6,7,8] [(8,1,[])] zKr zKr zSi ?_;simp[go_sem,J,hA];refine aA c1 (fun r m2 h=>?_) (fun r m2 h=>?_)
   .obtain ⟨b1,k1,e1,U,t,a0⟩:=EndN.ret h
    subst U;rw[e1]at j;replace j:narN ts sc g y ⟨X.lo.ar,[]⟩ (diR AL P) b1 k1=R:=j;have a4:=keep t af hA;have c2:=narM C m y a s1.2 hy m2 p bv b1 k1 g ⟨X.lo.ar,[]⟩ (diR AL P) a0 (st1 b1 k1 e1) (GR.nil ae a7) hI.la (tT T.1) (T.2.trans hI.la);simp[go_sem];refine fG [0,1,2,3,4,5,6,7,8,9,11,10,12] [(10,1,[2,4,6]),(12,1,[])] zKr zKr zSi ?_;simp[go_sem,J,a4];refine t8 (Z1 AL P zOm zOm) (.zk (qr _) (.zk (qr _) .nil)) ?_;have ax:=tY (args:=[.ptr p 0,eNd y,.agg [aI AL.ar,.lst true []],eRel (diR AL P),aB g]) (args':=[.ptr p 0,eNd y,eRel ⟨X.lo.ar,[]⟩,eRel (diR AL P),aB g]) ⟨.inl rfl,.inl rfl,.inr (WK.aggs (.cons (by rw[T.2];exact .hf (HF.sc _)) (.cons (WK.lst fun r hr=>absurd hr qO) .nil))),.inl rfl,.inl rfl,trivial⟩ c2;simp[go_sem,J,a4];refine aA ax (fun r m7 h=>?_) (fun r m7 h=>?_)
    .obtain ⟨_,_,_,U,_,_⟩:=EndN.ret h
     subst U;rw[j]at h;simp[go_sem];exact EndN.of (l.trans t) h
    .rw [j]at h
     simp[go_sem];exact EndN.of (l.trans t) h
   .obtain ⟨e1,U,t⟩:=EndN.pan h
    rw[e1]at j;subst j;subst U;simp[go_sem];exact⟨l.trans t,rfl⟩
  rw[if_neg o8]at j;by_cases a1:n.op=11
  .rw [if_pos a1]at j
   obtain⟨a2,x,J,hx⟩:=qsN hn a1;rw[J,narT]at j;have s1:szN x<=m:=by have:=zl (n:=n) (k:=x) (by rw[J];simp);omega
   have cP:=UJ _ h0 a3 P hP (pa.trans a2);have cQ:=UJ _ h0 a3 Q hQ (qa.trans a2);have c1:=narM C m x 2 s1 hx M p bv o ch g (trR (sumI sc.sC) P) (trR (sumI sc.sC) Q) hM hb (GR.trans h0 hP (pa.trans a2)) rfl (GR.trans h0 hQ (qa.trans a2)) rfl;simp[go_sem,o1,o6,o7,o8,a1,J];refine fG [0,1,2,3,4,5,6,7,8,9,11,12,13,14,15,17,10,16,18] [(10,1,[2,4,14,15]),(16,1,[2,4]),(18,1,[])] zKr zKr zSi ?_;simp[go_sem,J,hM.st];refine t8 cP (.zs (.zk (qr _) .nil)) ?_;simp[go_sem,J,hM.st];refine t8 cQ (.zs (.zk (qr _) .nil)) ?_;simp[go_sem,J,hM.st];refine aA c1 (fun r m3 h=>?_) (fun r m3 h=>?_)
   .obtain ⟨_,_,_,U,_,_⟩:=EndN.ret h
    subst U;rw[j]at h;simp[go_sem];exact EndN.of l h
   .rw [j]at h
    simp[go_sem];exact EndN.of l h
  rw[if_neg a1]at j;subst j;simp[go_sem,o1,o6,o7,o8,a1];exact⟨l,rfl,hM⟩
end
end O9
set_option maxHeartbeats 1000000
namespace OA
open Y1 Y9 P1 E4 F6 KA KB O0 O2 KE KF O7 O9
variable {ts:TS} {sc:Sc}
theorem Yc(C:NwC ts sc){n a}(g:ArN (arT ts) n a):NarM ts sc n a:=narM C (szN n) n a (qn _) g
theorem noM(C:NwC ts sc){n a}(o:ArN (arT ts) n a){mu p bv bs i}(g)(U:NsW mu p bv ts sc bs i)(t:BdS ts (sumI sc.sC) bs) :
  qC qg 201 [.ptr p 0,eNd n,aB g] mu (EndN p bv ts sc mu (noN ts sc g n bs i)):=by
 have l:=C.W.ok t o;have cI:=C.iv t o;have I:=fun (mu:Mu) (bv:AV) (h:NsR mu p ts sc bs i bv)=>cI _ _ _ _ true h
 generalize hR:noN ts sc g n bs i=R;unfold noN at hR;generalize hX:ivl ⟨ts,sc,bs⟩ [] n=X at *
 have J:=l.lo.ar1;have P:=l.lo.ar3;have hZ:=z_ok (n:=sumI sc.sC) J P;refine qSW call201 func201 rfl {} ?_;simp[go_sem];refine qi.mem (I _ _ U.r) fun m1 h1=>?_
 have hM:NsW (m1++[.arr [aI X.lo.ar,.lst true []]]) p bv ts sc bs i:=(U.le h1).le (MuLe.app (MuLe.refl _) _);have j:But2 p bv mu (m1++[.arr [aI X.lo.ar,.lst true []]]):=tX (h1.trans (MuLe.app (MuLe.refl _) _));have c1:=Yc C o _ p bv bs i g ⟨X.lo.ar,[]⟩ ⟨X.lo.ar,[]⟩ hM t hZ.1 l.la hZ.1 l.la;have wz:WK (.agg [aI X.lo.ar,.lst true []]) (eRel ⟨X.lo.ar,[]⟩):=WK.aggs (.zs (.cons (WK.lst fun r hr=>absurd hr qO) .nil));have c2:=tY (args:=[.ptr p 0,eNd n,.agg [aI X.lo.ar,.lst true []],.agg [aI X.lo.ar,.lst true []],aB g]) (args':=[.ptr p 0,eNd n,eRel ⟨X.lo.ar,[]⟩,eRel ⟨X.lo.ar,[]⟩,aB g]) ⟨.inl rfl,.inl rfl,.inr wz,.inr wz,.inl rfl,trivial⟩ c1;rw[hR]at c2;simp[go_sem];refine aA c2 (fun r m h=>?_) (fun r m h=>?_)
 .obtain ⟨_,_,_,e2,_,_⟩:=EndN.ret h
  subst e2;simp[go_sem];exact EndN.of j h
 .simp [go_sem]
  exact EndN.of j h
theorem pq(C:NwC ts sc){n a}(J:ArN (arT ts) n a){mu p bv bs l}(g)(hN:NsW mu p bv ts sc bs l)(P:BdS ts (sumI sc.sC) bs) :
  qC qg 202 [.ptr p 0,eNd n,aB g] mu (EndN p bv ts sc mu (wR ts sc g n bs l)):=by
 have h0:=C.W.s.n0;have T:=C.W.h12;have o:=C.W.ok P J;have cI:=C.iv P J;have U:=fun (mu:Mu) (bv:AV) (h:NsR mu p ts sc bs l bv)=>cI _ _ _ _ true h
 generalize j:wR ts sc g n bs l=R;unfold wR at j;generalize hX:ivl ⟨ts,sc,bs⟩ [] n=X at *
 have a0:=o.up.ar1;have t:=o.up.ar3;have I:=Jh (n:=sumI sc.sC) (a:=X.up.ar) h0 a0 t;refine qSW call202 func202 rfl {} ?_;simp[go_sem];refine qi.mem (U _ _ hN.r) fun m1 h1=>?_
 have hM:NsW (m1++[.arr (cBd X)]) p bv ts sc bs l:=(hN.le h1).le (MuLe.app (MuLe.refl _) _);have i:But2 p bv mu (m1++[.arr (cBd X)]):=tX (h1.trans (MuLe.app (MuLe.refl _) _));by_cases l0:X.up.ts.length=0
 .rw [if_pos l0]at j
  subst j;simp[go_sem,l0];refine aC (chkC false) (.zs .nil) ?_;simp[go_sem];exact⟨i,rfl⟩
 rw[if_neg l0]at j;have a1:0<X.up.ts.length:=zOm;simp[go_sem,a1];refine aK (chkC true) (.zs .nil) (fun r e=>?_) (fun r e=>by cases e);cases e;by_cases l1:X.up.ts.length=1
 .rw [if_pos l1]at j
  have c1:=Yc C J _ p bv bs l g X.up (KA.allN (sumI sc.sC) X.up.ar) hM P o.up o.ua I.1 (I.2.trans o.ua);rw[j]at c1;simp[go_sem,l1];refine fG [0,1,2,3,4,5,6,7,9,8,10] [(8,1,[1,3]),(10,1,[])] zKr zKr zSi ?_;simp[go_sem];refine fY (allF ts sc bs l (sumI sc.sC) h0 T X.up.ar zOm t) ⟨hM.r.rd,.hf _ (HF.sc _),trivial⟩ ?_;simp[go_sem];refine aA c1 (fun r m h=>?_) (fun r m h=>?_)
  .obtain ⟨_,_,_,e2,_,_⟩:=EndN.ret h
   subst e2;simp[go_sem];exact EndN.of i h
  .simp [go_sem]
   exact EndN.of i h
 .rw [if_neg l1]at j
  subst j;have l2:¬(X.up.ts.length:Int)=1:=zOm;simp[go_sem,l2];exact⟨i,rfl,hM⟩
theorem qfL(C:NwC ts sc){n a}(I:ArN (arT ts) n a){mu p bv bs o}(g)(hN:NsW mu p bv ts sc bs o)(J:BdS ts (sumI sc.sC) bs) :
  qC qg 204 [.ptr p 0,eNd n,aB g] mu (EndN p bv ts sc mu (wS ts sc g n bs o)):=by
 have t:=C.W.ok J I;have cI:=C.iv J I;have P:=fun (mu:Mu) (bv:AV) (h:NsR mu p ts sc bs o bv)=>cI _ _ _ _ true h
 generalize j:wS ts sc g n bs o=R;unfold wS at j;generalize hX:ivl ⟨ts,sc,bs⟩ [] n=X at *
 have hZ:=z_ok (n:=sumI sc.sC) t.lo.ar1 t.lo.ar3;refine qSW call204 func204 rfl {} ?_;simp[go_sem];refine qi.mem (P _ _ hN.r) fun m1 h1=>?_
 have hM:NsW (m1++[.arr (cBd X)]) p bv ts sc bs o:=(hN.le h1).le (MuLe.app (MuLe.refl _) _);have i:But2 p bv mu (m1++[.arr (cBd X)]):=tX (h1.trans (MuLe.app (MuLe.refl _) _));by_cases l0:1<X.lo.ts.length
 .rw [if_pos l0]at j
  subst j;have l:¬(X.lo.ts.length:Int)<2:=zOm;simp[go_sem,l];refine aC (chkC false) (.zs .nil) ?_;simp[go_sem];exact⟨i,rfl⟩
 rw[if_neg l0]at j;have l:(X.lo.ts.length:Int)<2:=zOm;simp[go_sem,l];refine aK (chkC true) (.zs .nil) (fun r e=>?_) (fun r e=>by cases e);cases e;by_cases T:X.lo.ts.length=1
 .rw [if_pos T]at j
  have c1:=Yc C I _ p bv bs o g ⟨X.lo.ar,[]⟩ X.lo hM J hZ.1 t.la t.lo t.la;have wz:WK (.agg [aI X.lo.ar,.lst true []]) (eRel ⟨X.lo.ar,[]⟩):=WK.aggs (.zs (.cons (WK.lst fun r hr=>absurd hr qO) .nil));have c2:=tY (args:=[.ptr p 0,eNd n,.agg [aI X.lo.ar,.lst true []],eRel X.lo,aB g]) (args':=[.ptr p 0,eNd n,eRel ⟨X.lo.ar,[]⟩,eRel X.lo,aB g]) ⟨.inl rfl,.inl rfl,.inr wz,.inl rfl,.inl rfl,trivial⟩ c1;rw[j]at c2;simp[go_sem,T];refine aA c2 (fun r m h=>?_) (fun r m h=>?_)
  .obtain ⟨_,_,_,e2,_,_⟩:=EndN.ret h
   subst e2;simp[go_sem];exact EndN.of i h
  .simp [go_sem]
   exact EndN.of i h
 .rw [if_neg T]at j
  subst j;have l2:¬(X.lo.ts.length:Int)=1:=zOm;simp[go_sem,l2];exact⟨i,rfl,hM⟩
end OA
set_option maxHeartbeats 1000000
namespace OB
open Y1 P1 E1 E2 E4 EO EY F3 F6 KA KB O0 O2 KE KF O7 O9 OA
variable {ts:TS} {sc:Sc}
theorem qsP(C:NwC ts sc){n}(hT:TyC (arT ts) n)(P:n.op=40){mu p bv bs t}(g)(hN:NsW mu p bv ts sc bs t)(hb:BdS ts (sumI sc.sC) bs) :
  qC qg 144 [.ptr p 0,eNd n,aB g] mu (EndN p bv ts sc mu (u4 ts sc g n bs t)):=by
 obtain⟨m,hk,hm,_⟩:=hT.2 P;generalize l:u4 ts sc g n bs t=R;have e:kidN n 0=m:=by simp[kidN,hk]
 unfold u4 at l;simp only[P,if_true,e,decide_true,true_and,Bool.true_eq_false,false_and,or_false]at l;refine qSW call144 func144 rfl { mt:=[4] } ?_;have T:mu.length<(mu++[Cell.arr (cNd n)]).length:=zSp;have U:NsW ((mu++[Cell.arr (cNd n)]).set mu.length (.arr (cNd m))) p bv ts sc bs t:=hN.le (tB (MuLe.app (MuLe.refl _) _) (qn _) _);have i:But2 p bv mu ((mu++[Cell.arr (cNd n)]).set mu.length (.arr (cNd m))):=tX (tB (MuLe.app (MuLe.refl _) _) (qn _) _);have I:((mu++[Cell.arr (cNd n)]).set mu.length (.arr (cNd m)))[mu.length]?=some (.arr (cNd m)):=qJ T;generalize a0:(mu++[Cell.arr (cNd n)]).set mu.length (.arr (cNd m))=M at *
 have hd:cNd m++List.drop 5 (cNd n)=cNd m:=by cases n;simp[cNd]
 simp[go_sem,P,hk,hd,a0,I];by_cases o:m.op=34
 .obtain ⟨k,a,j,ha⟩:=hm zOm
  rw[if_pos o,show kidN m 0=k by simp[kidN,j]]at l;simp[go_sem,o,j,I];have c:=noM C ha g U hb;rw[l]at c;refine aA c (fun r m h=>?_) (fun r m h=>?_)
  .obtain ⟨_,_,_,e2,_,_⟩:=EndN.ret h
   subst e2;simp[go_sem];exact EndN.of i h
  .simp [go_sem]
   exact EndN.of i h
 by_cases J:m.op=35
 .obtain ⟨k,a,j,ha⟩:=hm zOm
  rw[if_neg o,if_pos J,show kidN m 0=k by simp[kidN,j]]at l;simp[go_sem,o,J,j,I];have c:=pq C ha g U hb;rw[l]at c;refine aA c (fun r m h=>?_) (fun r m h=>?_)
  .obtain ⟨_,_,_,e2,_,_⟩:=EndN.ret h
   subst e2;simp[go_sem];exact EndN.of i h
  .simp [go_sem]
   exact EndN.of i h
 rw[if_neg o,if_neg J]at l;subst l;simp[go_sem,o,J,I];exact⟨i,rfl,U⟩
theorem qsQ(C:NwC ts sc){n}(hT:TyK (arT ts) n)(ho:¬n.op=40){mu p bv bs ch}(g)(hN:NsW mu p bv ts sc bs ch)(hb:BdS ts (sumI sc.sC) bs) :
  qC qg 144 [.ptr p 0,eNd n,aB g] mu (EndN p bv ts sc mu (u4 ts sc g n bs ch)):=by
 have h0:=C.W.s.n0;have ah:=C.W.h12;generalize t:u4 ts sc g n bs ch=R;unfold u4 at t;simp only[ho,if_false,decide_false,Bool.false_eq_true,false_and,false_or,true_and]at t;refine qSW call144 func144 rfl { mt:=[4] } ?_;have hM:NsW (mu++[Cell.arr (cNd n)]) p bv ts sc bs ch:=hN.le (MuLe.app (MuLe.refl _) _);have J:But2 p bv mu (mu++[Cell.arr (cNd n)]):=tX (MuLe.app (MuLe.refl _) _);have hz:(mu++[Cell.arr (cNd n)])[mu.length]?=some (.arr (cNd n)):=zSp;have aq:p≠mu.length:=by have:=(ql.1 hN.st).1;omega
 have au:qq bv≠some mu.length:=fun e=>by
  rcases hN.ow with ⟨rfl,_⟩|⟨q,rfl,hq,_⟩
  .cases e
  .cases e
   have:=(ql.1 hq).1;omega
 have aj:∀ i,mu.length<=i->i≠p/\qq bv≠some i:=fun i hi=>by
  have hp:=(ql.1 hN.st).1;refine⟨zOm,fun e=>?_⟩;rcases hN.ow with ⟨rfl,_⟩|⟨q,rfl,hq,_⟩
  .cases e
  .cases e
   have:=(ql.1 hq).1;omega
 generalize ak:mu++[Cell.arr (cNd n)]=M at *
 have keep:∀{m1 m2:Mu}{i:Nat}{c:Cell},But2 p bv m1 m2->mu.length<=i->m1[i]?=some c->m2[i]?=some c:=fun {m1 m2 i c} hb hi hc=>by
  obtain⟨f1,f2⟩:=aj i hi;rw[hb.2 i (ql.1 hc).1 f1 f2];exact hc
 simp[go_sem,ho,ak,hz];by_cases o5:n.op=35
 .obtain ⟨k,a,j,ha⟩:=hT.1 zOm
  rw[if_pos o5,show kidN n 0=k by simp[kidN,j]]at t;simp[go_sem,o5,j,hz];have c:=noM C ha g hM hb;rw[t]at c;refine aA c (fun r m h=>?_) (fun r m h=>?_)
  .obtain ⟨_,_,_,P,_,_⟩:=EndN.ret h
   subst P;simp[go_sem];exact EndN.of J h
  .simp [go_sem]
   exact EndN.of J h
 rw[if_neg o5]at t;by_cases o4:n.op=34
 .obtain ⟨k,a,j,ha⟩:=hT.1 zOm
  rw[if_pos o4,show kidN n 0=k by simp[kidN,j]]at t;simp[go_sem,o4,o5,j,hz];have c:=pq C ha g hM hb;rw[t]at c;refine aA c (fun r m h=>?_) (fun r m h=>?_)
  .obtain ⟨_,_,_,P,_,_⟩:=EndN.ret h
   subst P;simp[go_sem];exact EndN.of J h
  .simp [go_sem]
   exact EndN.of J h
 rw[if_neg o4]at t;by_cases o1:n.op=31
 .rw [if_pos o1]at t
  subst t;simp[go_sem,o1,o4,o5,hz];refine aC (chkC false) (.zs .nil) ?_;simp[go_sem];exact⟨J,rfl⟩
 rw[if_neg o1]at t;by_cases o6:n.op=36
 .obtain ⟨k,a,j,ha⟩:=hT.1 zOm
  rw[if_pos o6,show kidN n 0=k by simp[kidN,j]]at t;simp[go_sem,o1,o4,o5,o6,j,hz];have c:=pq C ha g hM hb;have U:=fun (b1:List Bd) (k1:Bool) (e:wR ts sc g k bs ch=some (b1,k1))=>(K3 C.W ha g bs b1 ch k1 hb e).v
  refine aA c (fun r m h=>?_) (fun r m h=>?_)
  .obtain ⟨b1,k1,e1,P,I,a3⟩:=EndN.ret h
   subst P;rw[e1]at t;replace t:wS ts sc g k b1 k1=R:=t;have al:=keep I (qn _) hz;have c2:=qfL C ha g a3 (U b1 k1 e1);rw[t]at c2;simp[go_sem,j,al];refine aA c2 (fun r m h=>?_) (fun r m h=>?_)
   .obtain ⟨_,_,_,P,_,_⟩:=EndN.ret h
    subst P;simp[go_sem];exact EndN.of (J.trans I) h
   .simp [go_sem]
    exact EndN.of (J.trans I) h
  .obtain ⟨e1,P,I⟩:=EndN.pan h
   rw[e1]at t;subst t;subst P;simp[go_sem];exact⟨J.trans I,rfl⟩
 rw[if_neg o6]at t;by_cases o7:n.op=37
 .obtain ⟨k,a,j,ha⟩:=hT.1 zOm
  rw[if_pos o7,show kidN n 0=k by simp[kidN,j]]at t;simp[go_sem,o1,o4,o5,o6,o7,j,hz];have c:=qfL C ha g hM hb;rw[t]at c;refine aA c (fun r m h=>?_) (fun r m h=>?_)
  .obtain ⟨_,_,_,P,_,_⟩:=EndN.ret h
   subst P;simp[go_sem];exact EndN.of J h
  .simp [go_sem]
   exact EndN.of J h
 rw[if_neg o7]at t;by_cases a9:n.op=32\/n.op=33
 .rw [if_pos a9]at t
  obtain⟨k,k',a,j,ha,aa⟩:=hT.2 a9;rw[show kidN n 0=k by simp[kidN,j],show kidN n 1=k' by simp[kidN,j]]at t;have hI:=C.W.ok hb ha;have hJ:=C.W.ok hb aa;have cI:=C.iv hb ha;have cJ:=C.iv hb aa;have fx:=fun (mu:Mu) (bv:AV) (h:NsR mu p ts sc bs ch bv)=>cI _ _ _ _ true h
  have fy:=fun (mu:Mu) (bv:AV) (h:NsR mu p ts sc bs ch bv)=>cJ _ _ _ _ true h
  generalize hX:ivl ⟨ts,sc,bs⟩ [] k=X at *
  generalize hY:ivl ⟨ts,sc,bs⟩ [] k'=Y at *
  have ai:=hI.lo.ar1;have ab:=hI.lo.ar3;have a0:=Jh (n:=sumI sc.sC) (a:=X.lo.ar) h0 ai ab;have hZ:=z_ok (n:=sumI sc.sC) ai ab;rcases a9 with o2|o3
  .simp only[o2,if_true]at t
   simp[go_sem,o1,o2,o4,o5,o6,o7,j,hz];refine fG [0,1,2,3,4,6,7,8,9,10,5,11,12,13,14,15] [(5,1,[8,10]),(11,1,[]),(12,2,[2,4,8,10]),(13,2,[2,4,8,10]),(14,1,[]),(15,1,[])] zKr zKr zSi ?_;simp[go_sem,j,hz];refine qi.mem (fx _ _ hM.r) fun m3 h3=>?_
   have a4:=h3 _ _ hz;simp[go_sem,j,a4];refine qi.mem (fy _ _ (hM.le h3).r) fun T h4=>?_
   have a5:=h4 _ _ a4;have a6:=(hM.le h3).le h4;have a7:But2 p bv mu T:=J.trans (tX (h3.trans h4));have ad:mu.length<=T.length:=a7.1;have a1:∀ l,(T++l)[mu.length]?=some (.arr (cNd n)):=fun l=>zx a5 l
   simp[go_sem,j,a5,a1];refine fY (allF ts sc bs ch (sumI sc.sC) h0 ah X.lo.ar zOm ab) ⟨(a6.le (MuLe.app (MuLe.refl _) _)).r.rd,.hf _ (HF.sc _),trivial⟩ ?_;simp[go_sem,a1,o2];refine fG [0,1,2,3,4,6,5,7] [(5,1,[2]),(7,1,[])] zKr zKr zSi ?_;simp[go_sem];generalize av:KA.allN (sumI sc.sC) X.lo.ar=o at *
   have ae:NsW (T++[.arr [aI X.lo.ar,lI X.lo.ts,aI o.ar,lI o.ts],.arr [aI o.ar,.lst true [],aI Y.up.ar,lI Y.up.ts],.arr [aI o.ar,lI o.ts]]) p bv ts sc bs ch:=a6.le (MuLe.app (MuLe.refl _) _);have a2:But2 p bv mu (T++[.arr [aI X.lo.ar,lI X.lo.ts,aI o.ar,lI o.ts],.arr [aI o.ar,.lst true [],aI Y.up.ar,lI Y.up.ts],.arr [aI o.ar,lI o.ts]]):=a7.trans (tX (MuLe.app (MuLe.refl _) _));have a8:=a1 [.arr [aI X.lo.ar,lI X.lo.ts,aI o.ar,lI o.ts],.arr [aI o.ar,.lst true [],aI Y.up.ar,lI Y.up.ts],.arr [aI o.ar,lI o.ts]];have gx:(T++[Cell.arr [aI X.lo.ar,lI X.lo.ts,aI o.ar,lI o.ts],.arr [aI o.ar,.lst true [],aI Y.up.ar,lI Y.up.ts],.arr [aI o.ar,lI o.ts]])[T.length]?=some (.arr [aI X.lo.ar,lI X.lo.ts,aI o.ar,lI o.ts]):=zSp;have gy:(T++[Cell.arr [aI X.lo.ar,lI X.lo.ts,aI o.ar,lI o.ts],.arr [aI o.ar,.lst true [],aI Y.up.ar,lI Y.up.ts],.arr [aI o.ar,lI o.ts]])[T.length+1]?=some (.arr [aI o.ar,.lst true [],aI Y.up.ar,lI Y.up.ts]):=zSp;generalize an:(T++[Cell.arr [aI X.lo.ar,lI X.lo.ts,aI o.ar,lI o.ts],.arr [aI o.ar,.lst true [],aI Y.up.ar,lI Y.up.ts],.arr [aI o.ar,lI o.ts]])=M7 at *
   generalize T.length=bx at *
   have c0:=Yc C ha M7 p bv bs ch g ⟨o.ar,[]⟩ Y.up ae hb (GR.nil a0.1.ar1 a0.1.ar3) (a0.2.trans hI.la) hJ.up hJ.ua;have wz:WK (.agg [aI o.ar,.lst true []]) (eRel ⟨o.ar,[]⟩):=WK.aggs (.zs (.cons (WK.lst fun r hr=>absurd hr qO) .nil));have c1:=tY (args:=[.ptr p 0,eNd k,.agg [aI o.ar,.lst true []],eRel Y.up,aB g]) (args':=[.ptr p 0,eNd k,eRel ⟨o.ar,[]⟩,eRel Y.up,aB g]) ⟨.inl rfl,.inl rfl,.inr wz,.inl rfl,.inl rfl,trivial⟩ c0;have U:=fun (b1:List Bd) (k1:Bool) (e:narN ts sc g k ⟨o.ar,[]⟩ Y.up bs ch=some (b1,k1))=>(uG C.W ha g _ _ bs b1 ch k1 hb (GR.nil a0.1.ar1 a0.1.ar3) (a0.2.trans hI.la) hJ.up hJ.ua e).v
   refine fG [0,1,2,3,4,5,6,7,8,9,10] [(10,1,[])] zKr zKr zSi ?_;simp[go_sem,j,a8,gx,gy];refine aA c1 (fun r m h=>?_) (fun r m h=>?_)
   .obtain ⟨b1,k1,e1,P,I,a3⟩:=EndN.ret h
    subst P;rw[e1]at t;replace t:narN ts sc g k' X.lo o b1 k1=R:=t;have af:=keep I (qn _) a8;have ag:=keep I ad gx;have c2:=Yc C aa m p bv b1 k1 g X.lo o a3 (U b1 k1 e1) hI.lo hI.la a0.1 (a0.2.trans hI.la);rw[t]at c2;simp[go_sem];refine fG [0,1,2,3,4,5,6,7,8,9,10] [(10,1,[])] zKr zKr zSi ?_;simp[go_sem,j,af,ag];refine aA c2 (fun r m h=>?_) (fun r m h=>?_)
    .obtain ⟨_,_,_,P,_,_⟩:=EndN.ret h
     subst P;simp[go_sem];exact EndN.of (a2.trans I) h
    .simp [go_sem]
     exact EndN.of (a2.trans I) h
   .obtain ⟨e1,P,I⟩:=EndN.pan h
    rw[e1]at t;subst t;subst P;simp[go_sem];exact⟨a2.trans I,rfl⟩
  .have o2:¬n.op=32:=by omega
   simp only[o2,if_false]at t;simp[go_sem,o1,o2,o3,o4,o5,o6,o7,j,hz];refine fG [0,1,2,3,4,6,7,8,9,10,5,11,12,13,14,15] [(5,1,[8,10]),(11,1,[]),(12,2,[2,4,8,10]),(13,2,[2,4,8,10]),(14,1,[]),(15,1,[])] zKr zKr zSi ?_;simp[go_sem,j,hz];refine qi.mem (fx _ _ hM.r) fun m3 h3=>?_
   have a4:=h3 _ _ hz;simp[go_sem,j,a4];refine qi.mem (fy _ _ (hM.le h3).r) fun T h4=>?_
   have a5:=h4 _ _ a4;have a6:=(hM.le h3).le h4;have a7:But2 p bv mu T:=J.trans (tX (h3.trans h4));have ad:mu.length<=T.length:=a7.1;have a1:∀ l,(T++l)[mu.length]?=some (.arr (cNd n)):=fun l=>zx a5 l
   simp[go_sem,j,a5,a1];refine fY (allF ts sc bs ch (sumI sc.sC) h0 ah X.lo.ar zOm ab) ⟨(a6.le (MuLe.app (MuLe.refl _) _)).r.rd,.hf _ (HF.sc _),trivial⟩ ?_;simp[go_sem,a1,o3];have ae:NsW (T++[.arr (cBd X),.arr (cBd Y),.arr (cRel (KA.allN (sumI sc.sC) X.lo.ar))]) p bv ts sc bs ch:=a6.le (MuLe.app (MuLe.refl _) _);have a2:But2 p bv mu (T++[.arr (cBd X),.arr (cBd Y),.arr (cRel (KA.allN (sumI sc.sC) X.lo.ar))]):=a7.trans (tX (MuLe.app (MuLe.refl _) _));have a8:=a1 [.arr (cBd X),.arr (cBd Y),.arr (cRel (KA.allN (sumI sc.sC) X.lo.ar))];have gx:(T++[Cell.arr (cBd X),.arr (cBd Y),.arr (cRel (KA.allN (sumI sc.sC) X.lo.ar))])[T.length]?=some (.arr (cBd X)):=zSp;have gy:(T++[Cell.arr (cBd X),.arr (cBd Y),.arr (cRel (KA.allN (sumI sc.sC) X.lo.ar))])[T.length+1]?=some (.arr (cBd Y)):=zSp;generalize an:(T++[Cell.arr (cBd X),.arr (cBd Y),.arr (cRel (KA.allN (sumI sc.sC) X.lo.ar))])=M7 at *
   generalize T.length=bx at *
   have c1:=Yc C ha M7 p bv bs ch g Y.lo Y.up ae hb hJ.lo hJ.la hJ.up hJ.ua;have U:=fun (b1:List Bd) (k1:Bool) (e:narN ts sc g k Y.lo Y.up bs ch=some (b1,k1))=>(uG C.W ha g _ _ bs b1 ch k1 hb hJ.lo hJ.la hJ.up hJ.ua e).v
   refine fG [0,1,2,3,4,5,6,7,8,9,10] [(10,1,[])] zKr zKr zSi ?_;simp[go_sem,j,a8,gx,gy];refine aA c1 (fun r m h=>?_) (fun r m h=>?_)
   .obtain ⟨b1,k1,e1,P,I,a3⟩:=EndN.ret h
    subst P;rw[e1]at t;replace t:narN ts sc g k' X.lo X.up b1 k1=R:=t;have af:=keep I (qn _) a8;have ag:=keep I ad gx;have c2:=Yc C aa m p bv b1 k1 g X.lo X.up a3 (U b1 k1 e1) hI.lo hI.la hI.up hI.ua;rw[t]at c2;simp[go_sem];refine fG [0,1,2,3,4,5,6,7,8,9,10] [(10,1,[])] zKr zKr zSi ?_;simp[go_sem,j,af,ag];refine aA c2 (fun r m h=>?_) (fun r m h=>?_)
    .obtain ⟨_,_,_,P,_,_⟩:=EndN.ret h
     subst P;simp[go_sem];exact EndN.of (a2.trans I) h
    .simp [go_sem]
     exact EndN.of (a2.trans I) h
   .obtain ⟨e1,P,I⟩:=EndN.pan h
    rw[e1]at t;subst t;subst P;simp[go_sem];exact⟨a2.trans I,rfl⟩
 rw[if_neg a9]at t;subst t;have o2:¬n.op=32:=zOm;have o3:¬n.op=33:=zOm;simp[go_sem,o1,o2,o3,o4,o5,o6,o7,hz];exact⟨J,rfl,hM⟩
theorem qsR(C:NwC ts sc){n}(j:TyC (arT ts) n){mu p bv bs i}(g)(l:NsW mu p bv ts sc bs i)(o:BdS ts (sumI sc.sC) bs) :
  qC qg 144 [.ptr p 0,eNd n,aB g] mu (EndN p bv ts sc mu (u4 ts sc g n bs i)):=by
 by_cases t:n.op=40
 .grind [qsP]
 .exact qsQ C j.1 t g l o
end OB
end Go.Proofs.YthflbhjlkgdafaaGreatDoor
