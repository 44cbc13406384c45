/-
  Own library, part 7: an abstract reading of values and a calculus over it; contracts of functions; plain lemmas.
-/
import Derived.Handed
import Derived.WideKeyArgs
import Derived.ProofKit
import Derived.OpenShut
import Derived.JoinedCond
import Derived.KernelRfl
import Derived.Test.YtipbakanneogpaaGreatDoorMf
set_option linter.unusedVariables false
set_option linter.unusedSimpArgs false
set_option maxRecDepth 100000
open Go renaming Program->qc,TypeId->qd,World->qf,Value->qg,undef->zK,FuncId->qU
open Go.Proofs.Tryz renaming prog->qb
open List renaming getElem?_eq_some_iff->qj,mem_map->qm,getElem_mem->qp,range->qt,mem_cons->qw,getElem?_eq_getElem->qz,not_mem_nil->qH,mem_append->qJ,getElem?_set_self->qL,getElem?_append_left->qM,take_length->qO,mem_singleton->qT,replicate->qY,mem_of_getElem?->qZ,length_append->q8,mem_cons_of_mem->za,getElem?_map->zi,mem_cons_self->zj,all_eq_true->zo,drop_eq_getElem_cons->zp,length_cons->zz,length_map->zA,getD_eq_getElem?_getD->zE,getElem?_append_right->zG,append_nil->zJ,take_of_length_le->zQ,drop_length->zW,mem_range->z7,getElem?_set_ne->yA,mem_filter->y7,mem_append_left->jk,nil_append->vE,getElem?_cons_succ->vK,foldl_append->vL,eq_nil_of_length_eq_zero->uy,flatten_cons->wV
open Go.IntKind renaming i64->qo
open Nat renaming le_refl->qr,zero_add->yd,le_of_ble_eq_true->ub
open Option.some renaming injEq->qu
open Bool renaming and_eq_true->qE,eq_iff_iff->jM
open Array renaming getD_eq_getD_getElem?->q9
open List.Nodup renaming length_le_of_subset->jN
open Int renaming le_refl->vM,tmod_eq_emod_of_nonneg->uZ
namespace Go.Proofs.YtipbakanneogpaaGreatDoor
open Go Go.Ev Go.Proofs Tryz
namespace YD
open YM YF P1 P2 Y1 Y2 Y6 Y7 Y9 Y10 Y13 YX YZ YB PA YC
section
variable {mu:Mu}{b:Nat}
theorem qoW(p n):qh qb 120 [.agg (cPd p),.ip (cNd n)] (aB (decide (p.name=n.name))):=by
 refine qSV call120 func120 rfl ?_;by_cases h:p.name=n.name
 .simp [go_sem,h]
  exact .zsc _
 .simp [go_sem,h,jU h]
  exact .zsc _
def endE(ts:TS)(tb:Nat)(mu:Mu)(xb:Nat)(r:XR (Nd×Int))(e:AEnd)(m:Mu):Prop:=
 match r with
 | .ok ((n,k),s)=>e = .ret (.tup [eNd n,aI k])/\m[xb]?=some (.arr (cIn ts tb s))/\But xb mu m
 | .error d=>e = .pan (jT d.1 d.2)/\But xb mu m
def IHE(ts : TS)(es : List (tM × Bool))(tb f : Nat) : Prop := ∀(env : IEnv)(n : Nd)(g : Bool)(s : ISt)(C : Mu)(i : Nat), 4000 < s.sM + f->StOk (qq ts es) s->zw env->WfN n->yO ts n->C[i]? = some (.arr (cIn ts tb s))->C[tb]? = some (.mp (eSet es)) ->
      qC qb 73 [.ptr i 0,eEnv env,eNd n,aB g] C (endE ts tb C i (expI ts es f env n g s))
structure M0 (ts:TS) (es:List (tM×Bool)) (tb:Nat) (mu:Mu) (xb:Nat) (n:Nd) (s:ISt) (M:Mu):Prop where
 len:M.length=mu.length+2
 x:M[xb]?=some (.arr (cIn ts tb s))
 t:M[tb]?=some (.mp (eSet es))
 n:M[mu.length]?=some (.arr (cNd n))
 r:M[mu.length+1]?=some (.arr [aI 0,aS ⟨#[]⟩,aI 0,.lst true [],aI 0])
 but:But xb mu M
theorem M0.of{ts es tb xb n s s'}(g:mu[xb]?=some (.arr (cIn ts tb s)))(i:mu[tb]?=some (.mp (eSet es))) :
  M0 ts es tb mu xb n s' ((mu++[Cell.arr (cNd n),Cell.arr [aI 0,aS ⟨#[]⟩,aI 0,.lst true [],aI 0]]).set xb (.arr (cIn ts tb s'))):=by
 have j:xb<mu.length:=(qj.1 g).1;have l:tb<mu.length:=(qj.1 i).1;have o:tb≠xb:=fun e=>by grind
 refine⟨zSp,qL zSo,?_,?_,?_,(But.app xb mu _).trans (cB xb _ _)⟩
 .grind
 .grind
 grind
theorem qoX(ts es tb env n body s mu xb)(J:StOk (qq ts es) s)(P:zw env)(R:mu[xb]?=some (.arr (cIn ts tb s)))(T:mu[tb]?=some (.mp (eSet es)))(t:n.op=1) :
  qC qb 73 [.ptr xb 0,eEnv env,eNd n,aB body] mu (endE ts tb mu xb (if s.sM+1<=4000 then vY env n (payS 1 s) else .error (2,0))):=by
 have U:=J.c0;have a0:=J.c1;refine qSW call73 func73 rfl { mt:=[6] } ?_;have a1:xb<mu.length:=(qj.1 R).1;simp[go_sem];refine fQ (payU ts tb s 1 ⟨zOm,zOm⟩ ⟨zOm,zOm⟩ (by grind)) ?_ ?_
 .rintro r m ⟨rfl,e⟩
  by_cases C:s.sM+1<=4000
  .rw [if_pos C]at e⊢
   cases e;have l:=M0.of (s':=payS 1 s) (n:=n) R T;generalize a2:(mu++[Cell.arr (cNd n),.arr [aI 0,aS ⟨#[]⟩,aI 0,.lst true [],aI 0]]).set xb (.arr (cIn ts tb (payS 1 s)))=M at *
   simp[go_sem,l.n,t];have g:=ql7 ts tb (payS 1 s) ⟨by show _<=s.sM+1;omega,by show s.sM+1<=_;omega⟩ env P.nd (fun e hm=>zW1 (P.sz e hm)) n l.x;generalize vY env n (payS 1 s)=Q at *
   have a3:=l.len;cases Q with
   |error d =>
    refine fQ g (by rintro r m ⟨e,_⟩;cases e) ?_;rintro r m ⟨e,i,j⟩;cases e;simp[go_sem];exact⟨rfl,l.but.trans ⟨j,i⟩⟩
   |ok q =>
    obtain⟨⟨n',k'⟩,s'⟩:=q;refine fQ g ?_ (by rintro r m ⟨e,_⟩;cases e);rintro r m ⟨e,a4,i,j⟩;cases e;have I:m[mu.length+1]?=some (.arr [aI 0,aS ⟨#[]⟩,aI 0,.lst true [],aI 0]):=by grind
    have o:mu.length+1<m.length:=zOm;have p:∀ c,(m.set (mu.length+1) c)[mu.length+1]?=some c:=fun c=>qL o
    simp[go_sem,I,p];exact⟨rfl,by grind,(l.but.trans ⟨j,i⟩).setN zOm _⟩
  grind
 .rintro r m ⟨rfl,e⟩
  by_cases C:s.sM+1<=4000
  .grind
  .rw [if_neg C]at e⊢
   cases e;simp[go_sem];exact⟨rfl,(But.app xb mu _).trans (cB xb _ _)⟩
theorem qcB{cs}(j:mu[b]?=some (.arr cs))(h:∀ c,c∈cs->HF c):Rd mu (.ptr b 0) (.ip cs):=
 .ptr b 0 cs cs j zSp fun k x y g i=>by
  rw[yd]at g;rw[g]at i;cases i;exact .hf _ (h _ (qZ g))
abbrev AP:=Nat×Int×Nd
abbrev eAP(a:AP):AV := .agg [.ptr a.1 0,aI a.2.1,aS ⟨#[]⟩]
abbrev ivA(a:AP):IV:=⟨some a.2.2,a.2.1,⟨#[]⟩⟩
abbrev ownA(acc:List (tM×AP)):IEnv:=acc.map fun e=>(e.1,ivA e.2)
theorem KZ{i I j}[DecidableEq i](g:I->j)(k v):∀ es:List (i×I),(setK k v es).map (fun e=>(e.1,g e.2))=setK k (g v) (es.map fun e=>(e.1,g e.2))
 | []=>rfl
 |e :: es=>by
  simp only[setK,List.map_cons];split
  .rfl
  .rw [List.map_cons,KZ g k v es]
theorem updAP{es}(i:mu[b]?=some (.mp (encK aS eAP es)))(nm v) :
  jQ qb mu 141 (.mp b) (aS nm) (eAP v)=some (mu.set b (.mp (encK aS eAP (setK nm v es)))):=
 keyS.update (et:=207) (t:=141) zSi (mu:=mu) (b:=b) (venc:=eAP) (es:=es) i (k:=nm) (v:=v) trivial (fun _ _=>trivial)
theorem qcC{acc}(o:mu[b]?=some (.mp (encK aS eAP acc)))(r:(acc.map Prod.fst).Nodup)(p:∀ e,e∈acc->mu[e.2.1]?=some (.arr (cNd e.2.2.2))):Rd mu (.mp b) (eEnv (ownA acc)):=by
 have j:((ownA acc).map Prod.fst).Nodup:=by
  grind
 have get:∀(k:Nat)(x y:AV×AV),(encK aS eAP acc)[k]?=some x->(encK aS eIV (ownA acc))[k]?=some y->∃ e,e∈acc/\x=(aS e.1,eAP e.2)/\y=(aS e.1,eIV (ivA e.2)):=fun k x y g i=>by
  grind
 refine .ims _ _ _ id id (PIx.refl _) (KU j) (.mp b _ _ o zSp (fun k x y g i=>?_) (fun k x y g i=>?_))
 .obtain ⟨e,l,rfl,rfl⟩:=get k x y g i
  exact .zsc _
 .obtain ⟨e,l,rfl,rfl⟩:=get k x y g i
  refine .agg _ _ rfl fun k x y g i=>?_
  match k with
  | 0 =>
   simp at g i;subst g;subst i;exact qcB (p e l) (vG _)
  | 1=>simp at g i;subst g;subst i;exact .zsc _
  | 2=>simp at g i;subst g;subst i;exact .zsc _
  |k+3=>simp at g
theorem qoY{ps:List Pd}{g p}(h:ps.find? g=some p):∃ i,∃ j:i<ps.length,ps[i]=p/\idxI ps g=i:=by
 grind [List.find?_eq_some_iff_getElem,XF]
theorem qoZ(ts)(h:okTS ts)(hb:∀ p,p∈ts.sT->WfN p.body/\yO ts p.body)(es)(hF:qq ts es<=200000)(b0:Free ts es)(tb f)(ih:IHE ts es tb f)(env n body)(s:ISt)(mu xb)
  (hc:4000<s.sM+(f+1:Nat)) (hs:StOk (qq ts es) s) (he:zw env) (hw:WfN n) (aj:yO ts n) (hx:mu[xb]?=some (.arr (cIn ts tb s))) (ht:mu[tb]?=some (.mp (eSet es))) (ab:n.op=47) :
  qC qb 73 [.ptr xb 0,eEnv env,eNd n,aB body] mu (endE ts tb mu xb (expI ts es (f+1) env n body s)):=by
 have bq:=hs.c0;have br:=hs.c1;generalize J:expI ts es (f+1) env n body s=R;simp only[expI,ab]at J;obtain⟨p,hp,b1⟩:=aj n (uq n) ab;rw[hp]at J;refine qSW call73 func73 rfl { mt:=[6] } ?_;have bs:xb<mu.length:=(qj.1 hx).1;have b2:tb<mu.length:=(qj.1 ht).1;simp[go_sem];refine fQ (payU ts tb s 1 ⟨zOm,zOm⟩ ⟨zOm,zOm⟩ (by grind)) ?_ ?_
 .rintro r m ⟨rfl,e⟩
  by_cases T:s.sM+1<=4000
  .rw [if_pos T]at e J
   cases e;have hM:=M0.of (s':=payS 1 s) (n:=n) hx ht;generalize bt:(mu++[Cell.arr (cNd n),.arr [aI 0,aS ⟨#[]⟩,aI 0,.lst true [],aI 0]]).set xb (.arr (cIn ts tb (payS 1 s)))=M at *
   have bu:=hM.len;simp[go_sem,hM.n,ab];refine qi.fz (FzQ.one (b:=mu.length) (d:=6) (x := .ip (cNd n)) ?_ ?_)
   .simp [go_sem]
    grind [qcB,v7,vG]
   have ak:(cutM (fun j=>!(j == mu.length)) M 0)[xb]?=some (.arr (cIn ts tb (payS 1 s))):=by grind [v7]
   have bn:(cutM (fun j=>!(j == mu.length)) M 0)[tb]?=some (.mp (eSet es)):=by grind [v7]
   have bo:(cutM (fun j=>!(j == mu.length)) M 0)[mu.length+1]?=some (.arr [aI 0,aS ⟨#[]⟩,aI 0,.lst true [],aI 0]):=by grind [v7]
   have al:But xb mu (cutM (fun j=>!(j == mu.length)) M 0):=hM.but.cut fun i hi=>zSo
   have a8:(cutM (fun j=>!(j == mu.length)) M 0).length=mu.length+2:=by grind [jO]
   simp only[qB];generalize cutM (fun j=>!(j == mu.length)) M 0=M1 at *
   refine cL zKr ?_;simp[go_sem,ak];obtain⟨i,hi,b3,an⟩:=qoY hp;have b4:JS qb (.fn (.func 120) [] [.ip (cNd n)]) ts.sT (fun x => .agg (cPd x)) (fun p=>decide (p.name=n.name)):=⟨_,_,_,rfl,fun p hp=>⟨_,qoW p n,.zk (HF.agg (Uq p)) (.zk (J7 n) .nil)⟩⟩;refine tK (XG false ts.sT _ (fun p=>decide (p.name=n.name)) b4 (zW1 h.np)) (.zk (Zj _) (.zk (HF.fn zSp (fun x hx=>by grind [J7])) .nil)) ?_;rw[an];have b5:p∈ts.sT:=List.mem_of_find?_eq_some hp;obtain⟨b6,b7⟩:=hb p b5;have ao:=hw.len;have a5:=Zk p;simp[go_sem,hi,b3,a5];have aq:StOk (qq ts es) (payS 1 s):=(Qr hs zOm T).ok hs;have J:v8 (ju (fun k s=>expI ts es f env k body s) p.params n.sD [] (payS 1 s)) (fun own s'=>expI ts es f own p.body true s')=R:=zUs J;generalize hQ:ju (fun k s=>expI ts es f env k body s) p.params n.sD [] (payS 1 s)=Q at *
   refine aK n.sD.length (fun k U=>∃(o:List (tM×AP)) (P:ISt),U.tm 0 = .ptr xb 0/\U.tm 1=eEnv env/\U.tm 3=aB body/\U.tm 8 = .ptr (mu.length+1) 0/\U.tm 10 = .ptr (mu.length+2) 0/\U.tm 11 = .mp (mu.length+3)/\U.tm 52=lNd n.sD/\U.tm 53=aI n.sD.length/\U.tm 54=aI k /\
    But xb mu U.mu/\mu.length+3<U.mu.length/\U.mu[xb]?=some (.arr (cIn ts tb P))/\U.mu[mu.length+1]?=some (.arr [aI 0,aS ⟨#[]⟩,aI 0,.lst true [],aI 0])/\U.mu[mu.length+2]?=some (.arr (cPd p))/\U.mu[mu.length+3]?=some (.mp (encK aS eAP o)) /\
    (∀ e,e∈o->mu.length+3<e.2.1/\e.2.1<U.mu.length/\U.mu[e.2.1]?=some (.arr (cNd e.2.2.2)))/\zw (ownA o)/\(o.map Prod.fst).Nodup/\StOk (qq ts es) P/\s.sM+1<=P.sM/\ju (fun k s=>expI ts es f env k body s) (p.params.drop k) (n.sD.drop k) (ownA o) P=Q) ?_ ?_
   .refine ⟨[],payS 1 s,zSi,zSi,zSi,zSi,by simp[go_sem,a8],by simp[go_sem,a8],zSi,zSi,zSi,?_,?_,?_,?_,?_,?_,zSp,.nil,zSp,aq,by show _<=s.sM+1;omega,zUs hQ⟩
    all_goals simp only[qB]
    .exact al.trans (But.app xb M1 _)
    .simp;omega
    .grind
    .grind
    .grind
    grind
   .rintro k U hk ⟨o,P,e0,e1,e3,e8,ad,ae,ar,af,ag,C,hl,gx,gr,gp,gm,au,a9,ah,a6,b8,hI⟩
    have b9:U.mu[tb]?=some (.mp (eSet es)):=by rw[C.same tb b2 (fun e=>by grind)];exact ht
    by_cases ao:k=n.sD.length
    .subst ao
     simp[go_sem,e0,ad,ae,af,ag,gp];rw[zW,List.drop_of_length_le zOm]at hI;have hI:Q = .ok (ownA o,P):=hI.symm;rw[hI]at J;have J:expI ts es f (ownA o) p.body true P=R:=J;have av:∀ i,i<mu.length+3->(cutM (fun i=>!decide (mu.length+3<=i)) U.mu 0)[i]?=U.mu[i]?:=fun i hi=>v7 zSo
     have g:=ih (ownA o) p.body true P (cutM (fun i=>!decide (mu.length+3<=i)) U.mu 0) xb zOm a6 a9 b6 b7 (by grind) (by grind);rw[J]at g;have g:=qC.freeze (mu:=U.mu) (args:=[.ptr xb 0,.mp (mu.length+3),eNd p.body,aB true]) (args1:=[.ptr xb 0,eEnv (ownA o),eNd p.body,aB true]) (fun i=>decide (mu.length+3<=i)) ⟨.inl rfl,.inr (qcC (by grind [v7]) ah (fun e he=>by
      grind [v7])),.inl rfl,.inl rfl,trivial⟩ g
     cases R with
     |error d =>
      refine fQ g (by rintro r m ⟨e,_⟩;cases e) ?_;rintro r m ⟨e,t⟩;cases e;simp[go_sem];exact⟨rfl,(C.cut fun i hi=>zSo).trans t⟩
     |ok q =>
      obtain⟨⟨n',k'⟩,s'⟩:=q;refine fQ g ?_ (by rintro r m ⟨e,_⟩;cases e);rintro r m ⟨e,aw,t⟩;cases e;have ai:=t.len;rw[jO]at ai;have ax:mu.length+1<m.length:=zOm;have bc:m[mu.length+1]?=some (.arr [aI 0,aS ⟨#[]⟩,aI 0,.lst true [],aI 0]):=by rw[t.same _ (by rw[jO];omega) zOm,av _ zOm];exact gr
      have ay:∀ c,(m.set (mu.length+1) c)[mu.length+1]?=some c:=fun c=>qL ax
      simp[go_sem,e8,bc,ay];refine⟨rfl,by grind,?_⟩;exact((C.cut fun i hi=>zSo).trans t).setN zOm _
    .have a7:k<n.sD.length:=by omega
     have w1:=zWk k;have aa:k<p.params.length:=zOm;rw[zp a7,zp aa]at hI;simp only[ju]at hI;simp[go_sem,e0,e1,e3,ar,af,ag,a7];have a0:∀ i,i<U.mu.length->(U.mu++[Cell.arr (cNd n.sD[k])])[i]?=U.mu[i]?:=fun i hi=>qM hi
     have az:n.sD[k]∈n.sD:=qp a7;have g:=ih env n.sD[k] body P (U.mu++[Cell.arr (cNd n.sD[k])]) xb zOm a6 he (hw.kid az) (aj.kid az) (by grind) (by rw[a0 _ zOm];exact b9);have be:∀{n' z s'},expI ts es f env n.sD[k] body P = .ok ((n',z),s')->Gos (qq ts es) P s' z:=fun e=>jV ts b0 f a6 he e
     generalize hE:expI ts es f env n.sD[k] body P=E at *
     cases E with
     |error d =>
      have hI:Q = .error d:=hI.symm;rw[hI]at J;have J:R = .error d:=J.symm;subst J;refine fQ g (by rintro r m ⟨e,_⟩;cases e) ?_;rintro r m ⟨e,t⟩;cases e;simp[go_sem];exact⟨rfl,C.trans ((But.app xb U.mu _).trans t)⟩
     |ok q =>
      obtain⟨⟨n',k'⟩,s'⟩:=q;have hg:=be rfl;simp only at hI;refine fQ g ?_ (by rintro r m ⟨e,_⟩;cases e);rintro r m ⟨e,aw,t⟩;cases e;have ai:=t.len;simp only[q8,zz,List.length_nil]at ai;have I:∀ i,i<U.mu.length->i≠xb->m[i]?=U.mu[i]?:=fun i hi bg=>by rw[t.same i zSo bg,a0 i hi]
      have bh:∀ l,(m++l)[mu.length+2]?=some (.arr (cPd p)):=fun l=>by rw[zGa,I _ zOm zOm];exact gp
      have bi:∀ l,(m++l)[mu.length+3]?=some (.mp (encK aS eAP o)):=fun l=>by grind
      have hu:=fun l=>updAP (bi l) p.params[k].1 (m.length,k',n')
      simp[go_sem,ad,ae,bh,aa];refine tT _ (hu _) ?_;generalize hN:(m++[Cell.arr (cNd n')]).set (mu.length+3) (.mp (encK aS eAP (setK p.params[k].1 (m.length,k',n') o)))=N;have bv:N.length=m.length+1:=by rw[<-hN];simp
      have a4:∀ i,i<m.length->i≠mu.length+3->N[i]?=m[i]?:=fun i h1 h2=>by rw[<-hN,zGl,qM h1]
      have bj:N[mu.length+3]?=some (.mp (encK aS eAP (setK p.params[k].1 (m.length,k',n') o))):=by rw[<-hN,qL zSo]
      have bk:N[m.length]?=some (.arr (cNd n')):=by rw[<-hN,zGl,zG (qr _)];simp
      simp[go_sem,ag,w1];refine⟨a7,aA ?_⟩;have bm:k'<=4000:=zW2 hg.cz hg.c1;refine⟨setK p.params[k].1 (m.length,k',n') o,s',zS1 e0,zS1 e1,zS1 e3,zS1 e8,zS1 ad,zS1 ae,zS1 ar,zS1 af,zSi,?_,?_,?_,?_,?_,?_,?_,?_,wh ah,hg.ok a6,zW2 hg.cz hg.z0,?_⟩
      all_goals try simp only[qB]
      .refine ⟨zW1 C.len,fun i h1 h2=>?_⟩
       rw[a4 i zOm zOm,I i zOm h2];exact C.same i h1 h2
      .omega
      .rw [a4 _ zOm zOm];exact aw
      .rw [a4 _ zOm zOm,I _ zOm zOm];exact gr
      .rw [a4 _ zOm zOm,I _ zOm zOm];exact gp
      .exact bj
      .intro e he
       rcases (Zt ah).1 he with rfl|⟨he,_⟩
       .exact ⟨by show _<m.length;omega,by show m.length<_;omega,bk⟩
       .obtain ⟨a1,a2,a3⟩:=au e he
        exact⟨a1,zOm,by rw[a4 _ zOm zOm,I _ zOm zOm];exact a3⟩
      .unfold ownA
       rw[KZ (fun a:AP=>ivA a)];exact a9.set ⟨hg.z0,bm⟩
      .unfold ownA
       rw[KZ (fun a:AP=>ivA a)];exact hI
  grind
 .rintro r m ⟨rfl,e⟩
  by_cases T:s.sM+1<=4000
  .rw [if_pos T]at e;cases e
  .rw [if_neg T]at e J
   cases e;subst J;simp[go_sem];exact⟨rfl,(But.app xb mu _).trans (cB xb _ _)⟩
theorem qcD(op):decide (op=15\/op=45\/op=46)=binB op:=by
 grind [binB]
theorem Zv{lo sz mu' av xs}(h:OwnF lo mu sz av xs)(l:lo<=mu'.length)(o:∀ i,lo<=i->i<mu.length->mu'[i]?=mu[i]?):OwnF lo mu' sz av xs:=by
 obtain⟨p,g,_⟩:=h;refine⟨?_,g,l⟩;rcases p with rfl|⟨b,rfl,j⟩
 .exact .inl rfl
 .exact .inr ⟨b,rfl,by rw[o b (g b _ _ _ rfl) (qj.1 j).1];exact j⟩
theorem U0(l:List Nd):zl 5 (l.map cNd):=fun r g=>by
 obtain⟨n,_,rfl⟩:=qm.1 g
 grind [Yp,Yq]
theorem U1{lo s xs k K}(j:OwnF lo mu 5 s (xs.map cNd))(l:xs.length<=100000)(o:∀ av mu',OwnF lo mu' 5 av ((xs++[k]).map cNd)->(∀ i,i<lo->mu'[i]?=mu[i]?)->K av mu') :
  qy qb mu #[33,33] s (.lst true [cNd k]) K:=by
 refine qy.ownF (lo:=lo) (e:=35) (sz:=5) (bt:=64) (zv := .agg [aI 0,aS ⟨#[]⟩,aI 0,.lst true [],aI 0]) (xs:=xs.map cNd) (ys:=[cNd k]) zSi zSi zSi rfl rfl zOm zOm j (by simp[qD]) (U0 xs) (U0 [k]) zSo ?_
 grind
theorem qo0(ts)(h:okTS ts)(es)(hF:qq ts es<=200000)(ax:Free ts es)(tb f)(ih:IHE ts es tb f)(env n body)(s:ISt)(mu xb)
  (hc:4000<s.sM+(f+1:Nat)) (hs:StOk (qq ts es) s) (he:zw env) (hw:WfN n) (bo:yO ts n) (hx:mu[xb]?=some (.arr (cIn ts tb s))) (ht:mu[tb]?=some (.mp (eSet es))) (h1:¬n.op=1) (h47:¬n.op=47) :
  qC qb 73 [.ptr xb 0,eEnv env,eNd n,aB body] mu (endE ts tb mu xb (expI ts es (f+1) env n body s)):=by
 have cx:=hs.c0;have cy:=hs.c1;have da:xb<mu.length:=(qj.1 hx).1;have cj:tb<mu.length:=(qj.1 ht).1;have bt:tb≠xb:=fun e=>by grind
 generalize hR:expI ts es (f+1) env n body s=R;simp only[expI,h1,h47,if_false]at hR;refine fH ?_;refine qSW call73 func73 rfl { mt:=[6] } ?_;simp[go_sem];refine fQ (payU ts tb s 1 ⟨zOm,zOm⟩ ⟨zOm,zOm⟩ (by grind)) ?_ ?_
 .rintro r m ⟨rfl,e⟩
  by_cases a8:s.sM+1<=4000
  .rw [if_pos a8]at e hR
   cases e;have hM:=M0.of (s':=payS 1 s) (n:=n) hx ht;generalize db:(mu++[Cell.arr (cNd n),.arr [aI 0,aS ⟨#[]⟩,aI 0,.lst true [],aI 0]]).set xb (.arr (cIn ts tb (payS 1 s)))=M at *
   have dc:=hM.len;have bu:=hw.len;have ay:StOk (qq ts es) (payS 1 s):=(Qr hs zOm a8).ok hs;have bv:∀ c,(M.set mu.length c)[mu.length]?=some c:=fun c=>qL zOm
   have ck:=yC n;simp[go_sem,hM.n,h1,h47,ck];refine aK n.sD.length (fun k U=>∃(J:List Nd) (j:IEnv) (I:tM) (s2:ISt) (t:AV) (z:Int),U.tm 0 = .ptr xb 0/\U.tm 1=eEnv j/\U.tm 3=aB body/\U.tm 6 = .ptr mu.length 0/\U.tm 8 = .ptr (mu.length+1) 0/\U.tm 17=aI z/\U.tm 87=lNd n.sD/\U.tm 88=aI n.sD.length/\U.tm 89=aI k /\
    But xb mu U.mu/\U.mu[xb]?=some (.arr (cIn ts tb s2))/\U.mu[mu.length+1]?=some (.arr [aI 0,aS ⟨#[]⟩,aI 0,.lst true [],aI 0])/\U.mu[mu.length]?=some (.arr [aI n.op,aS I,aI n.n,t,aI n.pos])/\OwnF (mu.length+2) U.mu 5 t (J.map cNd)/\zw j/\J.length=k /\
    0<=s2.last/\0<=s2.sM/\s2.sM<=4000/\dueN (qq ts es) (binB n.op) k<=pot (qq ts es) s2/\s.sM+1<=s2.sM/\1<=z/\z<=s2.sM-s.sM /\
    v8 (yN (fun env k s=>expI ts es f env k body s) (fun env o s=>renI ts es env o body s) (binB n.op) k j I (n.sD.drop k) s2) (fun r s' => .ok ((.mk n.op r.1 n.n (J++r.2.1) n.pos,z+r.2.2),s'))=R) ?_ ?_
   .refine ⟨[],env,n.name,payS 1 s,.lst true [],1,zSi,zSi,zSi,zSi,zSi,zSi,zSi,zSi,zSi,?_,?_,?_,?_,?_,he,rfl,ay.l0,ay.c0,ay.c1,?_,by show _<=s.sM+1;omega,zOm,by show _<=s.sM+1-_;omega,zUs hR⟩
    all_goals try simp only[qB]
    .exact hM.but.setN (qr _) _
    .grind
    .grind
    .exact bv _
    .grind [OwnF.nil]
    .rw [Z3];have:=hs.p;grind [dueN]
   .rintro k U hk ⟨J,j,I,s2,t,z,e0,e1,e3,e6,e8,be,aq,ah,ai,a9,gx,gr,gn,go,bg,dd,ar,bh,bi,bk,aj,de,bq,hI⟩
    have gt:U.mu[tb]?=some (.mp (eSet es)):=by rw[a9.same tb cj bt];exact ht
    have cw:mu.length+2<=U.mu.length:=go.2.2;by_cases bu:k=n.sD.length
    .subst bu
     have bw:=go.cells;have bm:=go.one;have br:∀ c,(U.mu.set (mu.length+1) c)[mu.length+1]?=some c:=fun c=>qL zOm
     rw[zW]at hI;have hI:R = .ok ((.mk n.op I n.n J n.pos,z),s2):=by grind [yN,v8]
     simp[go_sem,e6,e8,be,ah,ai,gn,gr,bm,br];rw[hI];have bs:(U.mu.set (mu.length+1) (.arr [aI n.op,aS I,aI n.n,t,aI n.pos])).length=U.mu.length:=zSp;refine .inr ⟨fun i=>decide (mu.length+2<=i),.tup [eNd (.mk n.op I n.n J n.pos),aI z],.rd _ _ (.tup _ _ rfl fun k x y hx hy=>?_),rfl,?_,?_⟩
     .match k with
      | 0 =>
       simp at hx hy;subst hx;subst hy;have cl:eNd (.mk n.op I n.n J n.pos) = .agg [aI n.op,aS I,aI n.n,.lst false (J.map cNd),aI n.pos]:=by
        show AV.agg (cNd _)=_;rw[yC];rfl
       rw[cl];refine .agg _ _ rfl fun k x y hx hy=>?_
       match k with
       | 0=>simp at hx hy;subst hx;subst hy;exact .zsc _
       | 1=>simp at hx hy;subst hx;subst hy;exact .zsc _
       | 2=>simp at hx hy;subst hx;subst hy;exact .zsc _
       | 3 =>
        simp at hx hy;subst hx;subst hy;exact Kq (go.set zOm) (U0 J).ok fun r hr c hc=>by
         obtain⟨x,_,rfl⟩:=qm.1 hr;exact vG x c hc
       | 4=>simp at hx hy;subst hx;subst hy;exact .zsc _
       |k+5=>simp at hx
      | 1=>simp at hx hy;subst hx;subst hy;exact .zsc _
      |k+2=>simp at hx
     .rw [v7 zSo,zGl];exact gx
     .exact (a9.setN zOm _).cut fun i hi=>zSo
    .have a5:k<n.sD.length:=by omega
     have w1:=zWk k;have w2:qo.wrap 2=2:=rfl;rw[zp a5]at hI;simp only[yN]at hI;have g:∀(l:List Cell)(i:Nat),i<U.mu.length->(U.mu++l)[i]?=U.mu[i]?:=fun l i hi=>qM hi
     have au:∀ l,(U.mu++l)[mu.length]?=some (.arr [aI n.op,aS I,aI n.n,t,aI n.pos]):=fun l=>by rw[g l _ zOm];exact gn
     have bw:=go.cells;have bm:=go.one;by_cases hb:binB n.op=true/\k=1
     .obtain ⟨az,rfl⟩:=hb
      rw[if_pos ⟨az,rfl⟩]at hI;have b0:(1:Int)<n.sD.length:=zOm;simp[go_sem,b0,e6,aq,ah,ai,a5,au];have b1:=YX.qaF n.op;rw[qcD,az]at b1;refine tK b1 (.zs .nil) ?_;have cm:=StOk.last (F:=qq ts es) ⟨ar,bh,bi,zW1 (Z4 (qq ts es) (binB n.op) 1)⟩;have ca:=qoP ts h s2 es ⟨ar,zOm⟩ tb (ax _ ar) j bg.nd I body (mu:=U.mu++[Cell.arr (cNd n.sD[1])]) (xb:=xb) (by rw[g _ _ zOm];exact gx) (by rw[g _ _ zOm];exact gt);have ak:=Vj (env:=j) (nm:=I) (body:=body) ax ar;have cb:=Vi (ts:=ts) (es:=es) (nm:=I) (body:=body) (s:=s2) bg;generalize renI ts es j I body s2=r at *
      obtain⟨⟨a6,aw⟩,s3⟩:=r;simp only at ak cb hI;simp[go_sem,e0,e1,e3,e6,au];refine fQ ca ?_ (by rintro r m ⟨e,_⟩;cases e);rintro r m1 ⟨e,a7,cn⟩;cases e;have cc:=a7.len;simp only[q8,zz,List.length_nil]at cc;have cp:m1[mu.length]?=some (.arr [aI n.op,aS I,aI n.n,t,aI n.pos]):=by rw[a7.same _ zSo zOm];exact au _
      have cq:m1[mu.length+1]?=some (.arr [aI 0,aS ⟨#[]⟩,aI 0,.lst true [],aI 0]):=by rw[a7.same _ zSo zOm,g _ _ zOm];exact gr
      have cr:m1[U.mu.length]?=some (.arr (cNd n.sD[1])):=by rw[a7.same _ zSp zOm,zG (qr _)];simp
      have cs:m1[tb]?=some (.mp (eSet es)):=by rw[a7.same _ zSo bt,g _ _ zOm];exact gt
      have ct:OwnF (mu.length+2) m1 5 t (J.map cNd):=Zv go zOm fun i q1 q2=>by rw[a7.same i zSo zOm,g _ _ q2]
      have an:∀ c i,i≠mu.length->(m1.set mu.length c)[i]?=m1[i]?:=fun c i hi=>yA (fun e=>hi e.symm)
      have cu:∀ c,(m1.set mu.length c)[U.mu.length]?=some (.arr (cNd n.sD[1])):=fun c=>by rw[an _ _ zOm];exact cr
      simp[go_sem,e0,e3,e6,cp,cu];generalize al:m1.set mu.length (.arr [aI n.op,aS aw,aI n.n,t,aI n.pos])=M2;have bn:U.mu.length+1<=M2.length:=by rw[<-al];simp;omega
      have b2:M2[xb]?=some (.arr (cIn ts tb s3)):=by rw[<-al,an _ _ zOm];exact cn
      have b3:M2[tb]?=some (.mp (eSet es)):=by rw[<-al,an _ _ zOm];exact cs
      have b4:M2[mu.length]?=some (.arr [aI n.op,aS aw,aI n.n,t,aI n.pos]):=by rw[<-al];exact qL zOm
      have b5:M2[mu.length+1]?=some (.arr [aI 0,aS ⟨#[]⟩,aI 0,.lst true [],aI 0]):=by rw[<-al,an _ _ zOm];exact cq
      have a4:OwnF (mu.length+2) M2 5 t (J.map cNd):=by rw[<-al];exact ct.set zOm
      have aa:But xb mu M2:=by
       rw[<-al];exact(a9.trans ((But.app xb U.mu _).trans a7)).setN (qr _) _
      have df:dueN (qq ts es) (binB n.op) 1=(qq ts es:Nat):=if_pos ⟨az,zOm⟩;have dh:dueN (qq ts es) (binB n.op) (1+1)=0:=zIn;have di:pot (qq ts es) s2-(qq ts es:Nat)<=pot (qq ts es) s3:=by unfold pot;rw[ak.2.2];omega
      have a3:StOk (qq ts es) s3:=⟨ak.1,by rw[ak.2.2];exact bh,by rw[ak.2.2];exact bi,zOm⟩;have b6:dueN (qq ts es) (binB n.op) (1+1)<=pot (qq ts es) s3:=zOm;have ao:s.sM+1<=s3.sM:=by rw[ak.2.2];exact aj
      have cd:z<=s3.sM-s.sM:=by rw[ak.2.2];exact bq
      have T:zw a6:=cb;have bj:True:=trivial;have ab:n.sD[1]∈n.sD:=qp a5;have a0:=ih a6 n.sD[1] body s3 M2 xb zOm a3 T (hw.kid ab) (bo.kid ab) b2 b3;have b7:∀{n' z s'},expI ts es f a6 n.sD[1] body s3 = .ok ((n',z),s')->Gos (qq ts es) s3 s' z:=fun e=>jV ts ax f a3 T e
      generalize hE:expI ts es f a6 n.sD[1] body s3=E at *
      cases E with
      |error d =>
       have hI:R = .error d:=hI.symm;subst hI;refine fQ a0 (by rintro r m ⟨e,_⟩;cases e) ?_;rintro r m ⟨e,C⟩;cases e;simp[go_sem];exact⟨rfl,aa.trans C⟩
      |ok q =>
       obtain⟨⟨n',k'⟩,s'⟩:=q;have P:=b7 rfl;simp only at hI;refine fQ a0 ?_ (by rintro r m ⟨e,_⟩;cases e);rintro r m ⟨e,b8,C⟩;cases e;have bs:=C.len;have ad:∀ l,(m++l)[mu.length]?=some (.arr [aI n.op,aS aw,aI n.n,t,aI n.pos]):=fun l=>by rw[zGa,C.same _ zOm zOm];exact b4
       have a8:=a4.cells;have cf:=a4.one;have b9:qo.wrap (z+k')=z+k':=zT (zW1 P.z0) (zW2 P.cz P.c1);have bb:OwnF (mu.length+2) (m++[Cell.arr (cNd n')]) 5 t (J.map cNd):=Zv a4 zSo fun i h1 h2=>by rw[zGa,C.same i zOm zOm]
       simp[go_sem,e6,ad];refine U1 bb zOm fun bc m' a1 a2=>?_
       have cg:=a1.2.2;have ae:m'[mu.length]?=some (.arr [aI n.op,aS aw,aI n.n,t,aI n.pos]):=by rw[a2 _ zOm];exact ad _
       have af:=a1.cells;have ag:=a1.one;simp[go_sem,e6,be,ai,ae,af,ag,b9,w2];refine⟨a5,aA ?_⟩;refine⟨J++[n'],a6,aw,s',bc,z+k',zS1 e0,zSi,zS1 e3,zS1 e6,zS1 e8,zSi,zS1 aq,zS1 ah,zSi,?_,?_,?_,?_,?_,T,zSo,P.l0,zW2 P.cz P.z0,P.c1,Int.le_trans b6 P.p,zW2 P.cz P.z0,zW1 P.z0,zW1 P.cz,?_⟩
       all_goals try simp only[qB]
       .refine ⟨zSo,fun i h1 h2=>?_⟩
        rw[zGl,a2 i zOm,zGa,C.same i zOm h2];exact aa.same i h1 h2
       .rw [zGl,a2 _ zOm,zGa];exact b8
       .rw [zGl,a2 _ zOm,zGa,C.same _ zOm zOm];exact b5
       .exact qL zOm
       .exact a1.set zOm
       .rw [<-hI]
        generalize yN (fun env k s=>expI ts es f env k body s) (fun env o s=>renI ts es env o body s) (binB n.op) (1+1) a6 aw (n.sD.drop (1+1)) s'=W;cases W with
        |error e=>rfl
        |ok q=>simp[v8,Int.add_assoc]
     .rw [if_neg hb]at hI
      by_cases cv:k=1
      .subst cv
       have a7:binB n.op=false:=zUs hb;have b0:(1:Int)<n.sD.length:=zOm;simp[go_sem,b0,e6,aq,ah,ai,a5,au];have b1:=YX.qaF n.op;rw[qcD,a7]at b1;refine tK b1 (.zs .nil) ?_;simp[go_sem,e0,e1,e3];have bn:U.mu.length+1<=(U.mu++[Cell.arr (cNd n.sD[1])]).length:=zSp;have b2:(U.mu++[Cell.arr (cNd n.sD[1])])[xb]?=some (.arr (cIn ts tb s2)):=by rw[g _ _ zOm];exact gx
       have b3:(U.mu++[Cell.arr (cNd n.sD[1])])[tb]?=some (.mp (eSet es)):=by rw[g _ _ zOm];exact gt
       have b4:=au [Cell.arr (cNd n.sD[1])];have b5:(U.mu++[Cell.arr (cNd n.sD[1])])[mu.length+1]?=some (.arr [aI 0,aS ⟨#[]⟩,aI 0,.lst true [],aI 0]):=by rw[g _ _ zOm];exact gr
       have a4:OwnF (mu.length+2) (U.mu++[Cell.arr (cNd n.sD[1])]) 5 t (J.map cNd):=Zv go zOm fun i q1 q2=>g _ _ q2
       have aa:But xb mu (U.mu++[Cell.arr (cNd n.sD[1])]):=a9.trans (But.app xb U.mu _);have a3:StOk (qq ts es) s2:=⟨ar,bh,bi,zW1 (Z4 (qq ts es) (binB n.op) 1)⟩;have b6:dueN (qq ts es) (binB n.op) (1+1)<=pot (qq ts es) s2:=by rw[<-UZ hb];exact bk
       have ao:=aj;have cd:=bq;have T:=bg;have bj:=e1;generalize U.mu++[Cell.arr (cNd n.sD[1])]=M2 at *
       have ab:n.sD[1]∈n.sD:=qp a5;have a0:=ih j n.sD[1] body s2 M2 xb zOm a3 T (hw.kid ab) (bo.kid ab) b2 b3;have b7:∀{n' z s'},expI ts es f j n.sD[1] body s2 = .ok ((n',z),s')->Gos (qq ts es) s2 s' z:=fun e=>jV ts ax f a3 T e
       generalize hE:expI ts es f j n.sD[1] body s2=E at *
       cases E with
       |error d =>
        have hI:R = .error d:=hI.symm;subst hI;refine fQ a0 (by rintro r m ⟨e,_⟩;cases e) ?_;rintro r m ⟨e,C⟩;cases e;simp[go_sem];exact⟨rfl,aa.trans C⟩
       |ok q =>
        obtain⟨⟨n',k'⟩,s'⟩:=q;have P:=b7 rfl;simp only at hI;refine fQ a0 ?_ (by rintro r m ⟨e,_⟩;cases e);rintro r m ⟨e,b8,C⟩;cases e;have bs:=C.len;have ad:∀ l,(m++l)[mu.length]?=some (.arr [aI n.op,aS I,aI n.n,t,aI n.pos]):=fun l=>by rw[zGa,C.same _ zOm zOm];exact b4
        have a8:=a4.cells;have cf:=a4.one;have b9:qo.wrap (z+k')=z+k':=zT (zW1 P.z0) (zW2 P.cz P.c1);have bb:OwnF (mu.length+2) (m++[Cell.arr (cNd n')]) 5 t (J.map cNd):=Zv a4 zSo fun i h1 h2=>by rw[zGa,C.same i zOm zOm]
        simp[go_sem,e6,ad];refine U1 bb zOm fun bc m' a1 a2=>?_
        have cg:=a1.2.2;have ae:m'[mu.length]?=some (.arr [aI n.op,aS I,aI n.n,t,aI n.pos]):=by rw[a2 _ zOm];exact ad _
        have af:=a1.cells;have ag:=a1.one;simp[go_sem,e6,be,ai,ae,af,ag,b9,w2];refine⟨a5,aA ?_⟩;refine⟨J++[n'],j,I,s',bc,z+k',zS1 e0,zS1 bj,zS1 e3,zS1 e6,zS1 e8,zSi,zS1 aq,zS1 ah,zSi,?_,?_,?_,?_,?_,T,zSo,P.l0,zW2 P.cz P.z0,P.c1,Int.le_trans b6 P.p,zW2 P.cz P.z0,zW1 P.z0,zW1 P.cz,?_⟩
        all_goals try simp only[qB]
        .refine ⟨zSo,fun i h1 h2=>?_⟩
         rw[zGl,a2 i zOm,zGa,C.same i zOm h2];exact aa.same i h1 h2
        .rw [zGl,a2 _ zOm,zGa];exact b8
        .rw [zGl,a2 _ zOm,zGa,C.same _ zOm zOm];exact b5
        .exact qL zOm
        .exact a1.set zOm
        .rw [<-hI]
         generalize yN (fun env k s=>expI ts es f env k body s) (fun env o s=>renI ts es env o body s) (binB n.op) (1+1) j I (n.sD.drop (1+1)) s'=W;cases W with
         |error e=>rfl
         |ok q=>simp[v8,Int.add_assoc]
      .have ch:¬(k:Int)=1:=by omega
       simp[go_sem,e0,e1,e3,aq,ah,ai,a5,ch];have bn:U.mu.length+1<=(U.mu++[Cell.arr (cNd n.sD[k])]).length:=zSp;have b2:(U.mu++[Cell.arr (cNd n.sD[k])])[xb]?=some (.arr (cIn ts tb s2)):=by rw[g _ _ zOm];exact gx
       have b3:(U.mu++[Cell.arr (cNd n.sD[k])])[tb]?=some (.mp (eSet es)):=by rw[g _ _ zOm];exact gt
       have b4:=au [Cell.arr (cNd n.sD[k])];have b5:(U.mu++[Cell.arr (cNd n.sD[k])])[mu.length+1]?=some (.arr [aI 0,aS ⟨#[]⟩,aI 0,.lst true [],aI 0]):=by rw[g _ _ zOm];exact gr
       have a4:OwnF (mu.length+2) (U.mu++[Cell.arr (cNd n.sD[k])]) 5 t (J.map cNd):=Zv go zOm fun i q1 q2=>g _ _ q2
       have aa:But xb mu (U.mu++[Cell.arr (cNd n.sD[k])]):=a9.trans (But.app xb U.mu _);have a3:StOk (qq ts es) s2:=⟨ar,bh,bi,zW1 (Z4 (qq ts es) (binB n.op) k)⟩;have b6:dueN (qq ts es) (binB n.op) (k+1)<=pot (qq ts es) s2:=by rw[<-UZ hb];exact bk
       have ao:=aj;have cd:=bq;have T:=bg;have bj:=e1;generalize U.mu++[Cell.arr (cNd n.sD[k])]=M2 at *
       have ab:n.sD[k]∈n.sD:=qp a5;have a0:=ih j n.sD[k] body s2 M2 xb zOm a3 T (hw.kid ab) (bo.kid ab) b2 b3;have b7:∀{n' z s'},expI ts es f j n.sD[k] body s2 = .ok ((n',z),s')->Gos (qq ts es) s2 s' z:=fun e=>jV ts ax f a3 T e
       generalize hE:expI ts es f j n.sD[k] body s2=E at *
       cases E with
       |error d =>
        have hI:R = .error d:=hI.symm;subst hI;refine fQ a0 (by rintro r m ⟨e,_⟩;cases e) ?_;rintro r m ⟨e,C⟩;cases e;simp[go_sem];exact⟨rfl,aa.trans C⟩
       |ok q =>
        obtain⟨⟨n',k'⟩,s'⟩:=q;have P:=b7 rfl;simp only at hI;refine fQ a0 ?_ (by rintro r m ⟨e,_⟩;cases e);rintro r m ⟨e,b8,C⟩;cases e;have bs:=C.len;have ad:∀ l,(m++l)[mu.length]?=some (.arr [aI n.op,aS I,aI n.n,t,aI n.pos]):=fun l=>by rw[zGa,C.same _ zOm zOm];exact b4
        have a8:=a4.cells;have cf:=a4.one;have b9:qo.wrap (z+k')=z+k':=zT (zW1 P.z0) (zW2 P.cz P.c1);have bb:OwnF (mu.length+2) (m++[Cell.arr (cNd n')]) 5 t (J.map cNd):=Zv a4 zSo fun i h1 h2=>by rw[zGa,C.same i zOm zOm]
        simp[go_sem,e6,ad];refine U1 bb zOm fun bc m' a1 a2=>?_
        have cg:=a1.2.2;have ae:m'[mu.length]?=some (.arr [aI n.op,aS I,aI n.n,t,aI n.pos]):=by rw[a2 _ zOm];exact ad _
        have af:=a1.cells;have ag:=a1.one;simp[go_sem,e6,be,ai,ae,af,ag,b9,w1];refine⟨a5,aA ?_⟩;refine⟨J++[n'],j,I,s',bc,z+k',zS1 e0,zS1 bj,zS1 e3,zS1 e6,zS1 e8,zSi,zS1 aq,zS1 ah,zSi,?_,?_,?_,?_,?_,T,zSo,P.l0,zW2 P.cz P.z0,P.c1,Int.le_trans b6 P.p,zW2 P.cz P.z0,zW1 P.z0,zW1 P.cz,?_⟩
        all_goals try simp only[qB]
        .refine ⟨zSo,fun i h1 h2=>?_⟩
         rw[zGl,a2 i zOm,zGa,C.same i zOm h2];exact aa.same i h1 h2
        .rw [zGl,a2 _ zOm,zGa];exact b8
        .rw [zGl,a2 _ zOm,zGa,C.same _ zOm zOm];exact b5
        .exact qL zOm
        .exact a1.set zOm
        .rw [<-hI]
         generalize yN (fun env k s=>expI ts es f env k body s) (fun env o s=>renI ts es env o body s) (binB n.op) (k+1) j I (n.sD.drop (k+1)) s'=W;cases W with
         |error e=>rfl
         |ok q=>simp[v8,Int.add_assoc]
  grind
 .rintro r m ⟨rfl,e⟩
  by_cases a8:s.sM+1<=4000
  .rw [if_pos a8]at e;cases e
  .rw [if_neg a8]at e hR
   cases e;subst hR;simp[go_sem];exact⟨rfl,(But.app xb mu _).trans (cB xb _ _)⟩
theorem K0(ts)(h:okTS ts)(C:∀ p,p∈ts.sT->WfN p.body/\yO ts p.body)(es)(l:qq ts es<=200000)(g:Free ts es)(tb):∀ f,IHE ts es tb f
 | 0=>fun env n body s mu xb I j o J i r t=>zW1 j.c1
 |f+1=>fun env n body s mu xb I j o J i r t=>by
  by_cases P:n.op=1
  .have:=qoX ts es tb env n body s mu xb j o r t P
   simp_all[expI,vY,payS,if_true]
  .by_cases h47:n.op=47
   .exact qoZ ts h C es l g tb f (K0 ts h C es l g tb f) env n body s mu xb I j o J i r t h47
   .exact qo0 ts h es l g tb f (K0 ts h C es l g tb f) env n body s mu xb I j o J i r t P h47
end
end YD
namespace YE
open P1 P2 Y1 Y9 YX YZ YB YC YD
mutual
def cntT:Nd->Int
 | .mk _ _ _ ks _=>1+jj ks
def jj:List Nd->Int
 | []=>0
 |k :: ks=>cntT k+jj ks
end
theorem K1(n):cntT n=1+jj n.sD:=by
 obtain⟨op,o,i,ks,p⟩:=n;simp[cntT,Nd.sD]
mutual
theorem K2:∀ n:Nd,1<=cntT n
 | .mk _ _ _ ks _=>by simp only[cntT];have:=U2 ks;omega
theorem U2:∀ ks:List Nd,0<=jj ks
 | []=>by simp[jj]
 |k :: ks=>by simp only[jj];have:=K2 k;have:=U2 ks;omega
end
mutual
theorem K3:∀ n:Nd,depN n<=cntT n
 | .mk _ _ _ ks _=>by simp only[cntT,depN];have:=qcE ks;omega
theorem qcE:∀ ks:List Nd,yw ks<=jj ks
 | []=>by simp[yw,jj]
 |k :: ks=>by
  simp only[jj,yw];have:=K3 k;have:=qcE ks;have:=K2 k;have:=U2 ks;omega
end
section
variable {I:Type}{R:IEnv->tM->ISt->(IEnv×tM)×ISt}{es:List (tM×Bool)}{E:Nd->ISt->XR (Nd×Int)}
def uU(env:IEnv):Prop:=∀ e,e∈env->∀ a,e.2.arg=some a->e.2.size=cntT a/\Small a
theorem K4{g}[DecidableEq g]{k v}:∀{es:List (g×I)},getK k es=some v->(k,v)∈es
 | [],h=>by simp[getK]at h
 |e :: es,h=>by
  unfold getK at h;split at h
  .rename_i i;cases h;subst i;exact zj ..
  .exact za _ (K4 h)
theorem U3{g}[DecidableEq g]{k v}:∀{es}{x:g×I},x∈setK k v es->x=(k,v)\/x∈es
 | [],x,h=>by grind [setK]
 |e :: es,x,h=>by
  unfold setK at h;split at h
  .rcases qw.1 h with h|h
   .exact .inl h
   .exact .inr (za _ h)
  .rcases qw.1 h with h|h
   .exact .inr (by rw[h];exact zj ..)
   .exact (U3 h).imp id (za _)
theorem qo1{ts env nm body s}(h:uU env):uU (renI ts es env nm body s).1.1:=by
 have i:uU (delK nm env):=fun e g=>h e (Xv.subset g)
 unfold renI;split
 .intro e g a j
  rcases U3 g with rfl|g
  .cases j
  .exact i e g a j
 .exact i
theorem qcF:∀{ks ps own g s s'},(∀ k n' z s s',k∈ks->E k s = .ok ((n',z),s')->z=cntT n'/\Small n')->uU own->ju E ps ks own s = .ok (g,s')->uU g
 | [],ps,own,g,s,s',_,i,e=>by
  have e:Except.ok (own,s)=(Except.ok (g,s'):XR IEnv):=by cases ps<;>exact e
  cases e;exact i
 |k :: ks,[],own,g,s,s',_,i,e=>by cases e;exact i
 |k :: ks,p :: ps,own,g,s,s',l,i,e=>by
  simp only[ju]at e;split at e
  .cases e
  .rename_i t m s1 C
   refine qcF (fun k n' z s s' o=>l k n' z s s' (za _ o)) (fun e j a r=>?_) e;rcases U3 j with rfl|j
   .grind
   .exact i e j a r
theorem qcG{E bin}(C:∀ env nm s,uU env->uU (R env nm s).1.1) :
  ∀{ks i env nm l s s' j m},(∀ env k n' z s s',k∈ks->uU env->E env k s = .ok ((n',z),s')->z=cntT n'/\Small n')->uU env ->
  yN E R bin i env nm ks s = .ok ((l,j,m),s')->m=jj j/\j.length=ks.length/\∀ k,k∈j->Small k
 | [],i,env,nm,l,s,s',j,m,_,_,e=>by
  cases e;exact⟨rfl,rfl,fun k p=>absurd p qH⟩
 |k :: ks,i,env,nm,l,s,s',j,m,I,J,e=>by
  simp only[yN]at e;obtain⟨r,P⟩:∃ r,r=if bin=true/\i=1 then R env nm s else ((env,nm),s):=⟨_,rfl⟩
  rw[<-P]at e;have o:uU r.1.1:=by
   rw[P];split
   .exact C _ _ _ J
   .exact J
  split at e
  .cases e
  .rename_i T U s1 h1
   have g:=I r.1.1 k T U r.2 s1 (zj ..) o h1;split at e
   .cases e
   .rename_i a0 a1 m2 s2 h2
    obtain⟨q1,q2,q3⟩:=qcG C (fun env k n' z s s' p=>I env k n' z s s' (za _ p)) o h2;cases e;refine⟨by simp only[jj];rw[g.1,q1],zP1 q2,fun x t=>?_⟩;rcases qw.1 t with rfl|t
    .exact g.2
    .exact q3 x t
theorem Jd(ts)(r:∀ p,p∈ts.sT->WfN p.body)(es):∀(f){env n n' body s s' z},uU env->WfN n->expI ts es f env n body s = .ok ((n',z),s')->z=cntT n'/\Small n'
 | 0,_,_,_,_,_,_,_,_,_,e=>by cases e
 |f+1,env,n,n',body,s,s',z,j,l,e=>by
  simp only[expI]at e;split at e
  .split at e
   .rename_i P
    have g:n.sD=[]:=by
     have hs:=l.shape;simp_all[shp,if_pos,qu,List.map_eq_nil_iff]
    unfold vY at e;split at e
    .cases e
     exact⟨by rw[K1,g];rfl,l.small⟩
    .rename_i v t
     split at e
     .cases e
      refine⟨by rw[K1];show 1=1+jj n.sD;rw[g];rfl,.mk _ (by show n.sD.length<=1000;rw[g];simp) fun k i=>?_⟩;have i:k∈n.sD:=i
      grind
     .rename_i a R
      split at e
      .cases e
       exact j _ (K4 t) _ R
      .cases e
   .split at e
    .split at e
     .cases e
     .rename_i p T
      obtain⟨own,s1,C,e⟩:=Jc e;have U:=qcF (fun k n' z s s' i I=>Jd ts r es f j (l.kid i) I) (fun e j=>absurd j qH) C;exact Jd ts r es f U (r p (List.mem_of_find?_eq_some T)) e
    .obtain ⟨⟨a0,J,m⟩,s1,C,e⟩:=Jc e
     cases e;obtain⟨q1,q2,q3⟩:=qcG (fun env o s h=>qo1 h) (fun env k n' z s s' i t I=>Jd ts r es f t (l.kid i) I) j C;refine⟨by rw[K1];show 1+m=_;rw[q1];rfl,.mk _ ?_ q3⟩;show J.length<=1000;have:=l.len;omega
  .cases e
theorem qcH:∀{ks ps own s d},(∀ k s d,E k s = .error d->d=(2,0))->ju E ps ks own s = .error d->d=(2,0)
 | [],ps,own,s,d,_,e=>by
  have e:Except.ok (own,s)=(Except.error d:XR IEnv):=by cases ps<;>exact e
  cases e
 |k :: ks,[],own,s,d,_,e=>by cases e
 |k :: ks,p :: ps,own,s,d,g,e=>by
  simp only[ju]at e;split at e
  .rename_i j i
   cases e;exact g _ _ _ i
  .exact qcH g e
theorem qcI{E:IEnv->Nd->ISt->XR (Nd×Int)}{bin}:∀{ks i env nm s d},(∀ env k s d,E env k s = .error d->d=(2,0))->yN E R bin i env nm ks s = .error d->d=(2,0)
 | [],i,env,nm,s,d,_,e=>by cases e
 |k :: ks,i,env,nm,s,d,g,e=>by
  simp only[yN]at e;split at e
  .rename_i j l
   cases e;exact g _ _ _ _ l
  .split at e
   .rename_i j o
    cases e;exact qcI g o
   .cases e
theorem qcJ{i q}{g:I->ISt->XR i}{d}(h:v8 q g = .error d):q = .error d\/∃ a s,q = .ok (a,s)/\g a s = .error d:=by
 unfold v8 at h;split at h
 .grind
 .exact .inr ⟨_,_,rfl,h⟩
theorem Vk(ts es):∀(f){env n body s d},expI ts es f env n body s = .error d->d=(2,0)
 | 0,_,_,_,_,_,e=>by cases e;rfl
 |f+1,env,n,body,s,d,e=>by
  simp only[expI]at e;split at e
  .split at e
   .unfold vY at e
    split at e
    .cases e
    .split at e
     .cases e
     .split at e
      .cases e
      .cases e;rfl
   .split at e
    .split at e
     .cases e;rfl
     .rcases qcJ e with e|⟨own,g,i,e⟩
      .exact qcH (fun k s d h=>Vk ts es f h) e
      .exact Vk ts es f e
    .rcases qcJ e with e|⟨own,g,i,e⟩
     .exact qcI (fun env k s d h=>Vk ts es f h) e
     .cases e
  .cases e;rfl
def outI(ts:TS)(es:List (tM×Bool))(n:Nd):Except Dg Nd:=
 match expI ts es 4001 [] n false ⟨0,0⟩ with
 | .error d => .error d
 | .ok ((g,z),_)=>if z<=400/\depN g<=24 then .ok g else .error (2,n.pos)
theorem qcK{ts n d}(h:outI ts es n = .error d):d.1=2:=by
 grind [outI,Vk]
theorem qo2(ts)(h:okTS ts)(hb:∀ p,p∈ts.sT->WfN p.body/\yO ts p.body)(es)(hF:qq ts es<=200000)(R:Free ts es)(n)(hw:WfN n)(a4:yO ts n){mu xp ob xb tb}
  (h1:mu[xp]?=some (.arr [.ptr xb 0])) (T:mu[xb]?=some (.arr (cIn ts tb ⟨0,0⟩))) (ht:mu[tb]?=some (.mp (eSet es))) (U:mu[ob]?=some (.arr [aI 0,aS ⟨#[]⟩,aI 0,.lst true [],aI 0])) :
  qC qb 72 [.ptr xp 0,.ip (cNd n),.ptr ob 0] mu fun e m=>match outI ts es n with
   | .error d=>e = .pan (jT d.1 d.2)/\mu.length<=m.length/\∀ i,i<mu.length->i≠xb->i≠ob->m[i]?=mu[i]?
   | .ok n'=>e = .ret (.tup [])/\m[ob]?=some (.arr (cNd n'))/\mu.length<=m.length/\∀ i,i<mu.length->i≠xb->i≠ob->m[i]?=mu[i]?:=by
 refine qSW call72 func72 rfl {} ?_;have ab:xp<mu.length:=(qj.1 h1).1;have ad:xb<mu.length:=(qj.1 T).1;have ae:tb<mu.length:=(qj.1 ht).1;have a5:ob<mu.length:=(qj.1 U).1;have a0:ob≠xb:=fun e=>by grind
 simp[go_sem,h1];have j:∀ i,i<mu.length->(cutM (fun i=>!decide (mu.length<=i)) (mu++[Cell.mp []]) 0)[i]?=mu[i]?:=fun i hi=>by grind [v7,qM]
 have a1:StOk (qq ts es) ⟨0,0⟩:=⟨zSp,zSp,zSp,by simp[pot]⟩;have g:=K0 ts h hb es hF R tb 4001 [] n false ⟨0,0⟩ (cutM (fun i=>!decide (mu.length<=i)) (mu++[Cell.mp []]) 0) xb zSp a1 .nil hw a4 (by grind) (by grind);have g:=qC.freeze (mu:=mu++[Cell.mp []]) (args:=[.ptr xb 0,.mp mu.length,eNd n,aB false]) (args1:=[.ptr xb 0,eEnv [],eNd n,aB false]) (fun i=>decide (mu.length<=i)) ⟨.inl rfl,.inr (qcC (acc:=[]) (by grind [v7]) zSp (fun e he=>absurd he qH)),.inl rfl,.inl rfl,trivial⟩ g;have a7:=fun {n' z P}=>Jd ts (fun p hp=>(hb p hp).1) es 4001 (env:=[]) (n:=n) (n':=n') (body:=false) (s:=⟨0,0⟩) (s':=P) (z:=z) (fun e he=>absurd he qH) hw
 have a8:=fun {n' z P}=>jV ts R 4001 (env:=[]) (n:=n) (n':=n') (body:=false) (s':=P) (z:=z) a1 .nil
 unfold outI;generalize expI ts es 4001 [] n false ⟨0,0⟩=E at *
 cases E with
 |error d =>
  refine fQ g (by rintro r m ⟨e,_⟩;cases e) ?_;rintro r m ⟨e,l⟩;cases e;have o:=l.len;rw[jO]at o;simp only[q8,zz,List.length_nil]at o;simp[go_sem];exact⟨zOm,fun i hi T U=>by rw[l.same i (by grind) T,j i hi]⟩
 |ok q =>
  obtain⟨⟨n',z⟩,P⟩:=q;obtain⟨hz,a9⟩:=a7 rfl;have hg:=a8 rfl;have ag:z<=4000:=by have:=hg.cz;have:=hg.c1;grind
  have ah:=K3 n';refine fQ g ?_ (by rintro r m ⟨e,_⟩;cases e);rintro r m ⟨e,ai,l⟩;cases e;have o:=l.len;rw[jO]at o;simp only[q8,zz,List.length_nil]at o;have aa:m[ob]?=some (.arr [aI 0,aS ⟨#[]⟩,aI 0,.lst true [],aI 0]):=by rw[l.same _ (by grind) a0,j _ a5];exact U
  have t:∀ c,(m.set ob c)[ob]?=some c:=fun c=>qL zOm
  simp[go_sem,aa];have C:∀ c,mu.length<=(m.set ob c).length/\∀ i,i<mu.length->i≠xb->i≠ob->(m.set ob c)[i]?=mu[i]?:=fun c=>⟨zSo,fun i hi T U=>by
   rw[yA (fun e=>U e.symm),l.same i (by grind) T,j i hi]⟩
  have wz:∀ b c,WKs [aB b,aI c,eNd n] [aB b,aI c,eNd n]:=fun b c => .zs (.zs (.zk (qK n) .nil))
  by_cases J:z<=400
  .have I:=qbZ (szN n') n' (qr _) a9 zOm
   by_cases a3:depN n'<=24
   .refine cL zKr ?_
    simp[go_sem,J,t];refine tK I (.zk (qK n') .nil) ?_;simp[go_sem,a3];refine tK (zM true 2 n).toP (wz true 2) ?_;simp[go_sem,t]
    grind
   .refine qi.tail 8 zKr ?_
    simp[go_sem,J,t];refine tK I (.zk (qK n') .nil) ?_;simp[go_sem,a3];refine fZ (zM false 2 n) (wz false 2) ?_;simp[go_sem];simpa using C _
  .refine qi.tail 8 zKr ?_
   simp[go_sem,J];refine fZ (zM false 2 n) (wz false 2) ?_;simp[go_sem];simpa using C _
end
end YE
namespace YG
open YS P1 Y1 Y9 YX YZ YA YB YC YE Q6
def valD(l:List UInt8):Nat:=l.foldl (fun a b=>10*a+(b.toNat-48)) 0
theorem qo3(u):valD (Lib.decDigits u)=u:=by
 induction u using Nat.strongRecOn with
 |_ u g =>
  rw[Lib.decDigits];split
  .rename_i h
   simp only[valD,List.foldl_cons,List.foldl_nil];rw[UInt8.toNat_ofNat_of_lt' (by simp[UInt8.size];omega)];omega
  .rename_i h
   have:=g (u / 10) zOm;unfold valD at this⊢;rw[vL,this];simp only[List.foldl_cons,List.foldl_nil];rw[UInt8.toNat_ofNat_of_lt' (by simp[UInt8.size];omega)];omega
theorem qo4{a b:Nat}(h:jx (a:Int)=jx (b:Int)):a=b:=by
 have g:Lib.decDigits a=Lib.decDigits b:=by
  unfold jx Lib.itoa at h;rw[zIn,zIn]at h;simp only[Int.toNat_natCast]at h;have h:=congrArg (fun x:tM=>x.data.toList) h;simpa using h
 grind [qo3]
theorem qo5{p a b:tM}(h:p++a=p++b):a=b:=by
 simp_all
theorem qcL{a b:Nat}(h:vN (a:Int)=vN (b:Int)):a=b:=qo4 (qo5 h)
def badL(ts:TS)(es:List (tM×Bool)):List tM:=es.map Prod.fst++(ts.sA.map (fun f=>f.name)++ts.sS.flatMap fun s=>[s.1,s.1++jb,s.1++j9])
theorem qo6(ts es):(badL ts es).length+1=qq ts es:=by
 have:∀ l:List (tM×Bool),(l.flatMap fun s=>[s.1,s.1++jb,s.1++j9]).length=3*l.length:=by
  intro l;induction l with
  |nil=>rfl
  |cons a l g=>grind
 grind [badL,qq,q8,zA]
theorem qo7{ts es nm}(h:yG ts es nm=false):nm∈badL ts es:=by
 unfold yG at h;unfold badL;rw[Bool.and_eq_false_iff]at h;rcases h with h|h
 .have h:getK nm es=some true:=by simpa using h
  exact jk _ (qm.2 ⟨_,K4 h,rfl⟩)
 .refine List.mem_append_right _ ?_
  have h:means ts nm≠[]:=zUs h;unfold means at h;by_cases hf:yK ts.sA nm=[]
  .rw [hf,vE]at h
   refine List.mem_append_right _ ?_;have:∀(g:List (tM×Bool))(i:Nat),yL i g nm≠[]->nm∈g.flatMap fun s=>[s.1,s.1++jb,s.1++j9]:=by
    intro g;induction g with
    |nil=>intro i h;exact absurd rfl h
    |cons s g t =>
     intro i h;rw[List.flatMap_cons,qJ];by_cases j:uf i s nm=[]
     .refine .inr (t (i+1) ?_)
      simpa[yL,j] using h
     .left
      unfold uf at j;by_cases l:s.1=nm
      .simp [l]
      by_cases o:s.2=true/\s.1++jb=nm
      .simp [o.2]
      by_cases p:s.2=true/\s.1++j9=nm
      .simp [p.2]
      exact absurd (by simp[l,o,p]) j
   exact this ts.sS 0 h
  .refine jk _ ?_
   obtain⟨k,r⟩:=List.exists_mem_of_ne_nil _ hf;unfold yK at r;obtain⟨f,hf,e⟩:=List.mem_filterMap.1 r;split at e
   .rename_i C
    exact qm.2 ⟨f,hf,C⟩
   .cases e
theorem K5(ts es):Free ts es:=by
 intro l J;by_cases g:∃ j:Nat,1<=j/\j<=qq ts es/\yG ts es (vN (l+j))=true
 .exact g
 exfalso;obtain⟨L,rfl⟩:∃ L:Nat,l=L:=⟨l.toNat,zOm⟩;have o:∀ x,x∈(qt (qq ts es)).map (fun i=>vN ((L+(i+1):Nat):Int))->x∈badL ts es:=fun x t=>by
  obtain⟨i,C,rfl⟩:=qm.1 t;rw[z7]at C;refine qo7 ?_;cases I:yG ts es (vN ((L+(i+1):Nat):Int)) with
  |false=>rfl
  |true=>exact absurd ⟨i+1,zOm,zOm,by rw[show (L:Int)+((i+1:Nat):Int)=((L+(i+1):Nat):Int) by omega];exact I⟩ g
 have p:((qt (qq ts es)).map (fun i=>vN ((L+(i+1):Nat):Int))).Nodup:=by
  refine List.pairwise_map.2 (List.nodup_range.imp fun r e=>r ?_);have:=qcL e;omega
 have:=jN p o;rw[zA,List.length_range]at this;have:=qo6 ts es;omega
def putN(es:List (tM×Bool))(l:List Nd):List (tM×Bool):=l.foldl (fun es n=>setK n.name true es) es
def yT(ts:TS)(n:Nd):List (tM×Bool):=ts.sT.foldl (fun T p=>putN T (preN p.body)) (putN [] (preN n))
def yn(ts:TS)(n:Nd):Nd×Int:=
 if (yj ts [] n).1≠0 then (nd0,(yj ts [] n).1)
 else if anyN (fun n=>decide (n.op=47)) n=false then (n,0)
 else match outI ts (yT ts n) n with
  | .error d=>(nd0,d.1)
  | .ok g=>(g,0)
theorem U4(p):∀ m n,szN n<=m->anyN p n=(preN n).any p
 | 0,n,g=>by obtain⟨op,nm,i,ks,q⟩:=n;simp[szN]at g
 |m+1,n,g=>by
  rw[UP,wE,List.any_cons];congr 1;have:∀ l:List Nd,(∀ k,k∈l->k∈n.sD)->um p l=(zx l).any p:=by
   intro l;induction l with
   |nil=>intro _;rfl
   |cons k l o =>
    intro j;simp only[um,zx,List.any_append];rw[o fun x r=>j x (za _ r),U4 p m k (zW1 (yr (j k (zj ..))))]
  exact this n.sD fun k t=>t
end YG
namespace YH
open YF P1 P2 Y1 Y6 Y9 Y14 YX YZ YB YC YE YG Q6
section
variable {b:Bool}{es:List (tM×Bool)}{mu:Mu}{ts:TS}
structure InM (ts:TS) (es:List (tM×Bool)) (b:Bool) (mu:Mu):Prop where
 r:mu[0]?=some (.arr [aI 0,aS ⟨#[]⟩,aI 0,.lst true [],aI 0])
 t:mu[2]?=some (.mp (eSet es))
 x:mu[3]?=some (.arr (cIn ts 2 ⟨0,0⟩))
 p:mu[4]?=some (.arr [.ptr 3 0])
 c:mu[5]?=some (.arr [aB b])
theorem InM.len(h:InM ts es b mu):5<mu.length:=(qj.1 h.c).1
theorem InM.push(h:InM ts es b mu)(l):InM ts es b (mu++l):=by
 have g:=h.len;exact⟨by rw[zGa];exact h.r,by rw[zGa];exact h.t,by rw[zGa];exact h.x,by rw[zGa];exact h.p,by rw[zGa];exact h.c⟩
theorem InM.setT{g}(h:InM ts es b mu):InM ts g b (mu.set 2 (.mp (eSet g))):=by
 have i:=h.len;exact⟨by rw[zGl];exact h.r,qL zOm,by rw[zGl];exact h.x,by rw[zGl];exact h.p,by rw[zGl];exact h.c⟩
theorem InM.setC{b'}(h:InM ts es b mu):InM ts es b' (mu.set 5 (.arr [aB b'])):=by
 have g:=h.len;exact⟨by rw[zGl];exact h.r,by rw[zGl];exact h.t,by rw[zGl];exact h.x,by rw[zGl];exact h.p,qL zOm⟩
theorem qo8(mu):Rd mu eN0 (eNd nd0) := .agg _ _ rfl fun k x y g i=>by
 match k with
 | 0=>simp[nd0,cNd]at g i;subst g;subst i;exact .zsc _
 | 1=>simp[nd0,cNd]at g i;subst g;subst i;exact .zsc _
 | 2=>simp[nd0,cNd]at g i;subst g;subst i;exact .zsc _
 | 3=>simp[nd0,cNd,cNds]at g i;subst g;subst i;exact .wk _ true [] (.hf _ (HF.lst fun r j=>absurd j qH))
 | 4=>simp[nd0,cNd]at g i;subst g;subst i;exact .zsc _
 |k+5=>simp at g
theorem Je(mu d):Rd mu (.tup [eN0,aI d]) (.tup [eNd nd0,aI d]) := .tup _ _ rfl fun k x y g i=>by
 match k with
 | 0=>grind [qo8]
 | 1=>simp at g i;subst g;subst i;exact .zsc _
 |k+2=>simp at g
theorem qo9(ts)(h:okTS ts)(hb:∀ p,p∈ts.sT->WfN p.body/\yO ts p.body)(n)(hw:WfN n)(ai:(yj ts [] n).1=0->yO ts n)(hF:qq ts (yT ts n)<=200000):qh qb 34 [eTS ts,eNd n] (.tup [eNd (yn ts n).1,aI (yn ts n).2]):=by
 generalize j:yn ts n=R;unfold yn at j;refine qSQ call34 func34 rfl { mt:=[25] } ?_;simp[go_sem];have a6:∀ p,p∈ts.sT->WfN p.body:=fun p hp=>(hb p hp).1
 refine fR (ql3 ts h a6 n hw [] ⟨zSp,zSp⟩) (.zk (zm ts) (.cons (WK.lst fun r hr=>absurd hr qH) (.zk (qK n) .nil))) ?_;by_cases o:(yj ts [] n).1=0
 case neg =>
  rw[if_pos o]at j;subst j;simp[go_sem,o];refine fD [0,1,2,4,3] [(0,0,[]),(1,0,[]),(2,0,[]),(4,0,[]),(3,1,[2])] zKr zKr zSi ?_;simp_all[go_sem,Je]
 case pos =>
  rw[if_neg (zUs o)]at j;simp[go_sem,o];have aj:∀(v:List Nd)(k:Nd)(C:Mu),InM ts (putN [] v) (v.any fun n=>decide (n.op=47)) C->qC qb 69 (eNd k :: [.ptr 4 0,.ptr 5 0]) C fun e m=>e = .ret (.tup [])/\InM ts (putN [] (v++[k])) ((v++[k]).any fun n=>decide (n.op=47)) m:=fun v k C g=>by
   refine(qoI ts ⟨0,0⟩ 2 _ _ k g.p g.x g.c g.t).monoR ?_;rintro e m ⟨rfl,rfl⟩;refine⟨rfl,?_⟩;rw[List.any_append];simp only[putN,vL,List.foldl_cons,List.foldl_nil,List.any_cons,List.any_nil,Bool.or_false];exact g.setT.setC
  refine fQ (KS (caps:=[.ptr 4 0,.ptr 5 0]) (fun v C=>InM ts (putN [] v) (v.any fun n=>decide (n.op=47)) C) (fun v C l h=>h.push l) aj (szN n) n (qr _) hw.small [] _ ⟨rfl,rfl,rfl,rfl,rfl⟩) ?_ (by grind);rintro r m ⟨e,g⟩;cases e;rw[vE,<-U4 _ (szN n) n (qr _)]at g;have au:=g.len;have a8:∀ c,(m.set 0 c)[0]?=some c:=fun c=>qL zOm
  cases I:anyN (fun n=>decide (n.op=47)) n with
  |false =>
   rw[I]at g j;rw[if_pos rfl]at j;subst j;simp[go_sem,g.c,g.r,a8];exact .hf _ (HF.tup fun c o=>by simp at o;rcases o with rfl|rfl;exact qK n;exact HF.sc _)
  |true =>
   rw[I]at g j;rw[if_neg zSp]at j;have av:=h.np;simp[go_sem,g.c];refine aK ts.sT.length (fun k U=>U.tm 3 = .ip (cNd n)/\U.tm 4 = .ptr 0 0/\U.tm 7 = .ptr 4 0/\U.tm 33=lPd ts.sT/\U.tm 34=aI ts.sT.length/\U.tm 35=aI k/\InM ts ((ts.sT.take k).foldl (fun T p=>putN T (preN p.body)) (putN [] (preN n))) true U.mu) ?_ ?_
   .simp [go_sem, *]
   .rintro k U hk ⟨e3,e4,e7,a9,a2,a3,hM⟩
    by_cases ak:k=ts.sT.length
    .subst ak
     simp[go_sem,e3,e7,a2,a3];rw[qO]at hM;have hM:InM ts (yT ts n) true U.mu:=hM;have aw:=hM.len;have a0:InM ts (yT ts n) true (U.mu++[Cell.arr [aI 0,aS ⟨#[]⟩,aI 0,.lst true [],aI 0]]++[.dead]):=(hM.push _).push _;have aa:=qo2 ts h hb (yT ts n) hF (K5 ts _) n hw (ai o) (mu:=U.mu++[Cell.arr [aI 0,aS ⟨#[]⟩,aI 0,.lst true [],aI 0]]++[.dead]) (ob:=U.mu.length) a0.p a0.x a0.t zSp;have al:=j;clear j;generalize hQ:outI ts (yT ts n) n=Q at *
     refine fQ (nv aa ?_) ?_ ?_
     .grind
     .rintro r m ⟨J,c,⟨l,rfl⟩,a4⟩
      have ab:U.mu.length+2<=J.length/\∀ i,i<U.mu.length+2->i≠3->i≠U.mu.length->J[i]?=(U.mu++[Cell.arr [aI 0,aS ⟨#[]⟩,aI 0,.lst true [],aI 0]]++[.dead])[i]?:=by
       grind
      have ad:∀(c:Cell)(l:List Cell),(J.set (U.mu.length+1) c++l)[0]?=some (.arr [aI 0,aS ⟨#[]⟩,aI 0,.lst true [],aI 0]):=fun c l=>by
       rw[qM zSo,zGl,ab.2 0 zOm zOm zOm];exact a0.r
      have P:∀(c c2:Cell)(l:List Cell),((J.set (U.mu.length+1) c++l).set 0 c2)[0]?=some c2:=fun c c2 l=>qL zSo
      have ae:∀(c c':Cell)(l:List Cell),(J.set (U.mu.length+1) c++(l++[c']))[J.length+l.length]?=some c':=fun c c' l=>by
       simp
      have a5:∀(c c' c2:Cell)(l:List Cell),((J.set (U.mu.length+1) c++(l++[c'])).set 0 c2)[J.length+l.length]?=some c':=fun c c' c2 l=>by
       grind
      rcases a4 with ⟨r',j,e⟩|⟨er,p,j,e⟩
      .cases Q with
       |error d=>grind
       |ok n' =>
        cases e;have an:∀(c:Cell)(l:List Cell),(J.set (U.mu.length+1) c++l)[U.mu.length]?=some (.arr (cNd n')):=fun c l=>by
         grind
        simp[go_sem,e4,an,ad,P];subst al;exact .hf _ (HF.tup fun c o=>by simp at o;rcases o with rfl|rfl;exact qK _;exact HF.sc _)
      .cases Q with
       |ok n'=>grind
       |error d =>
        have af:=qcK hQ;have e1:er=d.1:=by grind
        subst e1;cases e;simp[go_sem,af];have n0:=ad c (l++[Cell.arr [aI d.1,aI p]]);have n1:=ae c (Cell.arr [aI d.1,aI p]) l;have n2:=fun c2=>a5 c (Cell.arr [aI d.1,aI p]) c2 l
        have n3:=fun c2=>P c c2 (l++[Cell.arr [aI d.1,aI p]])
        rw[af]at n0 n1 n2 n3;generalize J.set (U.mu.length+1) c++(l++[Cell.arr [aI 2,aI p]])=N at *
        generalize J.length+l.length=b at *
        refine fD [0,1,2,4,3] [(0,0,[]),(1,0,[]),(2,0,[]),(4,0,[]),(3,1,[2])] zKr zKr zSi ?_
        all_goals
         simp[go_sem,e4,n0,n1,n2,n3]
         grind [Je]
     simp
    .have a1:k<ts.sT.length:=by omega
     have w1:=zWk k;have ag:=Zk ts.sT[k];simp[go_sem,e7,a9,a2,a3,a1,ag];have ao:ts.sT[k]∈ts.sT:=qp a1;generalize aq:(ts.sT.take k).foldl (fun T p=>putN T (preN p.body)) (putN [] (preN n))=E0 at *
     have ah:∀(v:List Nd)(x:Nd)(C:Mu),InM ts (putN E0 v) true C->qC qb 70 (eNd x :: [.ptr 4 0]) C fun e m=>e = .ret (.tup [])/\InM ts (putN E0 (v++[x])) true m:=fun v x C g=>by
      refine(qoJ ts ⟨0,0⟩ 2 _ x g.p g.x g.t).monoR ?_;rintro e m ⟨rfl,rfl⟩;refine⟨rfl,?_⟩;simp only[putN,vL,List.foldl_cons,List.foldl_nil];exact g.setT
     refine fQ (KS (caps:=[.ptr 4 0]) (fun v C=>InM ts (putN E0 v) true C) (fun v C l h=>h.push l) ah (szN ts.sT[k].body) ts.sT[k].body (qr _) (a6 _ ao).small [] _ (hM.push _)) ?_ (by rintro r m ⟨e,_⟩;cases e);rintro r m ⟨e,ar⟩;cases e;simp[go_sem,a3,w1];refine⟨a1,aA ?_⟩;refine⟨zS1 e3,zS1 e4,zS1 e7,zS1 a9,zS1 a2,zSi,?_⟩;rw[List.take_add_one,qz a1,vL,aq];simpa[go_sem] using ar
end
end YH
end Go.Proofs.YtipbakanneogpaaGreatDoor
namespace Go.EvW
open Go Go.Ev Go.RowKit Go.ChangeShapes Go.WideShapes
section
variable {H I:Type}{c:I->List AV}{fs:List (qd×Nat)}{cs:List qg}{N:Nat}{P:qc}{t:qd}{w:qf}
def CR(w:qf)(xs:List AV)(cs:List qg):Prop:=
 cs.length=xs.length/\∀(k:Nat) x,xs[k]?=some x->VRel ⟨(·<w.heap.size),[]⟩ w.heap x (cs.getD k zK)
theorem CR.nil(w):CR w [] []:=⟨rfl,zSp⟩
theorem CR.one{x v}(h:VRel ⟨(·<w.heap.size),[]⟩ w.heap x v):CR w [x] [v]:=⟨rfl,fun k y g=>by
 grind⟩
theorem CR.app{xs ys ds}(h:CR w xs cs)(k:CR w ys ds):CR w (xs++ys) (cs++ds):=by
 refine⟨by simp[h.1,k.1],fun i x g=>?_⟩;by_cases j:i<xs.length
 .rw [qM j]at g
  have:=h.2 i x g;rw[zE]at this⊢;rw[qM (by rw[h.1];exact j)];exact this
 .rw [zG zOm]at g
  have:=k.2 _ x g;rw[zE]at this⊢;rw[zG (by rw[h.1];omega),h.1];exact this
def jW(P:qc)(t:qd)(d:DataW H):Prop:=(d.weights P t).all (·<=reachBytes)=true
theorem jW.all{e}:∀{ds:List (DataW H)},(DataW.weightsAll P e ds).all (·<=reachBytes)=true->∀(i:Nat) d,ds[i]?=some d->jW P e d
 | [],_,i,d,g=>by simp at g
 |x :: r,h,i,d,g=>by
  simp only[DataW.weightsAll,List.all_append,qE]at h;cases i with
  |zero=>simp at g;subst g;exact h.1
  |succ i=>exact jW.all h.2 i d (zUs g)
theorem cR:∀{ts}{ds:List (DataW H)},(DataW.weightsEach P ts ds).all (·<=reachBytes)=true->∀(i:Nat) t d,ts[i]?=some t->ds[i]?=some d->jW P t d
 | [],ds,_,i,t,d,g,_=>by simp at g
 |t0 :: ts,[],_,i,t,d,_,j=>by simp at j
 |t0 :: ts,x :: r,h,i,t,d,g,j=>by
  simp only[DataW.weightsEach,List.all_append,qE]at h;cases i with
  |zero=>simp at g j;subst g;subst j;exact h.1
  |succ i=>exact cR h.2 i t d (zUs g) (zUs j)
def ShT(P:qc)(n:Nat)(t:qd){I:Type}(c:I->List AV)(ok:I->Prop):Prop:=
 ∀(H:Type)(g:qd×qg->H)(w:qf)(i:List qg)(x:DataW H×List MemPlace),
  DataW.trod g P w 0 (fun _=>true) true n t i=some x->jW P t x.1->∃ a,ok a/\CR w (c a) i
def ShU(P:qc)(N:Nat)(t:qd){I:Type}(c:I->List AV)(ok:I->Prop):Prop:=∀ n,n<N->ShT P n t c ok
theorem ShU.le{M ok}(h:ShU P N t c ok)(g:M<=N):ShU P M t c ok:=fun n i=>h n zOm
theorem ShU.map{i ok c' g}(h:ShU P N t c ok)(f:I->i)(C:∀ a,c' (f a)=c a)(J:∀ a,ok a->g (f a)):ShU P N t c' g:=by
 intro n l H j w o x p r;obtain⟨a,R,T⟩:=h n l H j w o x p r
 grind
theorem ShU.int{k}(g:P.underlying t=some (.int k))(N):ShU P N t (fun n:Int=>[.sc (.int k n)]) (fun n=>(Lit.int k n).wf=true):=by
 intro n o H j w p x h _;obtain⟨i,rfl,_,l⟩:=DataW.trod_int g h;exact⟨i,l,.one (.sc _ rfl)⟩
theorem ShU.bool(g:P.underlying t=some .bool)(N):ShU P N t (fun b:Bool=>[.sc (.bool b)]) (fun _=>True):=by
 intro n l H j w o x h _;obtain⟨i,rfl,_⟩:=DataW.trod_bool g h;exact⟨i,trivial,.one (.sc _ rfl)⟩
theorem ShU.string(j:P.underlying t=some .string)(N):ShU P N t (fun s:tM=>[.sc (.string s)]) (fun s=>s.size<=140737488351232):=by
 intro n p H l w r x h g;obtain⟨i,rfl,rfl,C⟩:=DataW.trod_string j h;refine⟨i,?_,.one (.sc _ rfl)⟩;unfold jW at g;simp only[DataW.weights,List.all_cons,List.all_nil,Bool.and_true,decide_eq_true_eq]at g;have e:i.data.toList.length=i.size:=Array.length_toList;have o:i.size<=reachBytes:=by rw[<-e];exact g
 exact Nat.le_trans o (ub rfl)
theorem qcM{a n}(h:w.cells? 0 a n=some cs):cs.length=n/\∀ i,i<n->w.cell? (a.add i)=some (cs.getD i zK):=by
 unfold World.cells? at h;rw[if_pos (Nat.zero_le _)]at h;have g:=mapM_some_length h;refine⟨zUs g,fun i j=>?_⟩;have:=mapM_some_get h i i (zP1 j)
 grind
theorem qcN{a v}(h:w.cell? a=some v):∃ arr e g,w.heap[a.block]?=some (.cells arr e g)/\a.spot=none/\arr[a.off]?=some v:=by
 unfold World.cell? at h;split at h
 .simp_all
 .cases h
theorem qpA[Inhabited I]{p:Nat->I->Prop}(n)(h:∀ i,i<n->∃ a,p i a):∃ l:List I,l.length=n/\∀(i) a,l[i]?=some a->p i a:=by
 induction n with
 |zero=>simp
 |succ n g =>
  obtain⟨l,j,o⟩:=g (fun i r=>h i zOm);obtain⟨a,t⟩:=h n zOm;refine⟨l++[a],zP1 j,fun i b C=>?_⟩
  grind
theorem ShU.slice{e}[Inhabited I]{c ok}(ht:P.underlying t=some (.slice e))(he:ShU P N e c ok)(ak:∀ a,ok a->(c a).length=P.cellsOf e)(p:0<P.cellsOf e)(a5:Nat.blt 0 (P.bytesOf e)=true) :
  ShU P (N+1) t (fun l:List I=>[.lst false (l.map c)]) (fun l=>l.length<=140737488351232/\∀ a,a∈l->ok a):=by
 intro n hn H a6 w cs x h hw;rcases DataW.trod_slice ht h with ⟨rfl,_⟩|⟨a,len,cap,g,C,m,rfl,rfl,rfl,_,hl,hc,al,T,_,_⟩
 .exact ⟨[],⟨zSp,zSp⟩,.one (.nil _)⟩
 .have a7:(DataW.weightsAll P e (g.map (·.1))).all (·<=reachBytes)=true:=by
   simp_all[jW,DataW.weights,List.all_cons,List.all_append,qE]
  have an:len<=140737488351232:=by
   unfold jW at hw;simp only[DataW.weights,ht,List.all_cons,List.all_append,qE,decide_eq_true_eq]at hw;have J:=hw.1;have a8:1<=P.bytesOf e:=ub a5;have h2:((g.map (·.1)).length+(C.map (·.1)).length)*1<=((g.map (·.1)).length+(C.map (·.1)).length)*P.bytesOf e:=Nat.mul_le_mul_left _ a8;simp only[zA]at J h2;have h3:reachBytes<=140737488351232:=ub rfl;omega
  have key:∀ i,i<len->∃ b,ok b/\∃ o,w.cells? 0 (a.add (i*P.cellsOf e)) (P.cellsOf e)=some o/\CR w (c b) o:=by
   intro i hi;have J:=T i hi;have U:i<g.length:=zOm;rw[qz U]at J;obtain⟨o,h2,h3⟩:=Option.bind_eq_some_iff.1 J;obtain⟨b,h4,h5⟩:=he m zOm H a6 w o _ h3 (jW.all a7 i _ (by rw[zi,qz U];rfl))
   grind
  obtain⟨l,a9,a0⟩:=qpA len key;refine⟨l,⟨zOm,fun b hb=>?_⟩,.one ?_⟩
  .grind [List.mem_iff_getElem?]
  .have aa:(l.map c).length=len:=by simp[a9]
   rw[<-aa];cases Nat.eq_zero_or_pos len with
   |inl h0 =>
    have:l=[]:=uy zOm;subst this;exact .emp _ a cap zSp
   |inr hp =>
    have ab:0<l.length:=zOm;obtain⟨_,ao,J,_⟩:=a0 0 l[0] (qz ab);obtain⟨ad,R⟩:=qcM J;have ae:=R 0 p;obtain⟨arr,el,fr,hb,hs,_⟩:=qcN ae;have ai:∀ k:Nat,a.spot=none->(a.add k).spot=none/\(a.add k).off=a.off+k:=by
     grind [Addr.add]
    have a1:∀(b:Addr)(j:Nat),(b.add j).block=b.block:=by
     grind [Addr.add]
    have e0:((a.add (0*P.cellsOf e)).add 0).block=a.block/\((a.add (0*P.cellsOf e)).add 0).spot=a.spot:=by
     grind [Addr.add]
    rw[e0.1]at hb;rw[e0.2]at hs;have hz:yJ (P.cellsOf e) (l.map c):=fun r hr=>by
     obtain⟨b,aq,rfl⟩:=qm.1 hr
     grind [List.mem_iff_getElem?]
    have ar:=yI hz;refine .lst false (l.map c) (P.cellsOf e) a cap arr el fr (fun k=>arr.getD (a.off+k) zK) hb hs zOm zSp (Array.getElem?_eq_some_iff.1 hb).1 hz ?_ ?_
    all_goals
     intro k x hk;have au:k<(l.map c).length*P.cellsOf e:=by grind
     have hq:k / P.cellsOf e<l.length:=by
      simp_all[zA,Nat.div_lt_of_lt_mul,Nat.mul_comm]
     have hr:k % P.cellsOf e<P.cellsOf e:=Nat.mod_lt _ p;have av:k / P.cellsOf e*P.cellsOf e+k % P.cellsOf e=k:=by
      grind [Nat.div_add_mod,Nat.mul_comm]
     obtain⟨_,o,J,h2⟩:=a0 (k / P.cellsOf e) _ (qz hq);obtain⟨ad,R⟩:=qcM J;have af:=R _ hr;have a2:(l.map c)[k / P.cellsOf e]?=some (c l[k / P.cellsOf e]):=by rw[zi,qz hq];rfl
     have hx:(c l[k / P.cellsOf e])[k % P.cellsOf e]?=some x:=by
      have ag:k % P.cellsOf e<(c l[k / P.cellsOf e]).length:=by grind
      have:=WA hz a2 (qz ag)
      grind
     obtain⟨aj,aw,ax,a3,ay,a4⟩:=qcN af;have e1:((a.add (k / P.cellsOf e*P.cellsOf e)).add (k % P.cellsOf e)).block=a.block:=by rw[a1,a1]
     have e2:((a.add (k / P.cellsOf e*P.cellsOf e)).add (k % P.cellsOf e)).off=a.off+k:=by
      grind [Addr.add]
     rw[e1,hb]at a3;cases a3;rw[e2]at a4;have ah:arr.getD (a.off+k) zK=o.getD (k % P.cellsOf e) zK:=by
      rw[q9,a4];rfl
    .grind
    .show VRel _ _ x (arr.getD (a.off+k) zK)
     rw[ah];exact h2.2 _ x hx
def U5(P:qc)(t:qd):Option (List (qd×Nat)):=match P.underlying t with|some (.struct g)=>some (g.toList.map fun f=>(f.type,f.offset))|_=>none
inductive ShF (P:qc) (N:Nat):Nat->List (qd×Nat)->{α:Type}->(α->List AV)->(α->Prop)->Prop where
 |nil (o:Nat):ShF P N o [] (fun _:Unit=>[]) (fun _=>True)
 |cons {o:Nat} {t:qd} {fs:List (qd×Nat)} {α β:Type} {c:α->List AV} {ok:α->Prop} {c':β->List AV} {ok':β->Prop} (h:ShU P N t c ok) (k:ShF P N (o+P.cellsOf t) fs c' ok') :
   ShF P N o ((t,o) :: fs) (fun x:α×β=>c x.1++c' x.2) (fun x=>ok x.1/\ok' x.2)
def Vl(P:qc)(fs:List (qd×Nat)):Nat:=(fs.map fun f=>P.cellsOf f.1).foldr (·+·) 0
theorem ShF.read{n o ok}(h:ShF P N o fs c ok)(C:n<N){H}{enc:qd×qg->H}{w}(cs:List qg)
  (p:cs.length=o+Vl P fs) (r:∀(i:Nat) f,fs[i]?=some f->∃ x,DataW.trod enc P w 0 (fun _=>true) true n f.1 ((cs.drop f.2).take (P.cellsOf f.1))=some x/\jW P f.1 x.1) :
  ∃ a,ok a/\CR w (c a) (cs.drop o):=by
 induction h with
 |nil o =>
  refine⟨(),trivial,?_⟩;rw[List.drop_of_length_le (by grind [Vl])];exact .nil w
 | @cons o t fs I β c ok c' J h k R =>
  obtain⟨x,j,l⟩:=r 0 _ rfl;obtain⟨a,T,U⟩:=h n C H enc w _ x j l;have a0:Vl P ((t,o) :: fs)=P.cellsOf t+Vl P fs:=rfl;obtain⟨b,hb,hs⟩:=R zOm (fun i g hg=>r (i+1) g hg);refine⟨(a,b),⟨T,hb⟩,?_⟩;have e:cs.drop o=(cs.drop o).take (P.cellsOf t)++cs.drop (o+P.cellsOf t):=by
   rw[<-List.drop_drop,List.take_append_drop]
  rw[e];exact U.app hs
theorem ShU.struct{ok}(j:U5 P t=some fs)(hf:ShF P N 0 fs c ok)(T:P.cellsOf t=Vl P fs):ShU P (N+1) t c ok:=by
 intro n hn H l w U x h hw;unfold U5 at j;split at j
 .rename_i gs hu
  simp only[qu]at j;subst j;obtain⟨J,m,rfl,rfl,hl,a0,hg⟩:=DataW.trod_struct hu h;have r:(DataW.weightsEach P (gs.toList.map (·.type)) (J.map (·.1))).all (·<=reachBytes)=true:=by
   grind [jW,DataW.weights]
  obtain⟨a,ha,hr⟩:=hf.read (n:=m) zOm (w:=w) (enc:=l) U zOm (fun i f C=>by
   simp only[zi,Option.map_eq_some_iff]at C;obtain⟨g,o,rfl⟩:=C;have R:=hg i g (zUs o);have p:i<J.length:=by
    grind
   rw[qz p]at R;exact⟨_,R,cR r i _ _ (by rw[zi,o];rfl) (by rw[zi,qz p];rfl)⟩)
  grind
 .cases j
theorem ShU.arg1{c:I->AV}{ok}(h:∀ N,ShU P N t (fun a=>[c a]) ok)(g:∀ w r b v,Value.okWide P w r b t v->v.cells=#[v])
  {H} {enc} {w} {r} {b} {v} {d:DataW H} {ps} (i:Value.okWide P w r b t v) (l:DataW.Trod enc P w 0 (fun _=>true) true t v d ps) (o:jW P t d) :
  ∃ a,ok a/\VRel ⟨(·<w.heap.size),[]⟩ w.heap (c a) v:=by
 obtain⟨n,p⟩:=l;obtain⟨a,C,j⟩:=h (n+1) n zOm H enc w _ _ p o;rw[g w r b v i]at j;have:=j.2 0 (c a) rfl
 grind
theorem cW{ok fs}(h:∀ N,ShU P N t c ok)(j:P.underlying t=some (.struct fs))
  {H} {enc} {w} {r} {b} {v} {d:DataW H} {ps} (g:Value.okWide P w r b t v) (l:DataW.Trod enc P w 0 (fun _=>true) true t v d ps) (o:jW P t d) :
  ∃ a,ok a/\VRel ⟨(·<w.heap.size),[]⟩ w.heap (.agg (c a)) v:=by
 obtain⟨n,p⟩:=l;obtain⟨a,C,i⟩:=h (n+1) n zOm H enc w _ _ p o;unfold Value.okWide at g;rw[j]at g;obtain⟨R,rfl,_,_⟩:=g;refine⟨a,C,.agg _ _ (by simpa[Value.cells] using i.1) (fun k x J=>?_)⟩;have:=i.2 k x J
 grind [Value.cells,q9]
end
end Go.EvW
namespace Go.EvW
open Go Go.Ev Go.RowKit Go.ChangeShapes Go.WideShapes
section
variable {I:Type}{c:I->List AV}{ts:List qd}{P:qc}{t:qd}{w:qf}
def Vm(P:qc)(t:qd){I:Type}(c:I->AV)(ok:I->Prop):Prop:=
 ∀(H:Type)(g:qd×qg->H)(w:qf)(r:Reach)(b:Nat)(v:qg)(d:DataW H)(i:List MemPlace),Value.okWide P w r b t v->DataW.Trod g P w 0 (fun _=>true) true t v d i->jW P t d ->
  ∃ a,ok a/\VRel ⟨(·<w.heap.size),[]⟩ w.heap (c a) v
theorem Vm.struct{ok}(g:(U5 P t).isSome=true)(h:∀ N,ShU P N t c ok):Vm P t (fun a => .agg (c a)) ok:=by
 intro H i w r b v d C j l o;unfold U5 at g;split at g
 .rename_i J p;exact cW h p j l o
 grind
inductive ArgF (P:qc):List qd->{α:Type}->(α->List AV)->(α->Prop)->Prop where
 |nil:ArgF P [] (fun _:Unit=>[]) (fun _=>True)
 |cons {t:qd} {ts:List qd} {α β:Type} {c:α->AV} {ok:α->Prop} {c':β->List AV} {ok':β->Prop} (h:Vm P t c ok) (k:ArgF P ts c' ok'):ArgF P (t :: ts) (fun x:α×β=>c x.1 :: c' x.2) (fun x=>ok x.1/\ok' x.2)
theorem ArgF.read{ok}(h:ArgF P ts c ok){H enc w r b} :
  ∀{g}{ds:List (DataW H)}{ps},DataW.TrodAll enc P w 0 (fun _=>true) true ts g ds ps->(∀(j:Nat) t v,ts[j]?=some t->g[j]?=some v->Value.okWide P w r b t v)->(DataW.weightsEach P ts ds).all (·<=reachBytes)=true ->
  ∃ a,ok a/\ds.length=ts.length/\g.length=(c a).length/\∀(k) x,(c a)[k]?=some x->VRel ⟨(·<w.heap.size),[]⟩ w.heap x (g.getD k zK):=by
 induction h with
 |nil =>
  intro g ds ps i _ _;obtain⟨rfl,rfl,rfl⟩:=trodAll_nil i;simp
 | @cons t ts I β c ok c' R h k T =>
  intro g ds ps i J l;obtain⟨v,U,d,a0,p,q,rfl,rfl,rfl,h1,h2⟩:=trodAll_cons i;simp only[DataW.weightsEach,List.all_append,qE]at l;obtain⟨a,ha,hr⟩:=h H enc w r b v d p (J 0 t v rfl rfl) h1 l.1;obtain⟨a',o,C,hl,hg⟩:=T h2 (fun j t v=>J (j+1) t v) l.2;refine⟨(a,a'),⟨ha,o⟩,zP1 C,zP1 hl,fun k x hx=>?_⟩
  grind
theorem qcO(l:laidOutB P=true){H enc W o r}:∀{ts i}{ds:List (DataW H)}{ps},
  (∀ t,t∈ts->P.readableRec t=true/\t<P.types.size)->DataW.TrodAll enc P W 0 (fun _=>true) true ts i ds ps->(∀ p∈ps,W.sameAt o p)->(∀ p∈ps,r p.block=true)->DataW.TrodAll enc P o 0 r true ts i ds ps
 | [],i,ds,ps,_,h,_,_=>by
  obtain⟨rfl,rfl,rfl⟩:=trodAll_nil h;exact trodAll_mk0
 |t :: ts,i,ds,ps,C,h,I,J=>by
  obtain⟨v,R,d,T,p,q,rfl,rfl,rfl,g1,U⟩:=trodAll_cons h;have j:=C t zSp;exact trodAll_cons_mk (WideElems.Trod_stays l j.1 j.2 g1 (fun x g=>I x (zP1 g)) (fun x g=>J x (zP1 g)))
   (qcO l (fun t j=>C t (zP1 j)) U (fun x g=>I x (zP1 g)) (fun x g=>J x (zP1 g)))
theorem qpB{f fn}{s:ChangeSpec}{tb ok}(hp:fn.params=ts.toArray)(hF:ArgF P ts c ok)(hv:s.vars=[])
  (T:∀ H ds,ds.length=ts.length->s.fn H ds={ results:=[.lit (.bool true)],args:=ds }) (hr:fn.resultTypes=#[tb]) (U:P.underlying tb=some .bool)
  (hl:laidOutB P=true) (a7:(ts.all fun t=>P.readableRec t&&decide (t<P.types.size))=true) (hS:∀ a,ok a->qh P f (c a) (aB true))
  (H) (C) (W) (base) (args) (ds gs:List (DataW H)) (g)
  (i:∀(j:Nat) t v,fn.params[j]?=some t->args[j]?=some v->Value.okWide P W .any base t v) (hW:DataW.Whole C P fn.params.toList s.vars false W args.toList ds gs g) (a8:(DataW.weightsEach P fn.params.toList ds).all (·<=reachBytes)=true) (hT:ZB (·<W.heap.size) W.heap) :
  Calls P f args W fun e W'=>∃ v,e = .returned v/\s.post C P fn false true false false W args v W':=by
 have a0:=hW;obtain⟨p,q,R,hV,J,a9,_⟩:=hW;rw[hv]at hV;obtain⟨hg,hq⟩:=trodVars_none hV;subst hg;subst hq;rw[zJ]at J;subst J;rw[hp]at R i;obtain⟨a,ha,a1,a2,aa⟩:=hF.read (r := .any) (b:=base) R (fun j t v h1 h2=>i j t v (zUs h1) (zUs h2)) (by grind);have a3:∀ x,x∈g->x.block<W.heap.size:=fun x l=>R.lt x l
 obtain⟨_,o⟩:=hS a ha;refine(o (·<W.heap.size) W args (Sim.empty (fun _ h=>h) hT) ⟨zUs a2,fun k x hk=>?_⟩).mono fun e W' ⟨a6,v,he,_,_,hb,a4⟩=>?_
 .simp_all
 .have a5:v = .bool true:=by cases a4;rfl
  subst a5;refine⟨_,he,ds,[],g,[],g,[],a0,?_,?_,?_,World.keptBut_mono (fun x l=>⟨l,.inr (.inl l)⟩) (hb.frame (·∈g)),fun h=>by cases h⟩
  all_goals try rw[zJ]
  all_goals try rw[T H ds a1]
  .rw [hr]
   exact trodAll_cons_mk (p':=[]) (shut_bool U true) trodAll_mk0
  .rw [hp]
   refine qcO hl (fun t ht=>?_) R (fun x l=>hb.same (a3 x l)) (fun x l=>by grind)
   grind
  .rw [hv];rfl
theorem ShF.cons'{N o o' fs i ok c' g}(j:o+P.cellsOf t=o')(h:ShU P N t c ok)(k:ShF P N o' fs c' g) :
  ShF P N o ((t,o) :: fs) (fun x:I×i=>c x.1++c' x.2) (fun x=>ok x.1/\g x.2):=by
 subst j;exact .cons h k
theorem qcP:∀{laid ps},DataW.LaidVars P w laid ps->∀ x,x∈laid->∃ g t cs fuel p,P.globalNamed x.1=some g/\(P.globals[g]?).map (·.type)=some t/\w.var? P x.1=some cs/\DataW.trod (fun _=>()) P w 0 (fun _=>true) false fuel t cs.toList=some (x.2,p)
 | [],_,_,x,i=>by simp at i
 | (n,d) :: r,ps,h,x,i=>by
  obtain⟨g,t,cs,fuel,p,q,l,o,C,I,j,_⟩:=h;rcases qw.1 i with rfl|i
  .grind
  .exact qcP j x i
theorem qpC{e n fuel k}(T:P.underlying t=some (.array n e))(U:P.underlying e=some (.int k))(hc:P.cellsOf e=1)(r:P.cellsOf t=n){cs}{ns:List Int}{p}
  (h:DataW.trod (fun _=>()) P w 0 (fun _=>true) false fuel t cs=some (.agg (ns.map fun i => .lit (.int k i)),p)):cs=ns.map fun i => .int k i:=by
 obtain⟨J,m,_,g,R,hn,j⟩:=DataW.trod_array T h;simp only[Prod.mk.injEq,DataW.agg.injEq]at g;have g:=g.1;have C:ns.length=n:=by have:=congrArg List.length g;simp at this;omega
 rw[r]at R;rw[hc]at j;apply List.ext_getElem
 .simp [R,C]
 .intro i h1 h2
  have I:=j i zOm;rw[Nat.mul_one]at I;have l:i<J.length:=zOm;rw[qz l]at I;obtain⟨z,e1,e2,_⟩:=DataW.trod_int U I;have h4:(J[i]).1=DataW.lit (.int k z):=by rw[e2]
  have o:(ns.map fun i=>(DataW.lit (.int k i):DataW Unit))[i]?=(J.map (·.1))[i]?:=by rw[g]
  rw[zi,zi,qz l,qz zOm]at o;simp only[Option.map_some,qu]at o;rw[h4]at o;simp only[DataW.lit.injEq,Lit.int.injEq,true_and]at o;have h6:(cs.drop i).take 1=[cs[i]]:=by rw[zp h1];rfl
  grind
theorem qpD{name g cs}(j:P.globalNamed name=some g)(h:w.var? P name=some cs):∃ e i,w.heap[g]?=some (.cells cs e i):=by
 grind [World.var?]
end
end Go.EvW
namespace Go.Proofs.YtipbakanneogpaaGreatDoor
open Go Go.Ev Go.Proofs Tryz
namespace DT
open Go.EvW Y1 P1 YF
theorem unInt:qb.underlying 3=some (.int .i64):=by kernel_rfl
theorem qcQ:qb.underlying 4=some .bool:=by kernel_rfl
theorem qpE:qb.underlying 9=some .string:=by kernel_rfl
theorem qpF:qb.underlying 28=some (.slice 3):=by kernel_rfl
theorem qpG:qb.underlying 22=some (.slice 65):=by kernel_rfl
theorem qpH:qb.underlying 23=some (.slice 67):=by kernel_rfl
theorem qpI:qb.underlying 33=some (.slice 35):=by kernel_rfl
theorem qpJ:qb.underlying 107=some (.slice 159):=by kernel_rfl
theorem qpK:qb.underlying 24=some (.slice 109):=by kernel_rfl
theorem qpL:qb.underlying 25=some (.slice 89):=by kernel_rfl
abbrev okI(n:Int):Prop := -9223372036854775808<=n/\n<=9223372036854775807
abbrev okS(s:tM):Prop:=s.size<=140737488351232
instance:Inhabited Nd:=⟨.mk 0 ⟨#[]⟩ 0 [] 0⟩
instance:Inhabited Pd:=⟨⟨⟨#[]⟩,[],default⟩⟩
instance:Inhabited Fld:=⟨⟨⟨#[]⟩,[],false⟩⟩
theorem Z5(N):ShU qb N 3 (fun n:Int=>[aI n]) okI:=
 (ShU.int unInt N).map (fun n=>n) (fun _=>rfl) (fun n h=>by
  grind [Lit.wf,IntKind.min,IntKind.max,IntKind.signed,IntKind.bits])
theorem K6(N):ShU qb N 4 (fun b:Bool=>[aB b]) (fun _=>True):=ShU.bool qcQ N
theorem Jf(N):ShU qb N 9 (fun s:tM=>[aS s]) okS:=ShU.string qpE N
theorem K7(N):ShU qb N 28 (fun xs:List Int=>[lI xs]) (fun l=>l.length<=140737488351232/\∀ x,x∈l->okI x):=
 ((ShU.slice qpF (Z5 N) (fun _ _=>zKr) (Nat.lt_of_lt_of_eq Nat.zero_lt_one zKr) zKr).le zOm).map (fun l=>l) (fun _=>rfl) fun _ h=>h
theorem qpM(N):ShU qb N 67 j8 (fun f=>f.sS.length<=140737488351232/\∀ x,x∈f.sS->okI x):=
 ((ShU.struct (fs:=[(9,0),(28,1),(4,2)]) zKr (.cons' (o':=1) zKr (Jf N) (.cons' (o':=2) zKr (K7 N) (.cons' (o':=3) zKr (K6 N) (.nil 3)))) zKr).map
  (fun x=>(⟨x.1,x.2.1,x.2.2.1⟩:Fld)) (fun _=>rfl) (fun x h=>h.2.1)).le zOm
theorem qpN(N):ShU qb N 65 wd (fun s=>okS s.1):=
 ((ShU.struct (fs:=[(9,0),(4,1)]) zKr (.cons' (o':=1) zKr (Jf N) (.cons' (o':=2) zKr (K6 N) (.nil 2))) zKr).map
  (fun x=>((x.1,x.2.1):tM×Bool)) (fun _=>rfl) (fun x h=>h.1)).le zOm
theorem U6:∀ N,ShU qb N 35 cNd (fun _=>True)
 | 0=>fun n i=>absurd i zOm
 | N+1 =>
  have ks:ShU qb N 33 (fun l:List Nd=>[.lst false (l.map cNd)]) (fun _=>True):=((ShU.slice qpI (U6 N) (fun a _=>(Yp a).trans zKr) (Nat.lt_of_lt_of_eq (show 0<5 by omega) zKr) zKr).le zOm).map (fun l=>l) (fun _=>rfl) fun _ _=>trivial
  ((ShU.struct (fs:=[(3,0),(9,1),(3,2),(33,3),(3,4)]) zKr
   (.cons' (o':=1) zKr (Z5 N) (.cons' (o':=2) zKr (Jf N) (.cons' (o':=3) zKr (Z5 N) (.cons' (o':=4) zKr ks (.cons' (o':=5) zKr (Z5 N) (.nil 5)))))) zKr)).map
   (fun x=>Nd.mk x.1 x.2.1 x.2.2.1 x.2.2.2.1 x.2.2.2.2.1) (fun x=>by rw[yC];rfl) fun _ _=>trivial
theorem qpO(N):ShU qb N 159 cPm (fun p=>okI p.2):=
 ((ShU.struct (fs:=[(9,0),(3,1)]) zKr (.cons' (o':=1) zKr (Jf N) (.cons' (o':=2) zKr (Z5 N) (.nil 2))) zKr).map
  (fun x=>((x.1,x.2.1):tM×Int)) (fun _=>rfl) (fun x h=>h.2.1)).le zOm
theorem qpP(N):ShU qb N 107 (fun l:List (tM×Int)=>[lPm l]) (fun l=>l.length<=140737488351232):=
 ((ShU.slice qpJ (qpO N) (fun _ _=>zKr) (Nat.lt_of_lt_of_eq (show 0<2 by omega) zKr) zKr).le zOm).map (fun l=>l) (fun _=>rfl) fun _ h=>h.1
theorem qpQ(N):ShU qb N 109 cPd (fun _=>True):=
 ((ShU.struct (fs:=[(9,0),(107,1),(35,2)]) zKr (.cons' (o':=1) zKr (Jf N) (.cons' (o':=2) zKr (qpP N) (.cons' (o':=7) zKr (U6 N) (.nil 7)))) zKr).map
  (fun x=>(⟨x.1,x.2.1,x.2.2.1⟩:Pd)) (fun x=>by simp[cPd]) fun _ _=>trivial).le zOm
theorem qpR(N):ShU qb N 89 cFa (fun _=>True):=
 ((ShU.struct (fs:=[(9,0),(35,1)]) zKr (.cons' (o':=1) zKr (Jf N) (.cons' (o':=6) zKr (U6 N) (.nil 6))) zKr).map
  (fun x=>((x.1,x.2.1):tM×Nd)) (fun x=>by simp[cFa]) fun _ _=>trivial).le zOm
structure okTA (ts:TS):Prop where
 so:∀ x,x∈ts.sS->okS x.1
 nso:ts.sS.length<=140737488351232
 nf:ts.sA.length<=140737488351232
 fl:∀ f,f∈ts.sA->f.sS.length<=140737488351232/\∀ x,x∈f.sS->okI x
theorem qpS(N):ShU qb N 27 cTS okTA:=by
 have s1:=(ShU.slice qpG (qpN N) (fun _ _=>zKr) (Nat.lt_of_lt_of_eq (show 0<2 by omega) zKr) zKr).le (M:=N) zOm;have i:=(ShU.slice qpH (qpM N) (fun _ _=>zKr) (Nat.lt_of_lt_of_eq (show 0<3 by omega) zKr) zKr).le (M:=N) zOm;have j:=(ShU.slice qpK (qpQ N) (fun a h=>(Zk a).1.trans zKr) (Nat.lt_of_lt_of_eq (show 0<7 by omega) zKr) zKr).le (M:=N) zOm;have l:=(ShU.slice qpL (qpR N) (fun a h=>(nM a).1.trans zKr) (Nat.lt_of_lt_of_eq (show 0<6 by omega) zKr) zKr).le (M:=N) zOm;have U:=ShU.struct (t:=27) (fs:=[(22,0),(23,1),(24,2),(25,3)]) zKr (.cons' (o':=1) zKr s1 (.cons' (o':=2) zKr i (.cons' (o':=3) zKr j (.cons' (o':=4) zKr l (.nil 4))))) zKr;exact(U.map (fun x=>(⟨x.1,x.2.1,x.2.2.1,x.2.2.2.1⟩:TS)) (fun _=>rfl) fun x h=>⟨h.1.2,h.1.1,h.2.1.1,h.2.1.2⟩).le zOm
theorem unU8:qb.underlying 5=some (.int .u8):=by kernel_rfl
theorem shU8(N):ShU qb N 5 (fun n:Int=>[.sc (.int .u8 n)]) (fun n=>0<=n/\n<=255):=
 (ShU.int unU8 N).map (fun n=>n) (fun _=>rfl) (fun n h=>by
  simp[Lit.wf,IntKind.min,IntKind.max,IntKind.signed,IntKind.bits]at h;exact h)
end DT
namespace QA
def bA:tM:=⟨#[65]⟩
def bf:tM:=⟨#[102]⟩
def bp:tM:=⟨#[112]⟩
end QA
namespace QB
open Y1 Q6 Q9 QA
def nC:Nd := .mk 45 bf 0 [qb2 bA 2,.mk 47 bp 0 [qb2 bf 5] 3] 1
theorem h47:anyN (fun n=>decide (n.op=47)) nC=true:=by decide +kernel
def WkR:List (List AV)->List (List AV)->Prop
 | [],[]=>True
 |x :: J,y :: i=>WKs x y/\WkR J i
 |_,_=>False
theorem qcR:∀{xs ys g i},WKs xs ys->WKs g i->WKs (xs++g) (ys++i)
 | [],[],_,_,_,j=>j
 |_ :: _,_ :: _,_,_,⟨h,t⟩,j=>⟨h,qcR t j⟩
 | [],_ :: _,_,_,h,_=>h.elim
 |_ :: _,[],_,_,h,_=>h.elim
theorem qcS:∀{xs ys},WkR xs ys->ys.length=xs.length/\(∀(k:Nat) x y,xs[k]?=some x->ys[k]?=some y->x.length=y.length)/\WKs xs.flatten ys.flatten
 | [],[],_=>⟨rfl,fun k x y h=>by simp at h,trivial⟩
 |x :: xs,y :: ys,⟨h,t⟩=>by
  obtain⟨j,l,o⟩:=qcS t;refine⟨zP1 j,fun k a b g i=>?_,by rw[wV,wV];exact qcR h o⟩;cases k with
  |zero=>simp at g i;subst g;subst i;exact h.get.1.symm
  |succ k=>exact l k a b (zUs g) (zUs i)
 | [],_ :: _,h=>h.elim
 |_ :: _,[],h=>h.elim
theorem Qs{full xs ys}(h:WkR xs ys):WK (.lst full xs) (.lst false ys):=by
 obtain⟨o,I,J⟩:=qcS h;have P:=pP o I;have R:=J.get.2;intro G T v r;cases r with
 |nil=>cases ys with
  |nil=>exact .nil _
  |cons=>simp at o
 |emp _ a cap U=>cases ys with
  |nil=>exact .emp _ a cap zSp
  |cons=>simp at o
 |lst _ _ g a cap cs e fr rd hb hs hl U hi p hr hv =>
  rw[<-o];have i:∀(k:Nat) y,ys.flatten[k]?=some y->∃ x,xs.flatten[k]?=some x:=by
   intro k y l;have t:k<ys.flatten.length:=(qj.1 l).1;exact⟨xs.flatten[k]' zOm,by simp only[qz (show k<xs.flatten.length by omega)]⟩
  refine .lst false ys g a cap cs e fr rd hb hs zOm zSp hi ?_ ?_ ?_
  .intro r C
   obtain⟨k,t⟩:=List.mem_iff_getElem?.1 C;have a0:k<ys.length:=(qj.1 t).1;have j:xs[k]?=some (xs[k]' zOm):=by simp[show k<xs.length by omega]
   rw[<-I k _ r j t];exact p _ (qZ j)
  .intro k y l
   obtain⟨x,j⟩:=i k y l;exact hr k x j
  .intro k y l
   obtain⟨x,j⟩:=i k y l;exact R k x y j l G T _ (hv k x j)
theorem U7(op nm n){ks l}(p)(h:WK ks (lNd l)):WKs [aI op,aS nm,aI n,ks,aI p] (cNd (.mk op nm n l p)):=by
 rw[yC];exact⟨.hf (HF.sc _),.hf (HF.sc _),.hf (HF.sc _),h,.hf (HF.sc _),trivial⟩
theorem qcT(op nm n){ks l}(p)(h:WK ks (lNd l)):WK (.agg [aI op,aS nm,aI n,ks,aI p]) (eNd (.mk op nm n l p)):=WK.aggs (U7 op nm n p h)
end QB
namespace PB
open P1 P2 Y1 Y2 Y6 Y9 Y12 YW QB
section
variable {b':Kd}
def Sub(a b:Kd):Prop:=a.ar=b.ar/\∀ t,t∈a.ts->t∈b.ts
theorem qpT{n m a g b b'}(i:∀ t,t∈a->t∈g)(j:∀ t,t∈b->t∈b'):∀ t,t∈uK n m a b->t∈uK n m g b':=fun t l=>by
 grind [Zh]
theorem qpU{n m a g b b'}(i:∀ t,t∈a->t∈g)(j:∀ t,t∈b->t∈b'):∀ t,t∈Qg n m a b->t∈Qg n m g b':=fun t l=>by
 grind [JL]
theorem U8{a j b}(g:Sub a j)(i:Sub b b'):Sub (zN a b) (zN j b'):=by
 refine⟨by simp only[zN];rw[g.1,i.1],fun t l=>?_⟩;simp only[zN]at l⊢;rw[<-g.1,<-i.1];exact qpT g.2 i.2 t l
theorem qpV{a j b}(g:Sub a j)(i:Sub b b'):Sub (uL a b) (uL j b'):=by
 refine⟨by simp only[uL];rw[g.1,i.1],fun t l=>?_⟩;simp only[uL]at l⊢;rw[<-g.1,<-i.1];exact qpU g.2 i.2 t l
theorem Zw{a b}{t:Tp}:t∈(kSum a b).ts↔t∈a.ts\/t∈b.ts:=by
 show t∈uni (uni [] a.ts) b.ts↔_;rw[vV,vV];simp
theorem qcU{a g b}(i:Sub a g)(j:∀ t,t∈b.ts->t∈b'.ts):Sub (kSum a b) (kSum g b'):=
 ⟨i.1,fun t l=>Zw.2 ((Zw.1 l).imp (i.2 t) (j t))⟩
theorem Sub.refl(a):Sub a a:=⟨rfl,fun _ h=>h⟩
theorem Sub.trans{a b c}(h:Sub a b)(k:Sub b c):Sub a c:=⟨h.1.trans k.1,fun t g=>k.2 t (h.2 t g)⟩
theorem K8(a b):Sub a (kSum a b):=⟨rfl,fun t g=>Zw.2 (.inl g)⟩
theorem qpW{a g}(i:Sub a g):Sub (kTr a) (kTr g):=⟨rfl,fun t j=>by
 obtain⟨x,l,e⟩:=UK.1 j;exact UK.2 ⟨x,i.2 x l,e⟩⟩
def U9(k:Kd):Prop:=∀ t,t∈(zN k k).ts->t∈k.ts
theorem K9:∀ f n a,Sub a (cloN f n a)
 | 0,n,a => .refl a
 |f+1,n,a=>by
  unfold cloN;split
  .exact (K8 a _).trans (K9 f _ _)
  .exact .refl a
theorem kc{S}(i:U9 S):∀ f n a,Sub a S->Sub (cloN f n a) S
 | 0,n,a,h=>h
 |f+1,n,a,h=>by
  unfold cloN;split
  .refine kc i f _ _ ⟨h.1,fun t g=>?_⟩
   rcases Zw.1 g with g|g
   .exact h.2 t g
   .exact i t ((U8 h h).2 t g)
  .exact h
theorem kf{ns}(o:ns<=4):∀ f n a,okKd ns a->a.ar=2->70<=f+n->(n=0\/∃ p,okKd ns p/\p.ar=2/\n=p.ts.length/\a=kSum p (zN p p))->U9 (cloN f n a)
 | 0,n,a,g,r,hf,C=>by
  rcases C with rfl|⟨p,J,_,rfl,_⟩
  .omega
  grind [aV]
 |f+1,n,a,g,r,hf,C=>by
  unfold cloN;split
  .rename_i T
   have U:okKd ns (zN a a):=J5 g g zOm zOm;refine kf o f _ _ (J3 g U (by grind [zN])) r zOm (.inr ⟨a,g,r,rfl,rfl⟩)
  .rename_i a0
   rcases C with rfl|⟨p,J,a1,rfl,rfl⟩
   .have:a.ts=[]:=uy zOm
    intro t i;obtain⟨x,y,⟨I,_⟩,_⟩:=Zh.1 i
    grind
   .have j:∀ t,t∈(kSum p (zN p p)).ts->t∈p.ts:=by
     have a2:(kSum p (zN p p)).ts.Nodup:=g.nd;have a3:∀ t,t∈p.ts->t∈(kSum p (zN p p)).ts:=(K8 p _).2;intro t i;by_cases P:t∈p.ts
     .exact P
     .exfalso
      have l:(t :: p.ts).Nodup:=List.nodup_cons.2 ⟨P,J.nd⟩;have:=jN l (l₂:=(kSum p (zN p p)).ts) (fun x I=>by
       rcases qw.1 I with rfl|I
       .exact i
       grind)
      grind
    intro t i;have R:Sub (kSum p (zN p p)) p:=⟨rfl,j⟩;exact Zw.2 (.inr ((U8 R R).2 t i))
theorem qpX{ns}(g:ns<=4){a u}(h:Sub a u)(i:okKd ns u)(j:u.ar=2):Sub (kClo a) (kClo u):=
 kc (kf g 70 0 u i j zOm (.inl rfl)) 70 0 a (h.trans (K9 70 0 u))
theorem qcV(c):∀ m n s k,szN n<=m->exam c s true n = .ok k->exam c s false n = .ok k
 | 0,n,_,_,I,_=>by obtain⟨op,nm,i,ks,p⟩:=n;simp[szN]at I
 |m+1,n,s,k,I,h=>by
  have P:∀ x,x∈n.sD->∀(s:Scp)(g:Bool)(k:Option Kd),exam c s true x = .ok k->exam c s g x = .ok k:=fun x t s g k h=>by
   cases g with
   |true=>exact h
   |false=>exact qcV c m x s k (zW1 (yr t)) h
  have U:∀(l:List Nd),(∀ x,x∈l->x∈n.sD)->∀(s:Scp)(g:Bool)(r:List (Option Kd)),zd c s true l = .ok r->zd c s g l = .ok r:=by
   intro l;induction l with
   |nil=>intro _ s g r h;exact h
   |cons x l R =>
    grind [zd,exam,zj,za]
  rw[je]at h⊢;simp only[Bool.true_and,Bool.false_and,Bool.true_or,Bool.false_or,Bool.false_eq_true,if_false]at h⊢;split at h
  .cases h
  by_cases T:n.op=1
  .grind
  rw[if_neg T]at h⊢;by_cases h47:n.op=47
  .grind
  rw[if_neg h47]at h⊢;by_cases J:n.op=15\/n.op=45\/n.op=46
  .rw [if_pos J]at h⊢
   cases j:n.sD with
   |nil=>rw[j]at h;exact h
   |cons x l =>
    have o:∀ y,y∈x :: l->y∈n.sD:=fun y hy=>by grind
    rw[j]at h;simp only[yh]at h⊢;cases t:exam c s true x with
    |error e=>grind
    |ok a =>
     rw[t]at h;rw[P x (o x (zj ..)) s _ a t];cases a with
     |none=>cases h
     |some a =>
      simp only at h⊢;split at h
      .rename_i C
       rw[if_pos C]
       grind
      .cases h
  rw[if_neg J]at h⊢
  grind
section
variable {ts:TS} (ok:okTS ts) (a b d:Nd)
include ok
end
end
end PB
namespace PC
open YS P1 P2 Y1 Y2 Y9 Y10 Y12 YZ YA PA YC YG Q1 Q3 Q4 PB
section
variable {nm:tM}{es:List (tM×Bool)}
theorem qpY{a i b b'}(j:Sub i a)(l:Sub b' b):Sub (Yt i b') (Yt a b):=⟨j.1,fun t g=>by
 simp only[Yt,y7,decide_eq_true_eq]at g⊢;exact⟨j.2 t g.1,l.2 t g.2⟩⟩
theorem qpZ{op a g b b'}(i:Sub g a)(j:Sub b' b):Sub (ug op g b') (ug op a b):=by
 unfold ug;split
 .exact qcU i j.2
 grind [qpY]
theorem qp0{ns}(i:ns<=4){op a g}(h:Sub g a)(ok:okKd ns a)(j:a.ar=2):Sub (binK ns op g) (binK ns op a):=by
 grind [binK,qpX,qcU,qpW]
theorem apK1(ns op n pos a):yf ns op n pos [some a]=if op=2 then .ok (some ⟨n,[]⟩) else if op=3 then .ok (some (zB ns 1)) else if op=4 then .ok (some (zB ns 2)) else
  if op=5 then .ok (some a) else if op=11\/op=12\/op=13 then (if a.ar=2 then .ok (some (binK ns op a)) else .error (42,pos)) else .ok none:=rfl
theorem apK2(ns op n pos a b) : yf ns op n pos [some a, some b] = if op = 2 then .ok (some ⟨n, []⟩) else if op = 3 then .ok (some (zB ns 1)) else if op = 4 then .ok (some (zB ns 2)) else
      if op=6\/op=14\/op=7\/op=8\/op=32\/op=33 then (if a.ar=b.ar then .ok (some (ug op a b)) else .error (42,pos))
      else if op=9 then (if 1<=a.ar+b.ar-2/\a.ar+b.ar-2<=3 then .ok (some (zN a b)) else .error (42,pos))
      else if op=10 then (if a.ar+b.ar<=3 then .ok (some (uL a b)) else .error (42,pos))
      else .ok none:=rfl
theorem qp1{ns}(J:ns<=4){op num pos l l' R}(e1:op≠1)(a0:op≠15)
  (h1:op=5\/op=11\/op=12\/op=13->∃ a j,l=[some a]/\l'=[some j]/\Sub j a/\okKd ns a)
  (h2:op=6\/op=14\/op=7\/op=8\/op=32\/op=33\/op=9\/op=10->∃ a b j b',l=[some a,some b]/\l'=[some j,some b']/\Sub j a/\Sub b' b)
  (h:yf ns op num pos l = .ok R):∃ p,yf ns op num pos l' = .ok p/\(kd op=101->∃ k k',R=some k/\p=some k'/\Sub k' k):=by
 by_cases o:op=2
 .unfold yf at h⊢
  rw[if_pos o]at h⊢;cases h;exact⟨_,rfl,fun _=>⟨_,_,rfl,rfl,Sub.refl _⟩⟩
 by_cases r:op=3
 .unfold yf at h⊢
  rw[if_neg o,if_pos r]at h⊢;cases h;exact⟨_,rfl,fun _=>⟨_,_,rfl,rfl,Sub.refl _⟩⟩
 by_cases t:op=4
 .unfold yf at h⊢
  rw[if_neg o,if_neg r,if_pos t]at h⊢;cases h;exact⟨_,rfl,fun _=>⟨_,_,rfl,rfl,Sub.refl _⟩⟩
 by_cases g1:op=5\/op=11\/op=12\/op=13
 .obtain ⟨a,j,rfl,rfl,T,ok⟩:=h1 g1
  rw[apK1,if_neg o,if_neg r,if_neg t]at h⊢;by_cases U:op=5
  .rw [if_pos U]at h⊢
   cases h
   grind
  have g:op=11\/op=12\/op=13:=zOm;rw[if_neg U,if_pos g]at h⊢;by_cases i:a.ar=2
  .rw [if_pos i]at h
   rw[if_pos (T.1.trans i)];cases h;exact⟨_,rfl,fun _=>⟨_,_,rfl,rfl,qp0 J T ok i⟩⟩
  grind
 by_cases g2:op=6\/op=14\/op=7\/op=8\/op=32\/op=33\/op=9\/op=10
 .obtain ⟨a,b,j,b',rfl,rfl,C,I⟩:=h2 g2
  have q1:=C.1;have q2:=I.1;rw[apK2,if_neg o,if_neg r,if_neg t]at h⊢;by_cases g3:op=6\/op=14\/op=7\/op=8\/op=32\/op=33
  .rw [if_pos g3]at h⊢
   by_cases i:a.ar=b.ar
   .rw [if_pos i]at h
    rw[if_pos zOm];cases h;exact⟨_,rfl,fun _=>⟨_,_,rfl,rfl,qpZ C I⟩⟩
   grind
  rw[if_neg g3]at h⊢;by_cases e9:op=9
  .rw [if_pos e9]at h⊢
   by_cases i:1<=a.ar+b.ar-2/\a.ar+b.ar-2<=3
   .rw [if_pos i]at h
    rw[if_pos zOm];cases h;exact⟨_,rfl,fun _=>⟨_,_,rfl,rfl,U8 C I⟩⟩
   grind
  have P:op=10:=zOm;rw[if_neg e9,if_pos P]at h⊢;by_cases i:a.ar+b.ar<=3
  .rw [if_pos i]at h
   rw[if_pos zOm];cases h;exact⟨_,rfl,fun _=>⟨_,_,rfl,rfl,qpV C I⟩⟩
  grind
 refine⟨none,UL o r t zOm zOm zOm zOm zOm zOm zOm zOm zOm zOm zOm zOm,fun hk=>?_⟩;have:=UN hk;omega
theorem qp2{c n k}(h:yz c n=false)(g:k∈n.sD):yz c k=false:=by
 grind [Ut,Bool.or_eq_false_iff,List.any_eq_false]
theorem kh{c b b'}:∀{ks s},(∀ k,k∈ks->∀ s,exam c s b k=exam c s b' k)->zd c s b ks=zd c s b' ks
 | [],s,_=>by simp only[zd]
 |k :: ks,s,h=>by
  simp only[zd];rw[h k (zj ..) s,kh fun k g s=>h k (za _ g) s]
theorem qp3{c b b' pos}:∀{ks s},(∀ k,k∈ks->∀ s,exam c s b k=exam c s b' k)->yh c s b nm pos ks=yh c s b' nm pos ks
 | [],s,_=>by simp only[yh]
 |k :: ks,s,h=>by
  grind [yh,zj,exam,kh,za]
theorem qcW(c):∀ m n s b b',szN n<=m->yz c n=false->exam c s b n=exam c s b' n
 | 0,n,_,_,_,g,_=>by obtain⟨op,nm,i,ks,p⟩:=n;simp[szN]at g
 |m+1,n,s,b,b',g,h=>by
  have j:∀ b b' k,k∈n.sD->∀ s,exam c s b k=exam c s b' k:=fun b b' k l s=>qcW c m k s b b' (zW1 (yr l)) (qp2 h l)
  have o:zY c n.op n.name=false:=by rw[Ut,Bool.or_eq_false_iff]at h;exact h.1
  rw[je,je,o,Bool.and_false,Bool.and_false];rw[qp3 (b:=b||decide (n.op=15)) (b':=b'||decide (n.op=15)) (j _ _),kh (b:=b||decide (n.op=12)||decide (n.op=13)) (b':=b'||decide (n.op=12)||decide (n.op=13)) (j _ _)]
theorem Wa(ts i):∀ m,i<m->m<=ts.sT.length->∀ j,(tmsL ts m).getD i false=yz (mkCk ts i) ts.sT[i].body
 | 0,h,_,_=>absurd h zOm
 |m+1,h,r,j=>by
  have l:=ZX ts m zOm;have g:m<ts.sT.length:=zOm;have e:tmsL ts (m+1)=tmsL ts m++[yz (mkCk ts m) ts.sT[m].body]:=by
   show tmsL ts m++(match ts.sT[m]? with|some p=>[yz ⟨ts,m,tmsL ts m⟩ p.body] | none=>[])=_;rw[qz g];rfl
  rw[e];by_cases o:i<m
  .rw [<-Wa ts i m o zOm j]
   simp only[zE];rw[zGa]
  .have:i=m:=by omega
   subst this;simp only[zE];rw[zG zOm,l];simp
abbrev tkn(es:List (tM×Bool))(nm:tM):Prop:=getK nm es=some true
def Tk(es:List (tM×Bool))(n:Nd):Prop:=∀ x,x∈preN n->tkn es x.name
def OwnT(n:Nd):Prop:=∀ x,x∈preN n->ownB x=true
def vLe(es:List (tM×Bool))(L:Int)(nm:tM):Prop:=∃ j:Nat,(j:Int)<=L/\nm=vN j/\¬tkn es nm/\jf nm=true
structure qp4 (es:List (tM×Bool)) (L:Int) (x:Nd):Prop where
 nc:x.op≠47
 own:ownB x=true
 nm:tkn es x.name\/vLe es L x.name
structure vI (es:List (tM×Bool)) (L:Int) (n:Nd):Prop where
 wf:WfN n
 all:∀ x,x∈preN n->qp4 es L x
theorem vLe.mono{L L'}(h:vLe es L nm)(g:L<=L'):vLe es L' nm:=by
 obtain⟨j,a,b⟩:=h;exact⟨j,zOm,b⟩
theorem vI.mono{L L' n}(h:vI es L n)(i:L<=L'):vI es L' n:=
 ⟨h.wf,fun x g=>⟨(h.all x g).nc,(h.all x g).own,(h.all x g).nm.imp id fun v=>v.mono i⟩⟩
theorem Tk.kid{n k}(h:Tk es n)(g:k∈n.sD):Tk es k:=fun x i=>h x (KV g i)
theorem OwnT.kid{n k}(h:OwnT n)(g:k∈n.sD):OwnT k:=fun x i=>h x (KV g i)
theorem Wb{ks x}(h:x∈zx ks):∃ k,k∈ks/\x∈preN k:=by
 induction ks with
 |nil=>simp[zx]at h
 |cons a l g =>
  simp only[zx,qJ]at h;rcases h with h|h
  .exact ⟨a,zj ..,h⟩
  .obtain ⟨k,i,j⟩:=g h
   exact⟨k,za _ i,j⟩
theorem qp5{n}(h:wF nm n):∃ x,x∈preN n/\x.name=nm:=by
 unfold wF at h;rw[U4 _ (szN n) n (qr _),List.any_eq_true]at h
 grind
theorem ki{ts es}:∀{f k},(∃ j:Nat,1<=j/\j<=f/\yG ts es (vN (k+j))=true)->yG ts es (vN (zy ts es f k))=true
 | 0,k,⟨j,i,l,_⟩=>zOm
 |f+1,k,⟨j,i,l,g⟩=>by
  simp only[zy];split
  .rename_i h;exact h
  .rename_i o
   have p:j≠1:=fun e=>by subst e;exact o g
   exact ki (ts:=ts) (es:=es) (f:=f) (k:=k+1) ⟨j-1,zOm,zOm,by rw[show k+1+((j-1:Nat):Int)=k+j by omega];exact g⟩
theorem qcX:∀ m u,u<10 ^ (m+1)->(Lib.decDigits u).length<=m+1
 | 0,u,h=>by
  grind [Lib.decDigits]
 |m+1,u,h=>by
  rw[Lib.decDigits];split
  .simp
  .rw [q8]
   have:=qcX m (u / 10) (by rw[Nat.pow_succ]at h;omega);simp only[zz,List.length_nil];omega
theorem qcY:∀ m u,u<=m->∀ x,x∈Lib.decDigits u->48<=x.toNat/\x.toNat<=57
 |m,u,i,x,g=>by
  rw[Lib.decDigits]at g;split at g
  .rename_i h
   rw[qT]at g;subst g;rw[UInt8.toNat_ofNat_of_lt' (by simp[UInt8.size];omega)];omega
  .rename_i h
   rcases qJ.1 g with g|g
   .match m with
    | 0=>omega
    |m+1=>exact qcY m (u / 10) zOm x g
   .rw [qT]at g
    subst g;rw[UInt8.toNat_ofNat_of_lt' (by simp[UInt8.size];omega)];omega
theorem qp6(u):Lib.decDigits u≠[]:=by
 rw[Lib.decDigits];split<;>simp
theorem qp7(j:Nat):(vN (j:Int)).data.toList=118 :: Lib.decDigits j:=by
 simp_all[vN,jx,Lib.itoa,if_neg]
theorem qp8:∀ x,x∈kwL->∀ c,x.data.toList[1]?=some c->¬(48<=c.toNat/\c.toNat<=57):=by decide +kernel
theorem qp9{j:Nat}(h:j<1000000000000):jf (vN (j:Int))=true:=by
 have l:=qp7 j;have J:=qcX 11 j zOm;have p:=qcY j j (qr _);have t:=qp6 j;obtain⟨d,r,e⟩:=List.exists_cons_of_ne_nil t;have C:(vN (j:Int)).size=1+(Lib.decDigits j).length:=by
  have e:(vN (j:Int)).size=(vN (j:Int)).data.toList.length:=by rw[Array.length_toList];rfl
  rw[e,l,zz,Nat.add_comm]
 have o:kwB (vN (j:Int))=false:=by
  unfold kwB;rw[List.any_eq_false];intro x I g;have g:x=vN (j:Int):=zUs g;refine qp8 x I d ?_ (p d (by rw[e];exact zj ..));rw[g,l,e];rfl
 unfold jf;simp only[qE,decide_eq_true_eq,o,Bool.not_false,and_true];refine⟨⟨zOm,zOm⟩,?_⟩;rw[zo];intro i _;rw[<-Array.getElem?_toList,l];cases i with
 |zero=>show chB 0 ((118:UInt8).toNat:Int)=true;decide
 |succ i =>
  rw[vK];cases g:(Lib.decDigits j)[i]? with
  |none=>rfl
  |some c =>
   have:=p c (qZ g);simp[chB];right;right;omega
end
end PC
namespace PD
open P1 P2 Y1 Y2 Y9 YX YZ YA YB PA YC YG Q3 Q4 PB PC
section
variable {body:Bool}{nm:tM}{c0:Ck}{env:IEnv}{L:Int}{es:List (tM×Bool)}{l l':List (Option Kd)}{s s':Scp}
structure ArgR (c0:Ck) (es:List (tM×Bool)) (L:Int) (s':Scp) (k:Kd) (a:Nd):Prop where
 ex:∃ k',exam c0 s' true a = .ok (some k')/\Sub k' k
 good:vI es L a
 kd:kd a.op=101
def RlV(c0:Ck)(es:List (tM×Bool))(L:Int)(s':Scp)(v:tM):Option Kd->Option IV->Prop
 |none,none=>True
 |none,some _=>False
 |some k,none=>∃ g,lookS v s'=some g/\Sub g k
 |some k,some ⟨some a,_,_⟩=>ArgR c0 es L s' k a
 |some k,some ⟨none,_,i⟩=>(∃ g,lookS i s'=some g/\Sub g k)/\vLe es L i
structure Rl (c0:Ck) (es:List (tM×Bool)) (L:Int) (body:Bool) (s s':Scp) (env:IEnv):Prop where
 mean:∀ v,v∈s'->means c0.ts v.1=[]
 rel:∀ v,tkn es v->RlV c0 es L s' v (lookS v s) (getK v env)
 arg:body=false->∀ v iv,getK v env=some iv->iv.arg=none
theorem RlV.mono{L' v g i}(h:RlV c0 es L s' v g i)(j:L<=L'):RlV c0 es L' s' v g i:=by
 match g,i with
 |none,none=>exact h
 |none,some _=>exact h
 |some k,none=>exact h
 |some k,some ⟨some a,_,_⟩ =>
  have h:ArgR c0 es L s' k a:=h;exact(⟨h.ex,h.good.mono j,h.kd⟩:ArgR c0 es L' s' k a)
 |some k,some ⟨none,_,l⟩=>exact⟨h.1,h.2.mono j⟩
theorem Rl.mono{L'}(h:Rl c0 es L body s s' env)(g:L<=L'):Rl c0 es L' body s s' env:=
 ⟨h.mean,fun v i=>(h.rel v i).mono g,h.arg⟩
theorem Wc:∀{s k},lookS nm s=some k->(nm,k)∈s
 | [],k,h=>by simp[qoS]at h
 |v :: s,k,h=>by
  rw[Zu]at h;split at h
  .rename_i e
   cases h;rw[<-e];exact zj ..
  .exact za _ (Wc h)
theorem Rl.bind{st:ISt}{k k'}(a4:Free c0.ts es)(a0:(env.map Prod.fst).Nodup)(h:Rl c0 es st.last body s s' env)(h0:0<=st.last)(hb:st.last+(qq c0.ts es:Nat)<1000000000000)(ht:tkn es nm)(hs:Sub k' k) :
  Rl c0 es (renI c0.ts es env nm body st).2.last body ((nm,k) :: s) (((renI c0.ts es env nm body st).1.2,k') :: s') (renI c0.ts es env nm body st).1.1/\st.last<=(renI c0.ts es env nm body st).2.last/\(tkn es (renI c0.ts es env nm body st).1.2\/vLe es (renI c0.ts es env nm body st).2.last (renI c0.ts es env nm body st).1.2):=by
 have a1:∀ v,lookS v ((nm,k) :: s)=if nm=v then some k else lookS v s:=fun v=>Zu v _ _
 unfold renI;by_cases hc:body=true\/means c0.ts nm≠[]
 .rw [if_pos hc]
  have a2:=a4 st.last h0;have o:=ki a2;have a9:=KW c0.ts es (qq c0.ts es) st.last;have a7:=KX a2;generalize zy c0.ts es (qq c0.ts es) st.last=J at *
  obtain⟨j,rfl⟩:∃ j:Nat,J=j:=⟨J.toNat,zOm⟩;simp only[yG,qE,decide_eq_true_eq]at o;obtain⟨f1,f2⟩:=o;have hv:vLe es (j:Int) (vN j):=⟨j,vM _,rfl,f1,qp9 zOm⟩;have T:∀ v,v≠vN (j:Int)->lookS v ((vN (j:Int),k') :: s')=lookS v s':=fun v hv=>by
   rw[Zu,if_neg (fun e=>hv e.symm)]
  have a5:∀{v:tM},vLe es st.last v->v≠vN (j:Int):=fun⟨i,hi,e,_⟩ r=>by
   grind [qcL]
  have a3:∀ v,getK v (setK nm ⟨none,0,vN (j:Int)⟩ (delK nm env))=if v=nm then some ⟨none,0,vN (j:Int)⟩ else getK v env:=fun v=>by
   grind [vq,Zf]
  refine⟨⟨fun v U=>?_,fun v C=>?_,fun p v I g=>?_⟩,by grind,.inr hv⟩
  .rcases qw.1 U with rfl|U
   .exact f2
   .exact h.mean v U
  .show RlV c0 es (j:Int) ((vN (j:Int),k') :: s') v (lookS v ((nm,k) :: s)) (getK v (setK nm ⟨none,0,vN (j:Int)⟩ (delK nm env)))
   rw[a1,a3];by_cases t:nm=v
   .rw [if_pos t,if_pos t.symm]
    exact⟨⟨k',by rw[Zu,if_pos rfl],hs⟩,hv⟩
   .rw [if_neg t,if_neg (fun e=>t e.symm)]
    have l:=(h.rel v C).mono (L':=(j:Int)) zOm;have P:=h.rel v C;generalize lookS v s=lk at *
    generalize getK v env=I at *
    match lk,I with
    |none,none=>trivial
    |none,some _=>exact l
    |some q,none =>
     obtain⟨R,e1,r⟩:=l;exact⟨R,by grind,r⟩
    |some q,some ⟨some a,_,_⟩ =>
     have l:ArgR c0 es (j:Int) s' q a:=l;have P:ArgR c0 es st.last s' q a:=P;refine(⟨?_,l.good,l.kd⟩:ArgR c0 es (j:Int) ((vN (j:Int),k') :: s') q a);obtain⟨R,e1,r⟩:=l.ex;refine⟨R,?_,r⟩;rw[<-e1];refine qb8 (wG.refl c0) (szN a) a _ _ true (qr _) fun x hx=>?_
     obtain⟨y,hy,rfl⟩:=qp5 hx;rcases (P.good.all y hy).nm with h1|h1
     .grind
     grind
    |some q,some ⟨none,_,to⟩ =>
     obtain⟨⟨R,e1,r⟩,e3⟩:=l;exact⟨⟨R,by rw[T to (a5 P.2)];exact e1,r⟩,e3⟩
  .have g:getK v (setK nm ⟨none,0,vN (j:Int)⟩ (delK nm env))=some I:=g
   rw[a3]at g;split at g
   .cases g;rfl
   .exact h.arg p v I g
 .rw [if_neg hc]
  have p:body=false:=by
   grind
  have a6:means c0.ts nm=[]:=by
   grind
  have T:∀ v,v≠nm->lookS v ((nm,k') :: s')=lookS v s':=fun v hv=>by
   rw[Zu,if_neg (fun e=>hv e.symm)]
  refine⟨⟨fun v U=>?_,fun v C=>?_,fun p v I g=>?_⟩,vM _,.inl ht⟩
  .rcases qw.1 U with rfl|U
   .exact a6
   .exact h.mean v U
  .show RlV c0 es st.last ((nm,k') :: s') v (lookS v ((nm,k) :: s)) (getK v (delK nm env))
   rw[a1,Zf a0];by_cases t:nm=v
   .rw [if_pos t,if_pos t.symm]
    exact⟨k',by rw[Zu,if_pos t],hs⟩
   .rw [if_neg t,if_neg (fun e=>t e.symm)]
    have l:=h.rel v C;have a8:=h.arg p v;generalize lookS v s=lk at *
    generalize getK v env=I at *
    match lk,I with
    |none,none=>trivial
    |none,some _=>exact l
    |some q,none =>
     obtain⟨R,e1,r⟩:=l;exact⟨R,by grind,r⟩
    |some q,some ⟨some a,_,_⟩=>grind
    |some q,some ⟨none,_,to⟩ =>
     obtain⟨⟨R,e1,r⟩,e3⟩:=l;refine⟨⟨R,?_,r⟩,e3⟩;rw[T to fun e=>?_]
     .exact e1
     .obtain ⟨_,_,_,hn,_⟩:=e3
      grind
  .have g:getK v (delK nm env)=some I:=g
   rw[Zf a0]at g;split at g
   .cases g
   .exact h.arg p v I g
structure Out (c0:Ck) (es:List (tM×Bool)) (s':Scp) (inn:Bool) (n n':Nd) (ko:Option Kd) (L L':Int):Prop where
 ex:∃ ko',exam c0 s' inn n' = .ok ko'/\(kd n.op=101->∃ k k',ko=some k/\ko'=some k'/\Sub k' k)
 good:vI es L' n'
 kd:kd n'.op=kd n.op
 le:L<=L'
def Pt(es:List (tM×Bool))(L:Int):List Nd->List Nd->List (Option Kd)->List (Option Kd)->Prop
 | [],[],[],[]=>True
 |k :: ks,i :: g,a :: l,o :: p=>((kd k.op=101->∃ q j,a=some q/\o=some j/\Sub j q)/\kd i.op=kd k.op/\vI es L i)/\Pt es L ks g l p
 |_,_,_,_=>False
theorem Pt.spec:∀{ks g l l'},Pt es L ks g l l'->(g.map fun k=>kd k.op)=(ks.map fun k=>kd k.op)/\∀ k,k∈g->vI es L k
 | [],[],[],[],_=>⟨rfl,fun k j=>absurd j qH⟩
 |k :: ks,k' :: g,a :: l,r :: l',h=>by
  obtain⟨⟨t,C,o⟩,p⟩:=h;obtain⟨I,J⟩:=Pt.spec p;refine⟨by grind,fun x i=>?_⟩;rcases qw.1 i with rfl|i
  .exact o
  grind
theorem Pt.cons{es L k ks j l l'}(h:Pt es L (k :: ks) j l l'):∃ k' g a l2 o i,j=k' :: g/\l=a :: l2/\l'=o :: i/\(kd k.op=101->∃ q p,a=some q/\o=some p/\Sub p q)/\Pt es L ks g l2 i:=by
 cases j with
 |nil=>cases l<;>cases l'<;>exact h.elim
 |cons k' g =>
  cases l with
  |nil=>cases l'<;>exact h.elim
  |cons a l2 =>
   cases l' with
   |nil=>exact h.elim
   |cons o i=>exact⟨k',g,a,l2,o,i,rfl,rfl,rfl,h.1.1,h.2⟩
theorem Pt.nil{g}(h:Pt es L [] g l l'):l=[]/\l'=[]:=by
 cases g with
 |nil =>
  cases l with
  |nil=>cases l' with
   |nil=>exact⟨rfl,rfl⟩
   |cons a l=>exact h.elim
  |cons a l=>cases l'<;>exact h.elim
 |cons k ks=>cases l<;>cases l'<;>exact h.elim
theorem Pt.one{ks i}(h:Pt es L ks i l l')(g:(ks.map fun k=>kd k.op)=[101]):∃ a j,l=[some a]/\l'=[some j]/\Sub j a:=by
 match ks,g with
 | [k],g =>
  obtain⟨t,o,a,C,j,p,rfl,rfl,rfl,I,r⟩:=h.cons;obtain⟨rfl,rfl⟩:=r.nil
  grind
 | [],g=>simp at g
 |_ :: _ :: _,g=>simp at g
theorem Pt.two{ks i}(h:Pt es L ks i l l')(g:(ks.map fun k=>kd k.op)=[101,101]):∃ a b o b',l=[some a,some b]/\l'=[some o,some b']/\Sub o a/\Sub b' b:=by
 match ks,g with
 | [k,j],g =>
  have g:kd k.op=101/\kd j.op=101:=zUs g;obtain⟨k',r,a,l2,o,t,rfl,rfl,rfl,C,I⟩:=h.cons;obtain⟨_,_,b,l3,b',J,rfl,rfl,rfl,P,R⟩:=I.cons;obtain⟨rfl,rfl⟩:=R.nil;obtain⟨q,T,rfl,rfl,e⟩:=C g.1;obtain⟨p,U,rfl,rfl,e2⟩:=P g.2;exact⟨q,p,T,U,rfl,rfl,e,e2⟩
 | [],g=>simp at g
 | [_],g=>simp at g
 |_ :: _ :: _ :: _,g=>simp at g
theorem qcZ{c F inn E R} :
  ∀{ks i nm o st g j J l},
  (∀ k,k∈ks->∀ st n' z g I,StOk F st->Rl c0 es st.last body s s' env->E env k st = .ok ((n',z),g)->exam c s inn k = .ok I->Out c0 es s' inn k n' I st.last g.last/\StOk F g) ->
  StOk F st->Rl c0 es st.last body s s' env->yN E R false i env nm ks st = .ok ((o,j,J),g)->zd c s inn ks = .ok l ->
  o=nm/\st.last<=g.last/\∃ l',zd c0 s' inn j = .ok l'/\Pt es g.last ks j l l'
 | [],i,nm,o,st,g,j,J,l,_,p,P,e,el=>by
  cases e;simp only[zd,Except.ok.injEq]at el;subst el;exact⟨rfl,vM _,[],by simp only[zd],trivial⟩
 |k :: ks,i,nm,o,st,g,j,J,l,U,p,P,e,el=>by
  simp only[yN,Bool.false_eq_true,false_and,if_false]at e;simp only[zd]at el;split at e
  .cases e
  .rename_i k' m1 s1 h1
   cases hx:exam c s inn k with
   |error er=>grind
   |ok I =>
    rw[hx]at el;simp only at el;obtain⟨r,t⟩:=U k (zj ..) st k' m1 s1 I p P h1 hx;cases C:zd c s inn ks with
    |error er=>grind
    |ok l1 =>
     rw[C]at el;cases el;split at e
     .cases e
     .rename_i a0 a1 m2 s2 h2
      obtain⟨e1,e2,l',e3,e4⟩:=qcZ (fun k hk=>U k (za _ hk)) t (P.mono r.le) h2 C;cases e;obtain⟨T,x1,x2⟩:=r.ex;refine⟨e1,zW1 r.le,T :: l',?_,⟨⟨x2,r.kd,r.good.mono e2⟩,e4⟩⟩;simp only[zd];rw[x1,e3]
theorem Jg{c op}(h:op≠47):zY c op nm=yy op:=by
 simp[zY,h]
theorem cX{n ks}(C:WfN n)(g:(ks.map fun k=>kd k.op)=(n.sD.map fun k=>kd k.op))(I:∀ k,k∈ks->vI es L k)(h47:n.op≠47)(o:ownB n=true)
  (J:nm=n.name/\tkn es nm\/vLe es L nm/\jf n.name=true):vI es L (.mk n.op nm n.n ks n.pos):=by
 have l:ks.length=n.sD.length:=by have:=congrArg List.length g;grind
 have p:jf nm=jf n.name/\(nm=⟨#[]⟩↔n.name=⟨#[]⟩):=by
  rcases J with ⟨rfl,_⟩|⟨P,r⟩
  .exact ⟨rfl,Iff.rfl⟩
  .obtain ⟨j,_,_,_,t⟩:=P
   refine⟨t.trans r.symm,fun e=>?_,fun e=>?_⟩
   .rw [e]at t;exact absurd t zDe
   .rw [e]at r;exact absurd r zDe
 refine⟨.mk _ ?_ (fun h=>?_) fun k g=>(I k g).wf,fun x i=>?_⟩
 .show shp n.op ks.length=some (ks.map fun k=>kd k.op)
  rw[l,g];exact C.shape
 .exact C.num h
 .rw [wE]at i
  rcases qw.1 i with rfl|i
  .refine ⟨h47,?_,?_⟩
   .unfold ownB at o⊢
    show (if wB n.op=jf nm/\(wB n.op=true\/nm=⟨#[]⟩) then numB n.op n.n else false)=true;split at o
    .rename_i R
     rw[if_pos ⟨by grind,R.2.imp id p.2.2⟩];exact o
    .cases o
   .rcases J with ⟨_,h⟩|⟨h,_⟩
    .exact .inl h
    .exact .inr h
  .obtain ⟨k,g,i⟩:=Wb i
   exact(I k g).all x i
end
end PD
namespace PE
open P1 P2 Y1 Y2 Y3 Y9 Y10 Y14 YX YZ YA YB PA YC Q3 Q4 PB PC PD
section
variable {inn:Bool}{c c0:Ck}{es:List (tM×Bool)}{s s':Scp}
theorem Wd{n}(h:n.op=1):exam c s inn n=jw c s n.name n.pos:=by
 rw[je,Jg zOm,h,show yy 1=false from rfl,Bool.and_false,if_neg zSp,if_pos rfl]
theorem qqA{n k}(h:exam c s true n = .ok k):exam c s inn n = .ok k:=by
 cases inn with
 |true=>exact h
 |false=>exact qcV c (szN n) n s k (qr _) h
theorem kj{n}(g:WfN n)(h:n.op=1):n.sD=[]:=by
 have i:=g.shape;simp_all[shp,if_pos,qu,List.map_eq_nil_iff]
theorem qc0{L n}(i:WfN n)(h:n.op=1)(j:tkn es n.name)(l:ownB n=true):vI es L n:=
 ⟨i,fun x g=>by
  rw[wE,kj i h]at g;simp[zx]at g;subst g;exact⟨zOm,l,.inl j⟩⟩
theorem qc1{n}(g:ownB n=true)(h:wB n.op=true):jf n.name=true:=by
 grind [ownB]
theorem qqB{body env n n' z st l J}(P:c.ts=c0.ts)(j:n.op=1)(C:WfN n)(R:tkn es n.name)(I:ownB n=true)(T:Rl c0 es st.last body s s' env)
  (e:vY env n st = .ok ((n',z),l)) (x:exam c s inn n = .ok J):Out c0 es s' inn n n' J st.last l.last:=by
 rw[Wd j,Z2]at x;have i:=T.rel n.name R;unfold vY at e;cases U:getK n.name env with
 |none =>
  rw[U]at e i;cases e;cases o:lookS n.name s with
  |some k =>
   rw[o]at i x;obtain⟨p,r,t⟩:=i;cases x;exact⟨⟨some p,by rw[Wd j,Z2,r],fun _=>⟨_,_,rfl,rfl,t⟩⟩,qc0 C j R I,rfl,vM _⟩
  |none =>
   rw[o]at x;simp only at x;have hq:lookS n.name s'=none:=by
    cases hq:lookS n.name s' with
    |none=>rfl
    |some q =>
     have:=T.mean _ (Wc hq);rw[P,this]at x;cases x
   refine⟨⟨J,by grind [Wd,Z2],fun _=>?_⟩,qc0 C j R I,rfl,vM _⟩;split at x
   .cases x
   .cases x;exact⟨_,_,rfl,rfl,Sub.refl _⟩
   .cases x
 |some iv =>
  obtain⟨a,g,to⟩:=iv;rw[U]at e i;simp only at e;cases o:lookS n.name s with
  |none=>rw[o]at i;exact i.elim
  |some k =>
   rw[o]at i x;cases x;cases a with
   |none =>
    cases e;obtain⟨⟨p,r,t⟩,e3⟩:=i;refine⟨⟨some p,by rw[Wd (n := .mk n.op to n.n n.sD n.pos) j,Z2];show (match lookS to s' with|some k=>_|none=>_)=_;rw[r],fun _=>⟨_,_,rfl,rfl,t⟩⟩,?_,rfl,vM _⟩;refine cX C rfl (fun k hk=>?_) zOm I (.inr ⟨e3,qc1 I (by rw[j];rfl)⟩);rw[kj C j]at hk;exact absurd hk qH
   |some a =>
    simp only at e;have i:ArgR c0 es st.last s' k a:=i;obtain⟨p,r,t⟩:=i.ex;split at e
    .cases e
     exact⟨⟨some p,qqA r,fun _=>⟨_,_,rfl,rfl,t⟩⟩,i.good,by rw[i.kd,j];rfl,vM _⟩
    .cases e
def OwnV(c0:Ck)(es:List (tM×Bool))(L:Int)(s':Scp):Option Kd->Option IV->Prop
 |none,none=>True
 |some k,some ⟨some a,_,_⟩=>ArgR c0 es L s' k a
 |_,_=>False
theorem OwnV.mono{L L' g i}(h:OwnV c0 es L s' g i)(j:L<=L'):OwnV c0 es L' s' g i:=by
 match g,i with
 |none,none=>exact h
 |none,some _=>exact h.elim
 |some k,none=>exact h.elim
 |some k,some ⟨some a,_,_⟩ =>
  have h:ArgR c0 es L s' k a:=h;exact(⟨h.ex,h.good.mono j,h.kd⟩:ArgR c0 es L' s' k a)
 |some k,some ⟨none,_,l⟩=>exact h.elim
theorem qqC{ns i a}(h:okKd ns a)(g:a.ar=1)(p:uM i a=true):Sub a (kOf [i]):=⟨by rw[g];rfl,fun t j=>by
 obtain⟨l,rfl,o,_⟩:=h.ts t j;rw[g]at o
 match l,o with
 | [y],_ =>
  have:=zo.1 p _ j;simp[pad]at this;subst this;exact qT.2 rfl⟩
theorem qc2{ns F body env pos E P} :
  ∀{ks ps}{own i:IEnv}{sc st g},
  (∀ k,k∈ks->∀ st n' z g P,StOk F st->Rl c0 es st.last body s s' env->E k st = .ok ((n',z),g)->exam c s true k = .ok P->Out c0 es s' true k n' P st.last g.last/\StOk F g) ->
  (∀ k,k∈ks->kd k.op=101)->(∀ k,k∈ks->∀ a,exam c s true k = .ok (some a)->okKd ns a)->StOk F st->Rl c0 es st.last body s s' env ->
  (∀ v,OwnV c0 es st.last s' (lookS v sc) (getK v own))->ps.length=ks.length->yb c s pos ps ks = .ok P->ju E ps ks own st = .ok (i,g) ->
  st.last<=g.last/\∀ v,OwnV c0 es g.last s' (lookS v (ps.foldl (fun s p=>(p.1,kOf [p.2]) :: s) sc)) (getK v i)
 | [],[],own,i,sc,st,g,_,_,_,_,_,U,_,_,e=>by
  cases e;exact⟨vM _,U⟩
 |k :: ks,p :: ps,own,i,sc,st,g,hE,R,j,a0,hr,U,l,x,e=>by
  simp only[yb]at x;simp only[ju]at e;cases hx:exam c s true k with
  |error er=>grind
  |ok ka =>
   cases ka with
   |none=>grind
   |some a =>
    rw[hx]at x;simp only at x;by_cases o:a.ar=1
    .rw [if_pos o]at x
     by_cases r:uM p.2 a=true
     .rw [if_pos r]at x
      split at e
      .cases e
      .rename_i k' m s1 h1
       obtain⟨out,t⟩:=hE k (zj ..) st k' m s1 _ a0 hr h1 hx;obtain⟨a1,x1,x2⟩:=out.ex;have C:=R k (zj ..);obtain⟨q,q',y1,y2,y3⟩:=x2 C;cases y1;subst y2;have hs:=y3.trans (qqC (j k (zj ..) a hx) o r);have I:ArgR c0 es s1.last s' (kOf [p.2]) k':=⟨⟨q',x1,hs⟩,out.good,by rw[out.kd];exact C⟩;have J:∀ v,OwnV c0 es s1.last s' (lookS v ((p.1,kOf [p.2]) :: sc)) (getK v (setK p.1 ⟨some k',m,⟨#[]⟩⟩ own)):=fun v=>by
        rw[Zu,vq];by_cases T:p.1=v
        .rw [if_pos T,if_pos T.symm]
         exact I
        .rw [if_neg T,if_neg (fun e=>T e.symm)]
         exact(U v).mono out.le
       obtain⟨r1,r2⟩:=qc2 (sc:=(p.1,kOf [p.2]) :: sc) (fun k R=>hE k (za _ R)) (fun k h=>R k (za _ h)) (fun k h=>j k (za _ h)) t (hr.mono out.le) J (zUs l) x e;exact⟨zW1 out.le,r2⟩
     grind
    grind
 | [],_ :: _,_,_,_,_,_,_,_,_,_,_,_,l,_,_=>by simp at l
 |_ :: _,[],_,_,_,_,_,_,_,_,_,_,_,l,_,_=>by simp at l
def kl(ts:TS)(es:List (tM×Bool)):Prop:=∀(i:Nat)(j:i<ts.sT.length),(∃ g,exam (mkCk ts i) (yi ts.sT[i].params) false ts.sT[i].body = .ok g)/\30<=ts.sT[i].body.op/\WfN ts.sT[i].body/\Tk es ts.sT[i].body/\OwnT ts.sT[i].body
abbrev ckF(ts:TS):Ck:=mkCk ts ts.sT.length
def IHx(ts:TS)(es:List (tM×Bool))(f:Nat):Prop:=∀(env:IEnv)(n:Nd)(g:Bool)(U:ISt)(l:Nd)(z:Int)(i:ISt)(s o:Scp)(j:Bool)(m:Nat)(p:Option Kd),
 m<=ts.sT.length->WfN n->Tk es n->OwnT n->ScOk ts.sS.length s->StOk (qq ts es) U->zw env->Rl (ckF ts) es U.last g s o env ->
 expI ts es f env n g U = .ok ((l,z),i)->exam (mkCk ts m) s j n = .ok p->Out (ckF ts) es o j n l p U.last i.last
theorem qc3{n}(i:WfN n)(h:30<=n.op):kd n.op=102:=by
 have g:=i.shape;have:n.op<=51:=by
  by_cases j:n.op<=51
  .exact j
  .exfalso
   unfold shp at g;rw[zIn,zIn,zIn,zIn,zIn,zIn,zIn,zIn]at g;cases g
 unfold kd;omega
theorem kn{n}(i:WfN n)(h:n.op=47):∀ k,k∈n.sD->kd k.op=101:=by
 have g:=i.shape;have e:shp n.op n.sD.length=some (qY (min n.sD.length 401) 101):=by
  unfold shp;rw[zIn,zIn,zIn,zIn,zIn,zIn,zIn,if_pos h]
 rw[e]at g;simp only[qu]at g;intro k j;have:kd k.op∈n.sD.map fun k=>kd k.op:=qm.2 ⟨k,j,rfl⟩
 grind
theorem qqD(ts)(h:okTS ts)(es)(hP:kl ts es)(a3:Free ts es)(f)(ih:IHx ts es f)(env n body st n' z g s s' inn m ko)
  (hm:m<=ts.sT.length) (hw:WfN n) (ht:Tk es n) (ho:OwnT n) (hs:ScOk ts.sS.length s) (o:StOk (qq ts es) st) (R:zw env) (hr:Rl (ckF ts) es st.last body s s' env) (h47:n.op=47)
  (e:((match ts.sT.find? fun p=>decide (p.name=n.name) with
    |none=>Except.error (2,0)
    |some p=>v8 (ju (fun k s=>expI ts es f env k body s) p.params n.sD [] st) fun own s'=>expI ts es f own p.body true s'):XR (Nd×Int)) = .ok ((n',z),g))
  (x:exam (mkCk ts m) s inn n = .ok ko):Out (ckF ts) es s' inn n n' ko st.last g.last:=by
 have hc:okCk (mkCk ts m):=uP h hm;rw[je,if_neg (show ¬n.op=1 by omega),if_pos h47]at x;split at x
 .cases x
 rename_i I;split at x
 .cases l:zu (mkCk ts m) n.name with
  |none=>grind
  |some i =>
   obtain⟨T,t⟩:=Zl hc l;have T:i<m:=T;have t:i<ts.sT.length:=t;rw[l]at x;simp only at x;have x:((match ts.sT[i]? with|none=>Except.error (45,n.pos)|some C=>if C.params.length=n.sD.length then yb (mkCk ts m) s n.pos C.params n.sD else .error (45,n.pos)):Res) = .ok ko:=x;rw[qz t]at x;simp only at x;have U:(ts.sT.find? fun p=>decide (p.name=n.name))=some ts.sT[i]:=by
    unfold zu at l;rw[List.findIdx?_eq_some_iff_getElem]at l;obtain⟨hi,a1,a2⟩:=l;rw[List.find?_eq_some_iff_getElem];refine⟨?_,i,t,rfl,fun j hj=>?_⟩
    .have:=a1
     simp only[List.getElem_take]at this;exact this
    .have:=a2 j hj
     simp only[List.getElem_take]at this;have h3:¬decide (ts.sT[j].name=n.name)=true:=this
     grind
   rw[U]at e;simp only at e;obtain⟨⟨kb,hb⟩,a4,a5,ad,ae⟩:=hP i t;have af:=h.pl _ (qp t);generalize ag:ts.sT[i]=C at *
   by_cases P:C.params.length=n.sD.length
   .rw [if_pos P]at x
    obtain⟨own,s1,h1,e⟩:=Jc e;have a6:=kn hw h47;have a7:∀ k,k∈n.sD->∀ st n' z g,StOk (qq ts es) st->expI ts es f env k body st = .ok ((n',z),g)->StOk (qq ts es) g:=fun k J st n' z g o e=>(jV ts a3 f o R e).ok o
    obtain⟨g1,g2⟩:=qc2 (c:=mkCk ts m) (c0:=ckF ts) (ns:=ts.sS.length) (F:=qq ts es) (body:=body) (s:=s) (s':=s') (env:=env) (sc:=[]) (own:=[])
     (fun k J st n' z g ko o hr e x=>⟨ih env k body st n' z g s s' true m ko hm (hw.kid J) (ht.kid J) (ho.kid J) hs o R hr e x,a7 k J st n' z g o e⟩)
     a6 (fun k J a hx=>by
      obtain⟨q,e1,e2⟩:=uj hc (szN k) k s true _ (qr _) (hw.kid J) hs hx (a6 k J);cases e1;exact e2)
     o hr (fun v=>trivial) P x h1
    obtain⟨a8,ah⟩:=KY (F:=qq ts es) (fun k n' z s s' _ hs hE=>jV ts a3 f hs R hE) o .nil h1;have a9:=ah.ok o;have ai:Rl (ckF ts) es s1.last true (yi C.params) s' own:=⟨hr.mean,fun v hv=>by
     have:=g2 v;have:OwnV (ckF ts) es s1.last s' (lookS v (yi C.params)) (getK v own):=this;generalize lookS v (yi C.params)=lk at *
     generalize getK v own=iv at *
     match lk,iv with
     |none,none=>trivial
     |some k,some ⟨some a,_,_⟩=>exact this
     |none,some _=>exact this.elim
     |some k,none=>exact this.elim
     |some k,some ⟨none,_,_⟩=>exact this.elim,fun aj=>by cases aj⟩
    have aa:ScOk ts.sS.length (yi C.params):=Kr ⟨zOm,af.2⟩;have ak:exam (mkCk ts i) (yi C.params) inn C.body = .ok kb:=by
     cases ab:inn with
     |false=>exact hb
     |true =>
      rw[<-hb];refine qcW _ (szN C.body) C.body _ _ _ (qr _) ?_;rw[ab]at I;have a0:zY (mkCk ts m) n.op n.name=false:=by simpa using I
      unfold zY at a0;rw[l,h47]at a0;have:=Wa ts i m T hm t;rw[ag]at this;rw[<-this];have an:(yy 47||(decide ((47:Int)=47)&&(tmsL ts m).getD i false))=false:=a0
      grind
    have out:=ih own C.body true s1 n' z g (yi C.params) s' inn i kb zOm a5 ad ae aa a9 a8 ai e ak;obtain⟨al,x1,_⟩:=out.ex;refine⟨⟨al,x1,fun J=>?_⟩,out.good,?_,zW1 out.le⟩
    .rw [h47]at J;exact absurd J zDe
    .rw [out.kd,qc3 a5 a4,h47];rfl
   grind
 .cases x
theorem qc4{n}(i:WfN n)(h:n.op=5\/n.op=11\/n.op=12\/n.op=13):(n.sD.map fun k=>kd k.op)=[101]:=by
 have g:=i.shape;unfold shp at g;rw[zIn,if_pos zOm]at g
 grind
theorem qqE{n}(i:WfN n)(h:n.op=6\/n.op=14\/n.op=7\/n.op=8\/n.op=32\/n.op=33\/n.op=9\/n.op=10):(n.sD.map fun k=>kd k.op)=[101,101]:=by
 have g:=i.shape;unfold shp at g;rw[zIn,zIn,if_pos zOm]at g
 grind
theorem We{n}(i:WfN n)(h:n.op=15\/n.op=45\/n.op=46):∃ a f,n.sD=[a,f]/\kd a.op=101:=by
 have g:=i.shape;unfold shp at g;rw[zIn,zIn,zIn,if_pos zOm]at g;simp only[qu]at g
 match j:n.sD,g with
 | [a,f],g =>
  grind
 | [],g=>simp at g
 | [_],g=>simp at g
 |_ :: _ :: _ :: _,g=>simp at g
theorem qqF(ts)(h:okTS ts)(es)(a1:Free ts es)(f)(ih:IHx ts es f)(env n body st P t z o s s' inn m ko)
  (hm:m<=ts.sT.length) (J:WfN n) (ht:Tk es n) (ho:OwnT n) (hs:ScOk ts.sS.length s) (j:StOk (qq ts es) st) (R:zw env) (hr:Rl (ckF ts) es st.last body s s' env) (h47:n.op≠47) (h1:n.op≠1) (hb:¬(n.op=15\/n.op=45\/n.op=46))
  (e:yN (fun env k s=>expI ts es f env k body s) (fun env nm s=>renI ts es env nm body s) (binB n.op) 0 env n.name n.sD st = .ok ((P,t,z),o))
  (x:exam (mkCk ts m) s inn n = .ok ko):Out (ckF ts) es s' inn n (.mk n.op P n.n t n.pos) ko st.last o.last:=by
 have hc:okCk (mkCk ts m):=uP h hm;have a2:binB n.op=false:=by
  simp_all[binB,not_or]
 rw[a2]at e;rw[je,Jg h47,if_neg h1,if_neg h47,if_neg hb]at x;split at x
 .cases x
 rename_i a3;have p:=x;clear x;generalize hB:(inn||decide (n.op=12)||decide (n.op=13))=B at p;cases hl:zd (mkCk ts m) s B n.sD with
 |error er=>grind
 |ok l =>
  rw[hl]at p;simp only at p;obtain⟨rfl,a4,l',a6,C⟩:=qcZ (c:=mkCk ts m) (c0:=ckF ts) (F:=qq ts es) (body:=body) (s:=s) (s':=s') (env:=env)
   (fun k hk st n' z o ko j hr e x=>⟨ih env k body st n' z o s s' B m ko hm (J.kid hk) (ht.kid hk) (ho.kid hk) hs j R hr e x,(jV ts a1 f j R e).ok j⟩) j hr e hl
  obtain⟨T,I⟩:=C.spec;have U:=J6 hl;obtain⟨a5,y1,y2⟩:=qp1 (ns:=ts.sS.length) h.ns (op:=n.op) (num:=n.n) (pos:=n.pos) (l:=l) (l':=l') h1 (fun e=>hb (.inl e)) (fun g=>by
    obtain⟨a,a',rfl,rfl,e3⟩:=C.one (qc4 J g);refine⟨a,a',rfl,rfl,e3,?_⟩;have i:=qc4 J g
    match a0:n.sD,i with
    | [k],i =>
     rw[a0]at U;have hx:=U.2 0 k (some a) rfl rfl;obtain⟨q,e1,e2⟩:=uj hc (szN k) k s B _ (qr _) (J.kid (by rw[a0];simp)) hs hx (zUs i);cases e1;exact e2
    | [],i=>simp at i
    |_ :: _ :: _,i=>simp at i)
   (fun g=>C.two (qqE J g)) p
  refine⟨⟨a5,?_,y2⟩,cX J T I h47 (ho n (uq n)) (.inl ⟨rfl,ht n (uq n)⟩),rfl,a4⟩;rw[je];show (if (inn&&zY (ckF ts) n.op n.name)=true then _ else if n.op=1 then _ else if n.op=47 then _ else if n.op=15\/n.op=45\/n.op=46 then _ else match zd (ckF ts) s' (inn||decide (n.op=12)||decide (n.op=13)) t with | .error e=>_ | .ok l=>yf ts.sS.length n.op n.n n.pos l)=_;simp_all[Jg,if_neg]
theorem qqG(ts)(h:okTS ts)(es)(hF:qq ts es<=200000)(o:Free ts es)(f)(ih:IHx ts es f)(env n body st l a0 z J s s' inn m ko)
  (hm:m<=ts.sT.length) (hw:WfN n) (ht:Tk es n) (ho:OwnT n) (hs:ScOk ts.sS.length s) (P:StOk (qq ts es) st) (ag:(qq ts es:Nat)<=pot (qq ts es) st) (r:zw env) (hr:Rl (ckF ts) es st.last body s s' env) (hb:n.op=15\/n.op=45\/n.op=46)
  (e:yN (fun env k s=>expI ts es f env k body s) (fun env nm s=>renI ts es env nm body s) (binB n.op) 0 env n.name n.sD st = .ok ((l,a0,z),J))
  (x:exam (mkCk ts m) s inn n = .ok ko):Out (ckF ts) es s' inn n (.mk n.op l n.n a0 n.pos) ko st.last J.last:=by
 have hc:okCk (mkCk ts m):=uP h hm;have a7:binB n.op=true:=by
  grind [binB]
 have h47:n.op≠47:=zOm;have h1:n.op≠1:=zOm;rw[a7]at e;rw[je,Jg h47,if_neg h1,if_neg h47,if_pos hb]at x;split at x
 .cases x
 rename_i R;obtain⟨a,g,t,a1⟩:=We hw hb;have ma:a∈n.sD:=by rw[t];simp
 have mg:g∈n.sD:=by rw[t];simp
 rw[t]at e x;generalize hB:(inn||decide (n.op=15))=B at x;simp only[yh,zd]at x;simp only[yN,yd,true_and,Nat.zero_ne_one,if_false,if_true]at e;cases T:exam (mkCk ts m) s B a with
 |error er=>grind
 |ok ka =>
  cases ka with
  |none=>grind
  |some k =>
   rw[T]at x;simp only at x;by_cases U:k.ar=1
   .rw [if_pos U]at x
    split at e
    .cases e
    .rename_i a' m1 s1 e1
     have out:=ih env a body st a' m1 s1 s s' B m _ hm (hw.kid ma) (ht.kid ma) (ho.kid ma) hs P r hr e1 T;have a2:=jV ts o f P r e1;have i:=a2.ok P;obtain⟨ai,x1,x2⟩:=out.ex;obtain⟨q,k',y1,y2,y3⟩:=x2 a1;cases y1;subst y2;obtain⟨q,y4,a8⟩:=uj hc (szN a) a s B _ (qr _) (hw.kid ma) hs T a1;cases y4;have C:=Vj o (env:=env) (nm:=n.name) (body:=body) i.l0;have a3:=Vi (ts:=ts) (es:=es) (nm:=n.name) (body:=body) (s:=s1) r;have a9:=i.last;obtain⟨w1,w2,I⟩:=Rl.bind (c0:=ckF ts) (st:=s1) (nm:=n.name) (k:=k) (k':=k') o r.nd (hr.mono out.le) i.l0 (by show s1.last+(qq ts es:Nat)<_;omega) (ht n (uq n)) y3;have w1:Rl (ckF ts) es (renI ts es env n.name body s1).2.last body ((n.name,k) :: s) (((renI ts es env n.name body s1).1.2,k') :: s') (renI ts es env n.name body s1).1.1:=w1;have w2:s1.last<=(renI ts es env n.name body s1).2.last:=w2;have I:tkn es (renI ts es env n.name body s1).1.2\/vLe es (renI ts es env n.name body s1).2.last (renI ts es env n.name body s1).1.2:=I;have w4:(renI ts es env n.name body s1).1.2=n.name\/vLe es (renI ts es env n.name body s1).2.last (renI ts es env n.name body s1).1.2:=by
      rcases I with I|I
      .left
       unfold renI at I⊢;split
       .rename_i aa
        rw[if_pos aa]at I;exfalso;have ab:=o s1.last i.l0;have ad:=ki ab;simp_all[yG,qE,decide_eq_true_eq]
       .rfl
      grind
     generalize ah:renI ts es env n.name body s1=ae at *
     obtain⟨⟨a4,aj⟩,s2⟩:=ae;simp only at C a3 w1 w2 I w4 e;have a5:StOk (qq ts es) s2:=⟨C.1,by rw[C.2.2];exact i.c0,by rw[C.2.2];exact i.c1,by
      have:=a2.p
      grind [pot]⟩
     split at e
     .cases e
     .rename_i ak al m3 s3 e3
      split at e3
      .cases e3
      .rename_i g' m2 s4 e2
       cases e3;cases e;cases a6:exam (mkCk ts m) ((n.name,k) :: s) B g with
       |error er=>grind
       |ok kg =>
        rw[a6]at x;cases x;have af:ScOk ts.sS.length ((n.name,k) :: s):=fun v hv=>by
         rcases qw.1 hv with rfl|hv
         .exact ⟨a8,U⟩
         .exact hs v hv
        have j:=ih a4 g body s2 g' m2 J ((n.name,k) :: s) ((l,k') :: s') B m _ hm (hw.kid mg) (ht.kid mg) (ho.kid mg) af a5 a3 w1 e2 a6;obtain⟨an,z1,_⟩:=j.ex;refine⟨⟨some k',?_,fun _=>⟨k,k',rfl,rfl,y3⟩⟩,?_,rfl,zW2 out.le j.le⟩
        .rw [je]
         show (if (inn&&zY (ckF ts) n.op l)=true then _ else if n.op=1 then _ else if n.op=47 then _ else if n.op=15\/n.op=45\/n.op=46 then yh (ckF ts) s' (inn||decide (n.op=15)) l n.pos [a',g'] else _)=_;rw[Jg h47,if_neg R,if_neg h1,if_neg h47,if_pos hb,hB];simp only[yh,zd];rw[x1];simp only;rw[if_pos (by rw[y3.1];exact U),z1]
        .refine cX hw (by rw[t];simp[out.kd,j.kd]) (fun y hy=>?_) h47 (ho n (uq n)) ?_
         .rcases qw.1 hy with rfl|hy
          .exact out.good.mono (zW1 j.le)
          .rw [qT]at hy;subst hy;exact j.good
         .rcases w4 with w4|w4
          .exact .inl ⟨w4,by rw[w4];exact ht n (uq n)⟩
          .exact .inr ⟨w4.mono j.le,qc1 (ho n (uq n)) (by unfold wB;rcases hb with h|h|h<;>simp[h])⟩
   grind
theorem qc5(ts)(h:okTS ts)(es)(hP:kl ts es)(J:qq ts es<=200000)(i:Free ts es):∀ f,IHx ts es f
 | 0=>fun env n body st n' z j s s' inn m P _ _ _ _ _ _ _ _ e _=>by cases e
 |f+1=>fun env n body st n' z j s s' inn m P hm R T U hs g r hr e x=>by
  have ih:=qc5 ts h es hP J i f;simp only[expI]at e;split at e
  .rename_i hc
   have hp:=Qr g (n:=1) zOm hc;have l:=hp.ok g;have o:Rl (ckF ts) es (payS 1 st).last body s s' env:=hr;have t:st.last=(payS 1 st).last:=rfl;rw[t];split at e
   .rename_i h1
    exact qqB (c:=mkCk ts m) (c0:=ckF ts) rfl h1 R (T n (uq n)) (U n (uq n)) o e x
   .rename_i h1
    split at e
    .grind [qqD,payS]
    .rename_i h47
     obtain⟨⟨C,I,z'⟩,s1,e1,e2⟩:=Jc e;cases e2;by_cases hb:n.op=15\/n.op=45\/n.op=46
     .refine qqG ts h es J i f ih env n body (payS 1 st) C I z' j s s' inn m P hm R T U hs l ?_ r o hb e1 x
      rw[Z3];have:=g.p;omega
     grind [qqF,payS]
  .cases e
end
end PE
namespace ED
end ED
namespace EG
end EG
namespace PG
open Y1 Y2 P1 P2 Y9 YZ
section
variable {nm:tM}
theorem qqH{ns op n pos l e}(h:yf ns op n pos l = .error e):40<=e.1:=by
 unfold yf at h
 repeat' split at h
 all_goals first
  | (cases h;done)
  | (cases h;simp)
theorem qqI{c s pos e}(h:jw c s nm pos = .error e):40<=e.1:=by
 unfold jw at h
 repeat' split at h
 all_goals first
  | (cases h;done)
  | (cases h;simp)
section
variable {c:Ck}
theorem kq{inn}:∀{ks s e},(∀ k,k∈ks->∀ s e,exam c s inn k = .error e->40<=e.1)->zd c s inn ks = .error e->40<=e.1
 | [],s,e,_,h=>by simp only[zd]at h;cases h
 |k :: ks,s,e,i,h=>by
  simp only[zd]at h;split at h
  .rename_i j g
   cases h;exact i k (zj ..) s _ g
  .split at h
   .rename_i j g
    cases h;exact kq (fun k l=>i k (za _ l)) g
   .cases h
theorem qc6{pos}:∀{ks ps s e},(∀ k,k∈ks->∀ s e,exam c s true k = .error e->40<=e.1)->yb c s pos ps ks = .error e->40<=e.1
 | [],ps,s,e,_,h=>by cases ps<;>(simp only[yb]at h;cases h)
 |k :: ks,[],s,e,_,h=>by simp only[yb]at h;cases h
 |k :: ks,p :: ps,s,e,g,h=>by
  simp only[yb]at h;split at h
  .rename_i l i
   cases h;exact g k (zj ..) s _ i
  .cases h;simp
  .split at h
   .split at h
    .exact qc6 (fun k j=>g k (za _ j)) h
    .cases h;simp
   .cases h;simp
theorem qqJ{inn pos}:∀{ks s e},(∀ k,k∈ks->∀ s e,exam c s inn k = .error e->40<=e.1)->yh c s inn nm pos ks = .error e->40<=e.1
 | [],s,e,_,h=>by simp only[yh]at h;cases h
 |k :: ks,s,e,i,h=>by
  simp only[yh]at h;split at h
  .rename_i j g
   cases h;exact i k (zj ..) s _ g
  .cases h;simp
  .split at h
   .split at h
    .rename_i j g
     cases h;exact kq (fun k l=>i k (za _ l)) g
    .cases h
   .cases h;simp
theorem Vn(c):∀ m n s inn e,szN n<=m->exam c s inn n = .error e->40<=e.1
 | 0,n,_,_,_,j,_=>by obtain⟨op,nm,i,ks,p⟩:=n;simp[szN]at j
 |m+1,n,s,inn,e,j,h=>by
  have g:∀ inn k,k∈n.sD->∀ s e,exam c s inn k = .error e->40<=e.1:=fun inn k l s e h=>Vn c m k s inn e (zW1 (yr l)) h
  rw[je]at h;split at h
  .cases h;simp
  split at h
  .exact qqI h
  split at h
  .split at h
   .split at h
    .cases h;simp
    .split at h
     .cases h;simp
     .split at h
      .exact qc6 (g true) h
      .cases h;simp
   .cases h;simp
  split at h
  .exact qqJ (g _) h
  .split at h
   .rename_i r o
    cases h;exact kq (g _) o
   .exact qqH h
end
end
theorem qc7{ks k}(h:k∈ks):depN k<=yw ks:=by
 induction ks with
 |nil=>simp at h
 |cons a l g =>
  simp only[yw];rcases qw.1 h with rfl|h
  .omega
  .have:=g h;omega
theorem qc8(n):1<=depN n:=by
 rw[Zs];have:∀ ks:List Nd,0<=yw ks:=by
  intro ks;induction ks with
  |nil=>simp[yw]
  |cons a l g=>simp only[yw];omega
 have:=this n.sD;omega
end PG
namespace PF
open P1 P2 Y1 Y2 Y9 Y16 YZ YB YC YE YG Q2 Q4 Q6 PC PE PG
mutual
theorem ku:∀(n:Nd)(left:Int),cntT n<=left->cntN n left=cntT n
 | .mk op o i ks p,left,h=>by
  simp only[cntT,cntN]at h⊢;exact qc9 ks left 1 h
theorem qc9:∀(ks:List Nd)(left sum:Int),sum+jj ks<=left->y5 ks left sum=sum+jj ks
 | [],left,sum,h=>by simp only[jj,y5];omega
 |k :: ks,left,sum,h=>by
  simp only[jj,y5]at h⊢;have g:=K2 k;have i:=U2 ks;rw[if_pos zOm,ku k (left-sum) zOm,qc9 ks left _ zOm];omega
end
mutual
theorem qdA:∀(n:Nd)(left:Int),cntN n left<=left->cntT n<=left
 | .mk op o i ks p,left,h=>by
  simp only[cntT,cntN]at h⊢;exact qdB ks left 1 h
theorem qdB:∀(ks:List Nd)(left sum:Int),y5 ks left sum<=left->sum+jj ks<=left
 | [],left,sum,h=>by simp only[jj,y5]at h⊢;omega
 |k :: ks,left,sum,h=>by
  simp only[jj,y5]at h⊢;split at h
  .have i:=(Ku ks left (sum+cntN k (left-sum))).1
   have g:cntN k (left-sum)<=left-sum:=zOm;have j:=ku k (left-sum) (qdA k _ g);have l:=qdB ks left _ h;omega
  .omega
end
section
variable {c:Ck}
theorem qqK{ks d}(g:0<=d)(h:∀ k,k∈ks->depN k<=d):yw ks<=d:=by
 induction ks with
 |nil=>grind [yw]
 |cons a l i =>
  grind [yw,zj,za]
theorem qqL{ks g}(h:∀ k,k∈ks->forN k g=true):uR ks g=true:=by
 induction ks with
 |nil=>rfl
 |cons a l i =>
  simp_all[uR,qE,zj,za]
theorem qdD:∀ m n g,szN n<=m->WfN n->OwnT n->depN n<=g->forN n g=true
 | 0,n,_,l,_,_,_=>by obtain⟨op,nm,i,ks,p⟩:=n;simp[szN]at l
 |m+1,n,g,l,o,r,t=>by
  have C:=qc8 n;rw[J8,zIn,r n (uq n),Bool.true_and,qE];refine⟨?_,qqL fun k j=>qdD m k (g-1) (zW1 (yr j)) (o.kid j) (r.kid j) ?_⟩
  .unfold fitB
   rw[decide_eq_true_eq];exact o.shape
  .have:=qc7 j
   rw[Zs]at t;omega
theorem qdE:∀ m n l,szN n<=m->forN n l=true->OwnT n/\depN n<=l
 | 0,n,_,o,_=>by obtain⟨op,nm,i,ks,p⟩:=n;simp[szN]at o
 |m+1,n,l,o,h=>by
  rw[J8]at h;split at h
  .cases h
  .rename_i I
   simp only[qE]at h;obtain⟨t,J,C⟩:=h;have r:=fun k (g:k∈n.sD)=>qdE m k (l-1) (zW1 (yr g)) (Kw C k g)
   refine⟨fun x j=>?_,?_⟩
   .rw [wE]at j
    rcases qw.1 j with rfl|j
    .exact t
    .obtain ⟨k,g,j⟩:=Wb j
     exact(r k g).1 x j
   .rw [Zs]
    have:=qqK (ks:=n.sD) (d:=l-1) zOm fun k g=>(r k g).2
    omega
theorem wI{n}:zc n=true↔WfN n/\OwnT n/\cntT n<=400/\depN n<=24:=by
 constructor
 .intro h
  have l:=ul h;simp only[zc,qE,decide_eq_true_eq]at h;obtain⟨a,b⟩:=qdE (szN n) n 24 (qr _) h.2;simp_all[qdA]
 .rintro ⟨g,i,o,j⟩
  simp only[zc,qE,decide_eq_true_eq];exact⟨by grind [ku],qdD (szN n) n 24 (qr _) g i j⟩
theorem qdF{nm i}(h:zu c nm=some i)(g):(c.ts.sT.find? fun p=>decide (p.name=nm))=some c.ts.sT[i]:=by
 unfold zu at h;rw[List.findIdx?_eq_some_iff_getElem]at h;obtain⟨l,o,r⟩:=h;rw[List.find?_eq_some_iff_getElem];refine⟨?_,i,g,rfl,fun j t=>?_⟩
 .grind
 grind
theorem qdG{s pos}:∀{ks ps l},ps.length=ks.length->yb c s pos ps ks = .ok l->∀ k,k∈ks->∃ a,exam c s true k = .ok a
 | [],_,_,_,_,k,g=>absurd g qH
 |k :: ks,[],_,i,_,_,_=>by simp at i
 |k :: ks,p :: ps,l,i,h,x,j=>by
  simp only[yb]at h;split at h
  .cases h
  .cases h
  .rename_i a g
   split at h
   .split at h
    .rcases qw.1 j with rfl|j
     .exact ⟨_,g⟩
     .exact qdG (zUs i) h x j
    .cases h
   .cases h
theorem kv{s inn}:∀{ks l},zd c s inn ks = .ok l->∀ k,k∈ks->∃ a,exam c s inn k = .ok a
 | [],_,_,k,g=>absurd g qH
 |k :: ks,l,h,x,i=>by
  simp only[zd]at h;split at h
  .cases h
  .rename_i a g
   split at h
   .cases h
   .rename_i o j
    rcases qw.1 i with rfl|i
    .exact ⟨_,g⟩
    .exact kv j x i
theorem kw(hc:okCk c):∀ m n s inn o,szN n<=m->exam c s inn n = .ok o->WfN n->yO c.ts n
 | 0,n,_,_,_,hm,_,_=>by obtain⟨op,nm,i,ks,p⟩:=n;simp[szN]at hm
 |m+1,n,s,inn,o,hm,h,U=>fun x j ho=>by
  have ih:∀ k,k∈n.sD->∀ s inn o,exam c s inn k = .ok o->yO c.ts k:=fun k t s inn o h=>kw hc m k s inn o (zW1 (yr t)) h (U.kid t)
  rw[je]at h;rw[wE]at j;split at h
  .cases h
  by_cases h1:n.op=1
  .rw [kj U h1]at j
   rcases qw.1 j with rfl|j
   .omega
   .simp [zx]at j
  rw[if_neg h1]at h;have C:∀(s:Nd->Scp)(inn:Nd->Bool),(∀ k,k∈n.sD->∃ o,exam c (s k) (inn k) k = .ok o)->x∈zx n.sD->∃ p,(c.ts.sT.find? fun p=>decide (p.name=x.name))=some p/\p.params.length=x.sD.length:=fun s inn t j=>by
   obtain⟨k,I,j⟩:=Wb j;obtain⟨o,a0⟩:=t k I;exact ih k I _ _ _ a0 x j ho
  by_cases h47:n.op=47
  .rw [if_pos h47]at h
   split at h
   .split at h
    .cases h
    .rename_i i J
     obtain⟨_,a1⟩:=Zl hc J;rw[qz a1]at h;simp only at h;split at h
     .rename_i P
      rcases qw.1 j with rfl|j
      .grind [qdF]
      .exact C (fun _=>s) (fun _=>true) (qdG P h) j
     .cases h
   .cases h
  rw[if_neg h47]at h;have j:x∈zx n.sD:=by
   rcases qw.1 j with rfl|j
   .omega
   .exact j
  by_cases R:n.op=15\/n.op=45\/n.op=46
  .rw [if_pos R]at h
   obtain⟨a,g,r,_⟩:=We U R;rw[r]at h;simp only[yh]at h;split at h
   .cases h
   .cases h
   .rename_i k t
    split at h
    .split at h
     .cases h
     .rename_i l hl
      obtain⟨y,T,j⟩:=Wb j;rw[r]at T;rcases qw.1 T with rfl|T
      .exact ih y (by rw[r];simp) _ _ _ t x j ho
      .rw [qT]at T
       subst T;obtain⟨b,R⟩:=kv hl y zSp;exact ih y (by rw[r];simp) _ _ _ R x j ho
    .cases h
  .rw [if_neg R]at h
   split at h
   .cases h
   .rename_i l hl
    exact C (fun _=>s) (fun _=>_) (fun k t=>kv hl k t) j
theorem Wf{env n}(h:(jI c env n).1=0):30<=n.op/\∃ g,exam c (yi env) false n = .ok g:=by
 unfold jI at h;split at h
 .rename_i i
  refine⟨i,?_⟩;cases j:exam c (yi env) false n with
  |ok g=>exact⟨g,rfl⟩
  |error e =>
   rw[j]at h;have:=PG.Vn c (szN n) n _ _ e (qr _) j;have h:e.1=0:=h;omega
 omega
theorem qdH{ts}(h:jq ts=[])(i g):(jI (mkCk ts i) ts.sT[i].params ts.sT[i].body).1=0:=by
 simp_all[jq,List.append_eq_nil_iff,List.flatMap_eq_nil_iff,z7,vX,qz,rp]
theorem kx(l):∀ es nm,(getK nm es=some true\/∃ x,x∈l/\x.name=nm)->getK nm (putN es l)=some true:=by
 induction l with
 |nil =>
  intro es nm h;rcases h with h|⟨x,g,_⟩
  .exact h
  .exact absurd g qH
 |cons a l i =>
  intro es nm h;refine i _ nm ?_;rw[vq];by_cases e:nm=a.name
  .rw [if_pos e];exact .inl rfl
  .rw [if_neg e]
   rcases h with h|⟨x,g,j⟩
   .exact .inl h
   .rcases qw.1 g with rfl|g
    .grind
    grind
theorem qqM(ts n):Tk (yT ts n) n/\∀ p,p∈ts.sT->Tk (yT ts n) p.body:=by
 have j:∀(l:List Pd)(T:List (tM×Bool))(o:tM),(getK o T=some true\/∃ p,p∈l/\∃ x,x∈preN p.body/\x.name=o)->getK o (l.foldl (fun T p=>putN T (preN p.body)) T)=some true:=by
  intro l;induction l with
  |nil =>
   simp
  |cons a l r =>
   intro T o h;refine r _ o ?_;rcases h with h|⟨p,g,i⟩
   .grind [kx]
   .rcases qw.1 g with rfl|g
    .grind [kx]
    grind
 refine⟨fun x i=>j _ _ _ (.inl (kx _ _ _ (.inr ⟨x,i,rfl⟩))),fun p g x i=>j _ _ _ (.inr ⟨p,g,x,i,rfl⟩)⟩
theorem qdI(l):∀ es,(putN es l).length<=es.length+l.length:=by
 have i:∀(es:List (tM×Bool))(k:tM),(setK k true es).length<=es.length+1:=by
  intro es k;induction es with
  |nil=>simp[setK]
  |cons a es g=>grind [setK]
 induction l with
 |nil=>grind [putN]
 |cons a l g =>
  grind [setK,putN,zz]
mutual
theorem Vo:∀ n:Nd,((preN n).length:Int)=cntT n
 | .mk op nm i ks p=>by simp only[preN,cntT,zz];have:=qdJ ks;omega
theorem qdJ:∀ ks:List Nd,((zx ks).length:Int)=jj ks
 | []=>rfl
 |k :: ks=>by simp only[zx,jj,q8];have:=Vo k;have:=qdJ ks;omega
end
end
theorem ky{ts}(h:okTS ts)(g:∀ p,p∈ts.sT->zc p.body=true){n}(i:zc n=true):qq ts (yT ts n)<=200000:=by
 have j:∀(l:List Pd)(T:List (tM×Bool)),(∀ p,p∈l->zc p.body=true)->(l.foldl (fun T p=>putN T (preN p.body)) T).length<=T.length+400*l.length:=by
  intro l;induction l with
  |nil=>intro T _;simp
  |cons a l o =>
   grind [putN,preN,za,qdI,Vo,wI,zj]
 have r:=j ts.sT (putN [] (preN n)) g;have t:=qdI (preN n) [];have C:=Vo n;have I:=(wI.1 i).2.2.1;have:=h.np;have:=h.nf;have:=h.ns
 grind [qq,yT,List.length_nil]
theorem qqN{ts}(h:okTS ts)(hb:∀ p,p∈ts.sT->zc p.body=true)(hk:jq ts=[]){n x}(P:zc n=true)(hc:(yj ts [] n).1=0)(o:anyN (fun n=>decide (n.op=47)) n=true)(l:yn ts n=(x,0)) :
  zc x=true/\anyN (fun n=>decide (n.op=47)) x=false/\yj ts [] x=(0,0)/\yn ts x=(x,0):=by
 have R:=ul P;have U:=(wI.1 P).2.1;have hF:=ky h hb P;obtain⟨t1,t2⟩:=qqM ts n;generalize a0:yT ts n=T at *
 have hP:kl ts T:=fun i l=>by
  have hm:=qp l;obtain⟨a,b⟩:=Wf (qdH hk i l)
  grind [ul,wI]
 unfold yn at l;rw[if_neg (zUs hc),if_neg (by simp[o]),a0]at l;unfold outI at l;split at l
 .rename_i d hd
  exfalso;have h1:=qcK hd
  grind
 .rename_i j g
  have e:j=x:=congrArg Prod.fst l;subst e;split at g
  .cases g
  .rename_i n2 z a1 I
   split at g
   .rename_i hz
    cases g;obtain⟨a2,ko,t⟩:=Wf (c:=mkCk ts ts.sT.length) (env:=[]) hc;have a3:StOk (qq ts T) ⟨0,0⟩:=⟨zSp,zSp,zSp,by simp[pot]⟩;have out:=qc5 ts h T hP hF (K5 ts T) 4001 [] n false ⟨0,0⟩ j z a1 [] [] false ts.sT.length ko (qr _) R t1 U (fun v J=>absurd J qH) a3 .nil
     ⟨fun v J=>absurd J qH,fun v _=>trivial,fun _ v iv e=>by cases e⟩ I t
    obtain⟨a6,a7⟩:=Jd ts (fun p hp=>ul (hb p hp)) T 4001 (env:=[]) (fun e I=>absurd I qH) R I;have J:zc j=true:=wI.2 ⟨out.good.wf,fun x t=>(out.good.all x t).own,zOm,hz.2⟩;have a8:anyN (fun n=>decide (n.op=47)) j=false:=by
     rw[U4 _ (szN j) j (qr _),List.any_eq_false];intro x t;have:=(out.good.all x t).nc
     grind
    have a5:kd j.op=102:=by rw[out.kd];exact qc3 R a2
    have C:30<=j.op:=by
     grind [kd]
    obtain⟨a4,r,_⟩:=out.ex;have a9:yj ts [] j=(0,0):=by
     unfold yj jI;rw[if_pos C];have r:exam (mkCk ts ts.sT.length) (yi []) false j = .ok a4:=r;rw[r];rfl
    simp_all[yn,if_neg,if_pos]
   .cases g
end PF
namespace EH
end EH
namespace FJ
end FJ
namespace IA
open Y1 YG E3 FC
def hV(x:Mo)(n:Nd):Bool×Int:=Zq (yn x.ts) x (x.ts.sP.map Prod.snd++[n]) true
end IA
namespace QC
end QC
namespace QD
open YF P1 Y1 Y2
section
variable {nm:tM}{x:tM×Bool}{c:List AV}{i:Nat}
def atF(a:Int):List Int->Int
 | []=>a
 |x :: l=>atF (qo.wrap (qo.wrap (4*a)+x)) l
def zs:List AV:=qY 64 (aB false)
def oneC(l:List Int):List AV:=aI l.length :: (if 0<=atF 0 l/\atF 0 l<64 then zs.set (atF 0 l).toNat (aB true) else zs)
structure SetC (c:List AV):Prop where
 len:c.length=65
 sc:∀ x,x∈c->x.one=true/\HF x
theorem SetC.one(h:SetC c):∀ x,x∈c->x.one=true:=fun x g=>(h.sc x g).1
theorem SetC.hf(h:SetC c):HF (.agg c):=HF.agg fun x g=>(h.sc x g).2
theorem SetC.take(h:SetC c):List.take 65 c=c:=zQ (by rw[h.len];omega)
theorem SetC.put{d}(h:SetC c)(g:SetC d):putCells c 0 d=d:=by
 rw[y8 _ _ _ (by rw[h.len,g.len];omega)];simp[h.len,g.len,List.drop_of_length_le]
theorem SetC.zero:SetC (aI 0 :: zs):=⟨rfl,fun x g=>by
 rcases qw.1 g with rfl|g
 .exact ⟨rfl,HF.sc _⟩
 .rw [List.eq_of_mem_replicate g];exact⟨rfl,HF.sc _⟩⟩
theorem SetC.oneC(l):SetC (oneC l):=by
 have i:∀ x:AV,x∈zs->x.one=true/\HF x:=fun x g=>by rw[List.eq_of_mem_replicate g];exact⟨rfl,HF.sc _⟩
 unfold QD.oneC;split
 .refine ⟨by simp[zs],fun x g=>?_⟩
  rcases qw.1 g with rfl|g
  .exact ⟨rfl,HF.sc _⟩
  .rcases List.mem_or_eq_of_mem_set g with h|rfl
   .exact i x h
   .exact ⟨rfl,HF.sc _⟩
 .refine ⟨by simp[zs],fun x g=>?_⟩
  rcases qw.1 g with rfl|g
  .exact ⟨rfl,HF.sc _⟩
  .exact i x g
theorem oneU(l)(hl:l.length<=140737488351232):qh qb 149 [lI l] (.agg (oneC l)):=by
 have g:=SetC.oneC l;generalize C:oneC l=R at *
 unfold oneC at C;refine qSU call149 func149 rfl ?_;have i:zs.length=64:=rfl;refine aK l.length (fun k U=>∃ a:Int,U.tm 0=lI l/\U.tm 2 = .ptr 0 0/\U.tm 3 = .ptr 1 0/\U.tm 4=aI a/\U.tm 5=aI k/\U.mu=[.arr (aI 0 :: zs),.arr (aI l.length :: zs)]/\atF a (l.drop k)=atF 0 l) ?_ ?_
 .exact ⟨0,zSi,zSi,zSi,zSi,zSi,by simp[go_sem,zs,qY],rfl⟩
 rintro k U hk ⟨a,I,r,e3,e4,e5,hm,hI⟩;by_cases J:k<l.length
 .have w1:=zWk k
  rw[zp J]at hI;simp[go_sem,I,e4,e5,hm,J,w1];exact aA ⟨_,zS1 I,zS1 r,zS1 e3,zSi,zSi,zSi,hI⟩
 have a0:k=l.length:=zOm;subst a0;rw[zW]at hI;have ha:a=atF 0 l:=hI;rw[<-ha]at C;have z1:∀ x:AV,(x :: zs).length=65:=fun x=>rfl
 have o:∀ x:AV,x∈zs->x.one=true:=fun x hx=>by rw[List.eq_of_mem_replicate hx];rfl
 have tk:List.take 64 zs=zs:=rfl;have pc:∀(x y:AV)(Z:List AV),Z.length=64->putCells (x :: zs) 0 (y :: Z)=y :: Z:=fun x y Z hZ=>by
  grind [y8,List.drop_of_length_le]
 by_cases h0:0<=a
 .obtain ⟨j,rfl⟩:∃ j:Nat,a=j:=⟨a.toNat,zOm⟩
  by_cases t:(j:Int)<64
  .have hj:1+j<=64:=by omega
   have a1:∀ x:AV,(x :: zs).set (1+j) (AV.sc (Value.bool true))=x :: zs.set j (AV.sc (Value.bool true)):=fun x=>by rw[Nat.add_comm];rfl
   have sl:(zs.set j (AV.sc (Value.bool true))).length=64:=zP1 i;have P:∀ x:AV,x∈zs.set j (AV.sc (Value.bool true))->x.one=true:=fun x hx=>by
    rcases List.mem_or_eq_of_mem_set hx with h|rfl
    .exact o x h
    .rfl
   have T:List.take 64 (zs.set j (AV.sc (Value.bool true)))=zs.set j (AV.sc (Value.bool true)):=zQ zOm;have p:R=aI l.length :: zs.set j (AV.sc (Value.bool true)):=by rw[<-C,if_pos ⟨h0,t⟩];rfl
   generalize zs.set j (AV.sc (Value.bool true))=Z at *
   simp[go_sem,I,r,e3,e4,e5,hm,h0,t,i,hj,a1,sl,T,pc _ _ _ sl];rw[if_pos P];simp[go_sem,r,sl,T];rw[p]at g⊢;exact .hf _ g.hf
  .simp [go_sem,I,r,e3,e4,e5,hm,h0,t,i,tk,pc _ _ _ i]
   rw[if_pos o];simp[go_sem,r,i,tk];have p:R=aI l.length :: zs:=by rw[<-C,zIn]
   rw[p]at g⊢;exact .hf _ g.hf
 .simp [go_sem,I,r,e3,e4,e5,hm,h0,i,tk,pc _ _ _ i]
  rw[if_pos o];simp[go_sem,r,i,tk];have p:R=aI l.length :: zs:=by rw[<-C,zIn]
  rw[p]at g⊢;exact .hf _ g.hf
abbrev NS:=List AV×Nat
variable {s:NS}
def stF(nm:tM)(f:Fld)(s:NS):NS:=if f.name=nm then (oneC f.sS,s.2+1) else s
def nmF(nm:tM):List Fld->NS->NS
 | [],s=>s
 |f :: l,s=>nmF nm l (stF nm f s)
def st1(nm:tM)(i:Nat)(x:tM×Bool)(s:NS):NS:=if x.1=nm then (oneC [(i:Int)],s.2+1) else s
def st2(nm:tM)(i:Nat)(x:tM×Bool)(s:NS):NS:=if x.2=true/\x.1++jb=nm then (oneC [(i:Int)],s.2+1) else s
def st3(nm:tM)(i:Nat)(x:tM×Bool)(s:NS):NS:=if x.2=true/\x.1++j9=nm then (oneC [(i:Int),(i:Int)],s.2+1) else s
def nmS(nm:tM):Nat->List (tM×Bool)->NS->NS
 |_,[],s=>s
 |i,x :: l,s=>nmS nm (i+1) l (st3 nm i x (st2 nm i x (st1 nm i x s)))
def named(ts:TS)(nm:tM):NS:=nmS nm 0 ts.sS (nmF nm ts.sA (aI 0 :: zs,0))
theorem qqO{f}(h:SetC s.1):SetC (stF nm f s).1:=by
 grind [stF,SetC.oneC]
theorem qdK(h:SetC s.1):SetC (st1 nm i x s).1:=by
 grind [st1,SetC.oneC]
theorem qdL(h:SetC s.1):SetC (st2 nm i x s).1:=by
 grind [st2,SetC.oneC]
theorem qdM(h:SetC s.1):SetC (st3 nm i x s).1:=by
 grind [st3,SetC.oneC]
theorem st_le:(st3 nm i x (st2 nm i x (st1 nm i x s))).2<=s.2+3:=by
 have g:(st1 nm i x s).2<=s.2+1:=by grind [st1]
 have j:∀ s:NS,(st2 nm i x s).2<=s.2+1:=fun s=>by grind [st2]
 have l:∀ s:NS,(st3 nm i x s).2<=s.2+1:=fun s=>by grind [st3]
 grind
theorem qdN(nm):∀ l s,SetC s.1->SetC (nmF nm l s).1
 | [],_,h=>h
 |f :: l,s,h=>qdN nm l _ (qqO h)
theorem qdO(nm):∀ l i s,SetC s.1->SetC (nmS nm i l s).1
 | [],_,_,h=>h
 |x :: l,i,s,h=>qdO nm l _ _ (qdM (qdL (qdK h)))
theorem kA(ts nm):SetC (named ts nm).1:=qdO nm _ _ _ (qdN nm _ _ SetC.zero)
theorem wk1(i):WK (.lst true [rI i]) (lI [i]):=WK.lst fun r g c j=>by
 grind [qT,HF.sc]
theorem wk2(i j):WK (.lst true [rI i,rI j]) (lI [i,j]):=WK.lst fun r g c l=>by
 rcases qw.1 g with rfl|g
 .grind [qT,HF.sc]
 grind [qT,HF.sc]
structure okNm (ts:TS):Prop where
 so:∀ x,x∈ts.sS->x.1.size<=4611686018427387904
 nso:ts.sS.length<=140737488351232
 nf:ts.sA.length<=140737488351232
 fl:∀ f,f∈ts.sA->f.sS.length<=140737488351232
theorem kB(ts)(ha:okNm ts)(nm):qh qb 152 [eTS ts,aS nm] (.tup [.agg (named ts nm).1,aI (named ts nm).2]):=by
  generalize hR:named ts nm=R;unfold named at hR;refine qSV call152 func152 rfl ?_;have ar:=ha.nf;have au:zs.length=64:=rfl;have av:=ha.nso;simp[go_sem];refine aK ts.sA.length (fun i U=>∃ s:NS,U.tm 1=aS nm/\U.tm 2 = .ip (cTS ts)/\U.tm 4 = .ptr 0 0/\U.tm 6 = .ptr 1 0/\U.tm 7=aI s.2/\U.tm 8=aI i/\U.mu=[.arr (aI 0 :: zs),.arr s.1]/\SetC s.1/\s.2<=i/\nmS nm 0 ts.sS (nmF nm (ts.sA.drop i) s)=R) ?_ ?_
  · exact⟨(aI 0 :: zs,0),zSi,zSi,zSi,zSi,zSi,zSi,by simp[go_sem,zs,qY],SetC.zero,zSp,zUs hR⟩
  clear hR;rintro i U hi ⟨⟨c,k⟩,J,t,e4,P,T,e8,hm,j,hk,r⟩;have hk:k<=i:=hk;have j:SetC c:=j;by_cases g:i<ts.sA.length
  · have w1:=zWk i
    have w2:=zWk k;rw[zp g]at r;have ho:=oneU ts.sA[i].sS (ha.fl _ (qp g));have C:=SetC.oneC ts.sA[i].sS;by_cases hq:ts.sA[i].name=nm
    · simp[go_sem,J,t,e8,hm,g,hq]
      refine tK ho (.zk (zg _) .nil) ?_;simp[go_sem,P,C.len,j.len,j.put C];rw[if_pos C.one];simp[go_sem,T,e8,g,w1,w2];exact aA ⟨(oneC ts.sA[i].sS,k+1),zS1 J,zS1 t,zS1 e4,zS1 P,zSi,zSi,zSi,C,zOm,by grind [nmF,stF]⟩
    · simp[go_sem,J,t,e8,hm,g,jU hq,w1]
      exact aA ⟨(c,k),zS1 J,zS1 t,zS1 e4,zS1 P,zS1 T,zSi,zSi,j,zOm,by grind [nmF,stF]⟩
  have a0:i=ts.sA.length:=zOm;subst a0;rw[zW]at r;simp only[nmF]at r;simp[go_sem,t,e8,hm];refine aK ts.sS.length (fun i U=>∃ s:NS,U.tm 1=aS nm/\U.tm 2 = .ip (cTS ts)/\U.tm 4 = .ptr 0 0/\U.tm 6 = .ptr 1 0/\U.tm 7=aI s.2/\U.tm 9=aI i/\U.mu=[.arr (aI 0 :: zs),.arr s.1]/\SetC s.1/\s.2<=ts.sA.length+3*i/\nmS nm i (ts.sS.drop i) s=R) ?_ ?_
  · simp[go_sem, *]
  clear J t e4 P T e8 hm j hk r g;rintro i U hi ⟨⟨c,k⟩,J,t,e4,P,T,e9,hm,j,hk,r⟩;have hk:k<=ts.sA.length+3*i:=hk;have j:SetC c:=j;by_cases g:i<ts.sS.length
  · have w1:=zWk i
    have w2:=zWk k;have w3:qo.wrap ((k:Int)+1+1)=(k:Int)+1+1:=zWr;have w4:qo.wrap ((k:Int)+1+1+1)=(k:Int)+1+1+1:=zWr;rw[zp g]at r;simp only[nmS]at r;have af:=oneU [(i:Int)] zSp;have ag:=oneU [(i:Int),(i:Int)] zSp;have p:=SetC.oneC [(i:Int)];have I:=SetC.oneC [(i:Int),(i:Int)];have ah:=j.put p;have ai:=j.put I;have aj:=p.put p;have ak:=p.put I;have l1:=p.len;have l2:=I.len;have l0:=j.len;have aw:=st_le (nm:=nm) (i:=i) (x:=ts.sS[i]) (s:=(c,k));have al:=qdM (nm:=nm) (i:=i) (x:=ts.sS[i]) (qdL (nm:=nm) (i:=i) (x:=ts.sS[i]) (qdK (nm:=nm) (i:=i) (x:=ts.sS[i]) (s:=(c,k)) j));have a8:=ha.so _ (qp g);have a8:ts.sS[i].1.size<=4611686018427387904:=a8;generalize a9:ts.sS[i]=so at *
    obtain⟨o,sb⟩:=so;have aa:o.size<=9223372036854775801:=by grind
    have ab:o.size<=9223372036854775802:=zOm;generalize hN:st3 nm i (o,sb) (st2 nm i (o,sb) (st1 nm i (o,sb) (c,k)))=N at *
    have an:(o++jb=nm)=(o++(⟨#[95,102,105,114,115,116]⟩:tM)=nm):=rfl;have ao:(o++j9=nm)=(o++(⟨#[95,110,101,120,116]⟩:tM)=nm):=rfl;simp only[st1,st2,st3,an,ao]at hN;obtain⟨d1,aq⟩:∃ d,decide (o=nm)=d:=⟨_,rfl⟩;obtain⟨d2,ad⟩:∃ d,decide (o++(⟨#[95,102,105,114,115,116]⟩:tM)=nm)=d:=⟨_,rfl⟩;obtain⟨d3,ae⟩:∃ d,decide (o++(⟨#[95,110,101,120,116]⟩:tM)=nm)=d:=⟨_,rfl⟩;have p1:(o=nm)=(d1=true):=by grind
    have p2:(o++(⟨#[95,102,105,114,115,116]⟩:tM)=nm)=(d2=true):=by grind
    have p3:(o++(⟨#[95,110,101,120,116]⟩:tM)=nm)=(d3=true):=by grind
    simp only[p1,p2,p3]at hN;have done:∀ l:St,l.tm 1=aS nm->l.tm 2 = .ip (cTS ts)->l.tm 4 = .ptr 0 0->l.tm 6 = .ptr 1 0->l.tm 7=aI N.2->l.tm 9=aI (i+1:Nat)->l.mu=[.arr (aI 0 :: zs),.arr N.1] ->
        Keep (fun U=>∃ s:NS,U.tm 1=aS nm/\U.tm 2 = .ip (cTS ts)/\U.tm 4 = .ptr 0 0/\U.tm 6 = .ptr 1 0/\U.tm 7=aI s.2/\U.tm 9=aI (i+1:Nat)/\U.mu=[.arr (aI 0 :: zs),.arr s.1]/\SetC s.1/\s.2<=ts.sA.length+3*(i+1)/\nmS nm (i+1) (ts.sS.drop (i+1)) s=R) .mk l:=
      fun l a1 a2 a3 a4 a5 a6 a7=>aA ⟨N,a1,a2,a3,a4,a5,a6,a7,al,zOm,r⟩
    cases d1<;>cases d2<;>cases d3<;>cases sb
    all_goals simp only[if_true,if_false,and_false,and_true,reduceCtorEq]at hN
    all_goals simp[go_sem,Y10.wA,J,t,e9,hm,g,a9,aq,ad,ae,w1,aa,ab]
    all_goals repeat' (first
      | (refine tK af (.cons (wk1 _) .nil) ?_
         simp[go_sem,P,ah,aj,l0,l1];rw[if_pos p.one];simp[go_sem,Y10.wA,J,t,T,e9,g,a9,ad,ae,w1,w2,w3,aa,ab])
      | (refine tK ag (.cons (wk2 _ _) .nil) ?_
         simp[go_sem,P,ai,ak,l0,l1,l2];rw[if_pos I.one];simp[go_sem,T,e9,g,w1,w2,w3,w4]))
    all_goals try subst hN
    all_goals simp_all[go_sem]
  have a0:i=ts.sS.length:=zOm;subst a0;rw[zW]at r;simp only[nmS]at r;subst r;simp[go_sem,t,e4,P,T,e9,hm,j.len,j.take,SetC.zero.put j,SetC.zero.len];rw[if_pos j.one];simp[go_sem,e4,j.len,j.take];refine .hf _ (HF.tup fun x hx=>?_);rcases qw.1 hx with rfl|hx
  · exact j.hf
  grind [qT,HF.sc]
end
end QD
namespace QE
open Y6 QD
abbrev RS:=Int×(Nat->Bool)
def hB(g:Nat->Bool):List AV:=(qt 64).map fun i=>aB (g i)
abbrev cRS(s:RS):List AV:=aI s.1 :: hB s.2
abbrev eRS(s:RS):AV := .agg (cRS s)
theorem qv(g):(hB g).length=64:=by simp[hB]
theorem qdP(g i v):(hB g).set i (aB v)=hB fun j=>if j=i then v else g j:=by
 refine List.ext_getElem (by simp[hB]) fun j l o=>?_
 rw[List.getElem_set];simp only[hB,List.getElem_map,List.getElem_range];by_cases h:i=j
 .rw [if_pos h,if_pos h.symm]
 .rw [if_neg h,if_neg (fun e=>h e.symm)]
theorem qqP(g i)(h:i<64):(hB g)[i]?=some (aB (g i)):=by
 simp[hB,h]
theorem uV{g i}(h:∀ j,j<64->g j=i j):hB g=hB i:=by
 refine List.map_congr_left fun j l=>?_
 rw[h j (z7.1 l)]
theorem setC(s):SetC (cRS s):=⟨by simp[hB],fun x g=>by
 rcases qw.1 g with rfl|g
 .exact ⟨rfl,HF.sc _⟩
 .obtain ⟨j,_,rfl⟩:=qm.1 g
  exact⟨rfl,HF.sc _⟩⟩
theorem yH(s):HF (eRS s):=(setC s).hf
theorem qdQ:hB (fun _=>false)=zs:=rfl
def oneS(l:List Int):RS:=(l.length,fun j=>decide ((j:Int)=atF 0 l))
theorem kC(l):oneC l=cRS (oneS l):=by
 unfold oneC oneS;simp only[cRS];split
 .rename_i h
  have e:aB true=aB true:=rfl;rw[<-qdQ,qdP];congr 1;refine uV fun j i=>?_
  by_cases g:j=(atF 0 l).toNat
  .rw [if_pos g];exact(decide_eq_true zOm).symm
  .rw [if_neg g];exact(decide_eq_false zOm).symm
 .rename_i h
  rw[<-qdQ];congr 1;refine uV fun j i=>?_
  exact(decide_eq_false zOm).symm
def szA(k:Int):Nat:=if k<1 then 1 else if k=1 then 4 else if k=2 then 16 else 64
theorem Vp(k):szA k<=64/\1<=szA k:=by unfold szA;split<;>(try split)<;>(try split)<;>omega
theorem Z6(k):qh qb 224 [aI k] (aI (szA k)):=by
 refine qSV call224 func224 rfl ?_;unfold szA;by_cases g:k<1
 .simp [go_sem,g];exact .zsc _
 by_cases i:k=1
 .simp [go_sem,i];exact .zsc _
 by_cases j:k=2
 .simp [go_sem,j];exact .zsc _
 simp[go_sem,g,i,j];exact .zsc _
def uniS(a b:RS):RS:=(a.1,fun j=>a.2 j||b.2 j)
def intS(a b:RS):RS:=(a.1,fun j=>a.2 j&&b.2 j)
theorem g1(x g i)(h:i<64):(x :: hB g)[1+i]?=some (aB (g i)):=by
 rw[Nat.add_comm,vK,qqP g i h]
theorem d1(x g i)(h:i<64):List.take 1 (List.drop (1+i) (x :: hB g))=[aB (g i)]:=by
 rw[Nat.add_comm,List.drop_succ_cons,zp (by rw[qv];exact h)];simp[hB]
theorem d0(g i)(h:i<64):List.take 1 (List.drop i (hB g))=[aB (g i)]:=by
 rw[zp (by rw[qv];exact h)];simp[hB]
theorem s1(x g i v):(x :: hB g).set (1+i) (aB v)=x :: hB fun j=>if j=i then v else g j:=by
 rw[Nat.add_comm,List.set_cons_succ,qdP]
theorem zf(g):∀ x,x∈hB g->x.one=true:=fun x i=>by
 obtain⟨j,_,rfl⟩:=qm.1 i;rfl
theorem tk(g):List.take 64 (hB g)=hB g:=zQ (by rw[qv];exact qr _)
theorem pc(x y g i):putCells (x :: hB g) 0 (y :: hB i)=y :: hB i:=by
 rw[y8 _ _ _ (by simp[qv])];simp[qv,List.drop_of_length_le]
theorem vt(a b):qh qb 193 [eRS a,eRS b] (eRS (uniS a b)):=by
 refine qSQ call193 func193 rfl { mt:=[2] } ?_;simp[go_sem];refine⟨zf _,zf _,?_⟩;refine aK 64 (fun i U=>U.tm 2 = .ptr 0 0/\U.tm 3 = .ip (cRS b)/\U.tm 4 = .ptr 1 0/\U.tm 5=aI i/\U.mu=[.arr (aI a.1 :: hB (fun j=>if j<i then a.2 j||b.2 j else a.2 j)),.arr (aI 0 :: hB fun _=>false)]) ?_ ?_
 .exact ⟨zSi,zSi,zSi,zSi,by simp[go_sem];rfl⟩
 rintro i U hi ⟨p,I,C,J,P⟩;by_cases l:i<64
 .have o:(i:Int)<64:=by omega
  have r:1+i<=64:=zOm;have w1:=zWk i;generalize hG:(fun j=>if j<i then a.2 j||b.2 j else a.2 j)=G at *
  have R:G i=a.2 i:=by rw[<-hG];simp
  have g:∀ v:Bool,v=(a.2 i||b.2 i)->(aI a.1 :: hB G).set (1+i) (aB v)=aI a.1 :: hB (fun j=>if j<i+1 then a.2 j||b.2 j else a.2 j):=fun v hv=>by
   rw[s1];congr 2;funext j;rw[<-hG,hv];by_cases T:j=i
   .subst T;simp
   .by_cases h2:j<i
    .simp [T,h2,show j<i+1 by omega]
    .simp [T,h2,show ¬j<i+1 by omega]
  have t:=d1 (aI a.1) G i l;have m2:=d0 b.2 i l;have a0:1<=64-i:=zOm;rw[R]at t;cases ha:a.2 i with
  |true =>
   rw[ha]at t g;have hn:=g true zSp;simp[go_sem,p,J,P,l,o,r,qv,t,hn,w1];exact aA ⟨zS1 p,zS1 I,zS1 C,zSi,zSi⟩
  |false =>
   rw[ha]at t g;have hn:=g (b.2 i) zSp;simp[go_sem,p,I,J,P,l,o,r,a0,qv,t,m2,hn,w1];exact aA ⟨zS1 p,zS1 I,zS1 C,zSi,zSi⟩
 .have a1:i=64:=by omega
  subst a1;simp[go_sem,p,C,J,P,qv,tk,pc];rw[if_pos (zf _)];simp[go_sem,C,qv,tk];have e:(aI a.1 :: hB fun j=>if j<64 then a.2 j||b.2 j else a.2 j)=cRS (uniS a b):=by
   exact congrArg (aI a.1 :: ·) (uV fun j hj=>if_pos hj)
  rw[e];exact .hf _ (yH _)
theorem UD(a b):qh qb 194 [eRS a,eRS b] (eRS (intS a b)):=by
 refine qSQ call194 func194 rfl { mt:=[2] } ?_;simp[go_sem];refine⟨zf _,zf _,?_⟩;refine aK 64 (fun i U=>U.tm 2 = .ptr 0 0/\U.tm 3 = .ip (cRS b)/\U.tm 4 = .ptr 1 0/\U.tm 5=aI i/\U.mu=[.arr (aI a.1 :: hB (fun j=>if j<i then a.2 j&&b.2 j else a.2 j)),.arr (aI 0 :: hB fun _=>false)]) ?_ ?_
 .exact ⟨zSi,zSi,zSi,zSi,by simp[go_sem];rfl⟩
 rintro i U hi ⟨p,I,C,J,P⟩;by_cases l:i<64
 .have o:(i:Int)<64:=by omega
  have r:1+i<=64:=zOm;have w1:=zWk i;generalize hG:(fun j=>if j<i then a.2 j&&b.2 j else a.2 j)=G at *
  have R:G i=a.2 i:=by rw[<-hG];simp
  have g:∀ v:Bool,v=(a.2 i&&b.2 i)->(aI a.1 :: hB G).set (1+i) (aB v)=aI a.1 :: hB (fun j=>if j<i+1 then a.2 j&&b.2 j else a.2 j):=fun v hv=>by
   rw[s1];congr 2;funext j;rw[<-hG,hv];by_cases T:j=i
   .subst T;simp
   .by_cases h2:j<i
    .simp [T,h2,show j<i+1 by omega]
    .simp [T,h2,show ¬j<i+1 by omega]
  have t:=d1 (aI a.1) G i l;have m2:=d0 b.2 i l;have a0:1<=64-i:=zOm;rw[R]at t;cases ha:a.2 i with
  |false =>
   rw[ha]at t g;have hn:=g false zSp;simp[go_sem,p,J,P,l,o,r,qv,t,hn,w1];exact aA ⟨zS1 p,zS1 I,zS1 C,zSi,zSi⟩
  |true =>
   rw[ha]at t g;have hn:=g (b.2 i) zSp;simp[go_sem,p,I,J,P,l,o,r,a0,qv,t,m2,hn,w1];exact aA ⟨zS1 p,zS1 I,zS1 C,zSi,zSi⟩
 .have a1:i=64:=by omega
  subst a1;simp[go_sem,p,C,J,P,qv,tk,pc];rw[if_pos (zf _)];simp[go_sem,C,qv,tk];have e:(aI a.1 :: hB fun j=>if j<64 then a.2 j&&b.2 j else a.2 j)=cRS (intS a b):=by
   exact congrArg (aI a.1 :: ·) (uV fun j hj=>if_pos hj)
  rw[e];exact .hf _ (yH _)
def trS(a:RS):RS:=(2,fun j=>decide (j<16)&&a.2 (j % 4*4+j / 4))
theorem qdR(a):qh qb 197 [eRS a] (eRS (trS a)):=by
 refine qSU call197 func197 rfl ?_;refine⟨zf _,?_⟩;refine aK 16 (fun i U=>U.tm 1 = .ip (cRS a)/\U.tm 2 = .ptr 0 0/\U.tm 3 = .ptr 1 0/\U.tm 4=aI i/\U.mu=[.arr (aI 0 :: hB fun _=>false),.arr (aI 2 :: hB (fun j=>decide (j<16/\j % 4*4+j / 4<i)&&a.2 (j % 4*4+j / 4)))]) ?_ ?_
 .exact ⟨zSi,zSi,zSi,zSi,by simp[go_sem];first|rfl|exact⟨rfl,rfl⟩⟩
 rintro i U hi ⟨R,o,p,e4,r⟩;by_cases t:i<16
 .have l:(i:Int)<16:=by omega
  have w1:=zWk i;obtain⟨q,hq⟩:∃ q:Nat,q=i % 4*4+i / 4:=⟨_,rfl⟩;have a0:q<16:=zOm;have w2:qo.wrap ((i:Int).tmod 4)=((i % 4:Nat):Int):=by
   rw[uZ zOm];rw[zWr];omega
  have w3:qo.wrap (qo.wrap ((i:Int).tmod 4*4)+qo.wrap ((i:Int) / 4))=(q:Int):=by
   have x1:qo.wrap ((i:Int) % 4*4)=(i:Int) % 4*4:=zWr;have x2:qo.wrap ((i:Int) / 4)=(i:Int) / 4:=zWr;rw[uZ zOm,x1,x2,zWr];omega
  generalize hG:(fun j=>decide (j<16/\j % 4*4+j / 4<i)&&a.2 (j % 4*4+j / 4))=G at *
  have g:(aI 2 :: hB G).set (1+q) (aB (a.2 i))=aI 2 :: hB (fun j=>decide (j<16/\j % 4*4+j / 4<i+1)&&a.2 (j % 4*4+j / 4)):=by
   rw[s1];refine congrArg (aI 2 :: ·) (uV fun j hj=>?_);rw[<-hG];by_cases C:j=q
   .have h2:j % 4*4+j / 4=i:=by omega
    rw[if_pos C,h2,decide_eq_true ⟨zOm,zOm⟩];rfl
   .have h2:¬(j<16/\j % 4*4+j / 4=i):=fun h=>C zOm
    rw[if_neg C];have h3:(j<16/\j % 4*4+j / 4<i+1)=(j<16/\j % 4*4+j / 4<i):=propext ⟨fun h=>⟨h.1,zOm⟩,fun h=>⟨h.1,zOm⟩⟩;rw[show decide (j<16/\j % 4*4+j / 4<i+1)=decide (j<16/\j % 4*4+j / 4<i) from decide_eq_decide.2 (by rw[h3])]
  have m2:=d0 a.2 i zOm;have I:(i:Int)<64:=zOm;have J:1<=64-i:=zOm;simp[go_sem,R,p,e4,r,t,l,I,J,m2,qv,w1,w3,show (q:Int)<64 by omega,show 1+q<=64 by omega,g];exact aA ⟨zS1 R,zS1 o,zS1 p,zSi,zSi⟩
 .have P:i=16:=by omega
  subst P;have e:hB (fun j=>decide (j<16/\j % 4*4+j / 4<16)&&a.2 (j % 4*4+j / 4))=hB (trS a).2:=by
   refine uV fun j hj=>?_
   rw[show decide (j<16/\j % 4*4+j / 4<16)=decide (j<16) from decide_eq_decide.2 ⟨fun h=>h.1,fun h=>⟨h,zOm⟩⟩];rfl
  rw[e]at r;have hT:eRS (trS a) = .agg (aI 2 :: hB (trS a).2):=rfl;rw[hT];generalize (trS a).2=T at *
  simp[go_sem,o,p,e4,r,qv,tk,pc];rw[if_pos (zf _)];simp[go_sem,o,qv,tk];exact .hf _ (yH (2,T))
def Qh(a b:RS)(j:Nat):Bool:=a.2 (j / szA b.1)&&b.2 (j % szA b.1)
def kE(a b:RS):RS:=(a.1+b.1,fun j=>decide (j<szA a.1*szA b.1)&&Qh a b j)
theorem qqQ(f:Nat->Bool)(p v)(hv:v=f p):∀ j,(if j=p then v else decide (j<p)&&f j)=(decide (j<p+1)&&f j):=fun j=>by
 by_cases g:j=p
 .subst g;simp[hv]
 .rw [if_neg g,show decide (j<p+1)=decide (j<p) from decide_eq_decide.2 zOm]
theorem qdS(a b)(ha:0<=a.1/\a.1<=1000)(hb:0<=b.1/\b.1<=1000):qh qb 196 [eRS a,eRS b] (eRS (kE a b)):=by
 refine qSV call196 func196 rfl ?_;have w0:qo.wrap (a.1+b.1)=a.1+b.1:=zWr;have ag:=Vp a.1;have ah:=Vp b.1;have ca:=Z6 a.1;have cb:=Z6 b.1;have hf:∀ j,Qh a b j=(a.2 (j / szA b.1)&&b.2 (j % szA b.1)):=fun _=>rfl
 simp[go_sem,qv];refine⟨zf _,zf _,?_⟩;simp[go_sem,w0];refine tK cb (.zs .nil) ?_;generalize hE:kE a b=E;have aa:E=(a.1+b.1,fun j=>decide (j<szA a.1*szA b.1)&&Qh a b j):=hE.symm;clear hE;generalize Qh a b=F at *
 generalize szA a.1=sa at *
 generalize szA b.1=n at *
 simp[go_sem];refine aK sa (fun i U=>U.tm 2 = .ip (cRS a)/\U.tm 3 = .ip (cRS b)/\U.tm 4 = .ptr 0 0/\U.tm 5 = .ptr 1 0/\U.tm 6=aI n/\U.tm 7=aI i/\U.mu=[.arr (aI 0 :: hB fun _=>false),.arr (aI (a.1+b.1) :: hB (fun j=>decide (j<i*n)&&F j))]) ?_ ?_
 .exact ⟨zSi,zSi,zSi,zSi,zSi,zSi,by simp[go_sem];first|rfl|exact⟨rfl,rfl⟩⟩
 rintro i U hi ⟨l,C,J,P,o,r,R⟩;simp[go_sem,l,r,R];refine tK ca (.zs .nil) ?_;by_cases a7:i<sa
 .have w1:=zWk i
  simp[go_sem,a7];refine aK n (fun k U=>U.tm 2 = .ip (cRS a)/\U.tm 3 = .ip (cRS b)/\U.tm 4 = .ptr 0 0/\U.tm 5 = .ptr 1 0/\U.tm 6=aI n/\U.tm 7=aI i/\U.tm 8=aI k/\U.mu=[.arr (aI 0 :: hB fun _=>false),.arr (aI (a.1+b.1) :: hB (fun j=>decide (j<i*n+k)&&F j))]) ?_ ?_
  .exact ⟨zS1 l,zS1 C,zS1 J,zS1 P,zS1 o,zS1 r,zSi,zSi⟩
  clear l C J P o r R;rintro k U hk ⟨l,C,J,P,o,r,e8,R⟩;by_cases t:k<n
  .have w2:=zWk k
   obtain⟨p,hp⟩:∃ p:Nat,p=i*n+k:=⟨_,rfl⟩;have a8:((i:Int)*n+k)=(p:Int):=by rw[hp];push_cast;rfl
   have ai:i*n<=63*64:=Nat.mul_le_mul zOm zOm;have w3:qo.wrap ((i:Int)*n)=(i:Int)*n:=by
    have:((i*n:Nat):Int)=(i:Int)*n:=by push_cast;rfl
    rw[<-this];exact zWr
   have w4:qo.wrap (p:Int)=(p:Int):=zWr;have a3:F p=(a.2 i&&b.2 k):=by
    rw[hf,hp,Nat.add_comm,Nat.add_mul_div_right _ _ zOm,Nat.add_mul_mod_self_right,Nat.div_eq_of_lt t,Nat.mod_eq_of_lt t,yd]
   have m1:=d0 a.2 i zOm;have m2:=d0 b.2 k zOm;have a0:1<=64-i:=zOm;have a4:1<=64-k:=zOm;have a1:(i:Int)<64:=zOm;have a5:(k:Int)<64:=zOm;have hq:∀ x:AV,(x :: hB (fun j=>decide (j<p)&&F j)).set (1+p) (aB true)=x :: hB (fun j=>if j=p then true else decide (j<p)&&F j):=fun x=>s1 x _ p true
   rw[<-hp]at R;have ab:F p=true->(fun j=>if j=p then true else decide (j<p)&&F j)=(fun j=>decide (j<p+1)&&F j):=fun h=>funext (qqQ F p true h.symm)
   have ad:F p=true->∀ x:AV,(x :: hB (fun j=>decide (j<p)&&F j)).set (1+p) (AV.sc (Value.bool true))=x :: hB (fun j=>decide (j<p+1)&&F j):=fun h x=>by rw[<-ab h];exact hq x
   have a6:(F p=false\/64<=p)->hB (fun j=>decide (j<p)&&F j)=hB (fun j=>decide (j<p+1)&&F j):=fun h=>uV fun j hj=>by
    by_cases h1:j=p
    .rcases h with h|h
     .rw [h1,h];simp
     .omega
    .rw [show decide (j<p+1)=decide (j<p) from decide_eq_decide.2 zOm]
   have done:∀ g:St,g.tm 2 = .ip (cRS a)->g.tm 3 = .ip (cRS b)->g.tm 4 = .ptr 0 0->g.tm 5 = .ptr 1 0->g.tm 6=aI n->g.tm 7=aI i->g.tm 8=aI (k+1:Nat)->g.mu=[.arr (aI 0 :: hB fun _=>false),.arr (aI (a.1+b.1) :: hB (fun j=>decide (j<p+1)&&F j))]->Keep (fun U=>U.tm 2 = .ip (cRS a)/\U.tm 3 = .ip (cRS b)/\U.tm 4 = .ptr 0 0/\U.tm 5 = .ptr 1 0/\U.tm 6=aI n/\U.tm 7=aI i/\U.tm 8=aI (k+1:Nat)/\U.mu=[.arr (aI 0 :: hB fun _=>false),.arr (aI (a.1+b.1) :: hB (fun j=>decide (j<i*n+(k+1))&&F j))]) .mk g:=
    fun g b1 b2 b3 b4 b5 b6 b7 b8=>aA ⟨b1,b2,b3,b4,b5,b6,b7,by rw[b8,hp];rfl⟩
   cases I:a.2 i with
   |false =>
    rw[I]at m1;simp[go_sem,l,o,r,e8,R,t,qv,m1,a0,a1,w2];exact done _ (zS1 l) (zS1 C) (zS1 J) (zS1 P) (zS1 o) (zS1 r) zSi (by simp[go_sem,a6 (.inl (by rw[a3,I];rfl))])
   |true =>
    rw[I]at m1;cases a2:b.2 k with
    |false =>
     rw[a2]at m2;simp[go_sem,l,C,o,r,e8,R,t,qv,m1,m2,a0,a4,a1,a5,w2];exact done _ (zS1 l) (zS1 C) (zS1 J) (zS1 P) (zS1 o) (zS1 r) zSi (by simp[go_sem,a6 (.inl (by rw[a3,I,a2];rfl))])
    |true =>
     rw[a2]at m2;by_cases a9:(p:Int)<64
     .simp [go_sem,l,C,P,o,r,e8,R,t,qv,m1,m2,a0,a4,a1,a5,w2,w3,a8,w4,a9,show 1+p<=64 by omega,ad (by rw[a3,I,a2];rfl)]
      exact done _ (zS1 l) (zS1 C) (zS1 J) (zS1 P) (zS1 o) (zS1 r) zSi zSi
     .simp [go_sem,l,C,o,r,e8,R,t,qv,m1,m2,a0,a4,a1,a5,w2,w3,a8,w4,a9]
      exact done _ (zS1 l) (zS1 C) (zS1 J) (zS1 P) (zS1 o) (zS1 r) zSi (by simp[go_sem,a6 (.inr zOm)])
  .have ae:k=n:=by omega
   subst ae;rw[show i*k+k=(i+1)*k by rw[Nat.add_mul,Nat.one_mul]]at R;simp[go_sem,o,r,e8,R,w1];exact⟨a7,aA ⟨zS1 l,zS1 C,zS1 J,zS1 P,zS1 o,zSi,zSi⟩⟩
 .have af:i=sa:=by omega
  subst af;rw[aa];generalize (fun j=>decide (j<i*n)&&F j)=T at *
  simp[go_sem,J,P,qv,tk,pc];rw[if_pos (zf _)];simp[go_sem,J,qv,tk];exact .hf _ (yH (_,T))
def rowJ(a b:RS)(i g j:Nat):Bool:=(qt g).any fun k=>decide (i / 4*(szA b.1 / 4)+k % (szA b.1 / 4)=j)&&(decide (i % 4=k / (szA b.1 / 4))&&(a.2 i&&b.2 k))
def Z7(a b:RS):RS:=(a.1+b.1-2,fun j=>(qt (szA a.1)).any fun i=>rowJ a b i (szA b.1) j)
theorem qqR(a b i k j):rowJ a b i (k+1) j=(rowJ a b i k j||(decide (i / 4*(szA b.1 / 4)+k % (szA b.1 / 4)=j)&&(decide (i % 4=k / (szA b.1 / 4))&&(a.2 i&&b.2 k)))):=by
 unfold rowJ;rw[List.range_succ,List.any_append];simp
theorem qqS{k}(h:1<=k):4<=szA k:=by unfold szA;split<;>(try split)<;>(try split)<;>omega
theorem wo(a b)(ha:0<=a.1/\a.1<=1000)(hb:1<=b.1/\b.1<=1000):qh qb 195 [eRS a,eRS b] (eRS (Z7 a b)):=by
 refine qSV call195 func195 rfl ?_;have w0:qo.wrap (a.1+b.1)=a.1+b.1:=zWr;have ab:qo.wrap (a.1+b.1-2)=a.1+b.1-2:=zWr;have aj:=Vp a.1;have ak:=Vp b.1;have al:=qqS hb.1;have ca:=Z6 a.1;have cb:=Z6 b.1;have hR:∀ i k j,rowJ a b i (k+1) j=(rowJ a b i k j||(decide (i / 4*(szA b.1 / 4)+k % (szA b.1 / 4)=j)&&(decide (i % 4=k / (szA b.1 / 4))&&(a.2 i&&b.2 k)))):=qqR a b;have ad:∀ i j,rowJ a b i 0 j=false:=fun i j=>rfl
 simp[go_sem,qv];refine⟨zf _,zf _,?_⟩;simp[go_sem,w0,ab];refine tK cb (.zs .nil) ?_;generalize hE:Z7 a b=E;have ae:E=(a.1+b.1-2,fun j=>(qt (szA a.1)).any fun i=>rowJ a b i (szA b.1) j):=hE.symm;clear hE;generalize rowJ a b=F at *
 generalize szA a.1=sa at *
 generalize szA b.1=sb at *
 obtain⟨n,hn⟩:∃ n:Nat,n=sb / 4:=⟨_,rfl⟩;have an:1<=n/\n<=16:=zOm;have wn:qo.wrap ((sb:Int) / 4)=(n:Int):=by rw[zWr];omega
 rw[<-hn]at hR;simp[go_sem,wn];refine aK sa (fun i U=>U.tm 2 = .ip (cRS a)/\U.tm 3 = .ip (cRS b)/\U.tm 4 = .ptr 0 0/\U.tm 5 = .ptr 1 0/\U.tm 6=aI n/\U.tm 7=aI i/\U.mu=[.arr (aI 0 :: hB fun _=>false),.arr (aI (a.1+b.1-2) :: hB (fun j=>(qt i).any fun i=>F i sb j))]) ?_ ?_
 .exact ⟨zSi,zSi,zSi,zSi,zSi,zSi,by simp[go_sem];first|rfl|exact⟨rfl,rfl⟩⟩
 rintro i U hi ⟨l,r,C,I,t,o,hm⟩;simp[go_sem,l,o,hm];refine tK ca (.zs .nil) ?_;by_cases a9:i<sa
 .have w1:=zWk i
  generalize hP:(fun j=>(qt i).any fun i=>F i sb j)=P at *
  simp[go_sem,a9];refine aK sb (fun k U=>U.tm 2 = .ip (cRS a)/\U.tm 3 = .ip (cRS b)/\U.tm 4 = .ptr 0 0/\U.tm 5 = .ptr 1 0/\U.tm 6=aI n/\U.tm 7=aI i/\U.tm 8=aI k/\U.mu=[.arr (aI 0 :: hB fun _=>false),.arr (aI (a.1+b.1-2) :: hB (fun j=>P j||F i k j))]) ?_ ?_
  .exact ⟨zS1 l,zS1 r,zS1 C,zS1 I,zS1 t,zS1 o,zSi,zS1 ad⟩
  clear l r C I t o hm;rintro k U hk ⟨l,r,C,I,t,o,e8,hm⟩;simp[go_sem,r,e8,hm];refine tK cb (.zs .nil) ?_;by_cases J:k<sb
  .have w2:=zWk k
   obtain⟨p,hp⟩:∃ p:Nat,p=i / 4*n+k % n:=⟨_,rfl⟩;have ao:k % n<n:=Nat.mod_lt _ zOm;have aq:i / 4*n<=15*16:=Nat.mul_le_mul zOm zOm;have y1:((i / 4:Nat):Int)=(i:Int) / 4:=zOm;have y2:((i / 4*n:Nat):Int)=(i:Int) / 4*n:=by rw[<-y1];push_cast;rfl
   have y3:((k % n:Nat):Int)=(k:Int) % n:=rfl;have y4:((k / n:Nat):Int)=(k:Int) / n:=rfl;have af:k / n<=64:=Nat.le_trans (Nat.div_le_self k n) zOm;have x1:qo.wrap ((i:Int) / 4)=(i:Int) / 4:=zWr;have x2:qo.wrap ((i:Int) / 4*n)=(i:Int) / 4*n:=by rw[<-y2];exact zWr
   have x4:qo.wrap ((i:Int) / 4*n+(k:Int) % n)=(p:Int):=by rw[<-y2,<-y3,zWr,hp];push_cast;rfl
   have a8:qo.wrap ((i:Int) / 4*n+(k:Int).tmod n)=(p:Int):=by rw[uZ zOm];exact x4
   have x5:qo.wrap ((k:Int) / n)=(k:Int) / n:=by
    rw[<-y4];clear y4;generalize k / n=c at af⊢;exact zWr
   have R:¬n=0:=zOm;have m1:=d0 a.2 i zOm;have m2:=d0 b.2 k zOm;have a0:1<=64-i:=zOm;have a2:1<=64-k:=zOm;have a1:(i:Int)<64:=zOm;have a3:(k:Int)<64:=zOm;have a4:((decide (i % 4=k / n)&&(a.2 i&&b.2 k))=false\/64<=p)->hB (fun j=>P j||F i k j)=hB (fun j=>P j||F i (k+1) j):=fun h=>uV fun j hj=>by
    rw[hR,<-hp];rcases h with h|h
    .rw [h,Bool.and_false,Bool.or_false]
    .rw [decide_eq_false zOm,Bool.false_and,Bool.or_false]
   have ag:(decide (i % 4=k / n)&&(a.2 i&&b.2 k))=true->∀ x:AV,(x :: hB (fun j=>P j||F i k j)).set (1+p) (AV.sc (Value.bool true))=x :: hB (fun j=>P j||F i (k+1) j):=fun h x=>by
    refine(s1 x _ p true).trans (congrArg (x :: ·) (uV fun j hj=>?_));rw[hR,<-hp,h,Bool.and_true];by_cases h1:j=p
    .rw [if_pos h1,h1];simp
    .rw [if_neg h1,decide_eq_false (fun e=>h1 e.symm),Bool.or_false]
   have done:∀ g:St,g.tm 2 = .ip (cRS a)->g.tm 3 = .ip (cRS b)->g.tm 4 = .ptr 0 0->g.tm 5 = .ptr 1 0->g.tm 6=aI n->g.tm 7=aI i->g.tm 8=aI (k+1:Nat)->g.mu=[.arr (aI 0 :: hB fun _=>false),.arr (aI (a.1+b.1-2) :: hB (fun j=>P j||F i (k+1) j))]->Keep (fun U=>U.tm 2 = .ip (cRS a)/\U.tm 3 = .ip (cRS b)/\U.tm 4 = .ptr 0 0/\U.tm 5 = .ptr 1 0/\U.tm 6=aI n/\U.tm 7=aI i/\U.tm 8=aI (k+1:Nat)/\U.mu=[.arr (aI 0 :: hB fun _=>false),.arr (aI (a.1+b.1-2) :: hB (fun j=>P j||F i (k+1) j))]) .mk g:=
    fun g b1 b2 b3 b4 b5 b6 b7 b8=>aA ⟨b1,b2,b3,b4,b5,b6,b7,b8⟩
   cases a5:a.2 i with
   |false =>
    rw[a5]at m1;simp[go_sem,l,t,o,e8,J,qv,x1,x2,R,m1,a0,a1,w2];exact done _ (zS1 l) (zS1 r) (zS1 C) (zS1 I) (zS1 t) (zS1 o) zSi (by simp[go_sem,a4 (.inl (by rw[a5];simp))])
   |true =>
    rw[a5]at m1;cases a6:b.2 k with
    |false =>
     rw[a6]at m2;simp[go_sem,l,r,t,o,e8,J,qv,x1,x2,R,m1,m2,a0,a1,a2,a3,w2];exact done _ (zS1 l) (zS1 r) (zS1 C) (zS1 I) (zS1 t) (zS1 o) zSi (by simp[go_sem,a4 (.inl (by rw[a6];simp))])
    |true =>
     rw[a6]at m2;by_cases hq:i % 4=k / n
     .have a7:(i:Int).tmod 4=(k:Int) / n:=by rw[uZ zOm,<-y4,<-hq];rfl
      by_cases aa:(p:Int)<64
      .simp [go_sem,l,r,I,t,o,e8,J,qv,x1,x2,a8,x5,R,m1,m2,a0,a1,a2,a3,w2,a7,aa,show 1+p<=64 by omega,ag (by rw[decide_eq_true hq,a5,a6];rfl)]
       exact done _ (zS1 l) (zS1 r) (zS1 C) (zS1 I) (zS1 t) (zS1 o) zSi zSi
      .simp [go_sem,l,r,t,o,e8,J,qv,x1,x2,a8,x5,R,m1,m2,a0,a1,a2,a3,w2,a7,aa]
       exact done _ (zS1 l) (zS1 r) (zS1 C) (zS1 I) (zS1 t) (zS1 o) zSi (by simp[go_sem,a4 (.inr zOm)])
     .have a7:¬(i:Int).tmod 4=(k:Int) / n:=fun e=>hq (by rw[uZ zOm,<-y4]at e;exact Int.ofNat.inj e)
      simp[go_sem,l,r,t,o,e8,J,qv,x1,x2,a8,x5,R,m1,m2,a0,a1,a2,a3,w2,a7];exact done _ (zS1 l) (zS1 r) (zS1 C) (zS1 I) (zS1 t) (zS1 o) zSi (by simp[go_sem,a4 (.inl (by rw[decide_eq_false hq];rfl))])
  .have ah:k=sb:=by omega
   subst ah;simp[go_sem,o,w1];exact⟨a9,aA ⟨zS1 l,zS1 r,zS1 C,zS1 I,zS1 t,zSi,by simp[go_sem];rw[<-hP]⟩⟩
 .have ai:i=sa:=by omega
  subst ai;rw[ae];generalize (fun j=>(qt i).any fun i=>F i sb j)=T at *
  simp[go_sem,C,I,qv,tk,pc];rw[if_pos (zf _)];simp[go_sem,C,qv,tk];exact .hf _ (yH (_,T))
end QE
namespace QF
open Y2 Y3 P1 P2 QD QE
section
variable {p q:Int}{a b:Kd}{l:List Int}{m ns:Nat}
def dig(k:Int)(j:Nat):List Int:=if k=0 then [] else if k=1 then [(j:Int)] else if k=2 then [((j / 4:Nat):Int),((j % 4:Nat):Int)] else [((j / 16:Nat):Int),((j / 4 % 4:Nat):Int),((j % 4:Nat):Int)]
theorem Z8{k}(h:0<=k/\k<=3)(j):((dig k j).length:Int)=k:=by
 grind [dig]
theorem szA1:szA 1=4:=rfl
theorem szA2:szA 2=16:=rfl
theorem szA3:szA 3=64:=rfl
theorem Vq(h:0<=p/\p<=3):p=0\/p=1\/p=2\/p=3:=by omega
theorem qdT(g:0<=p)(i:0<=q)(h:p+q<=3){j}(l:j<szA (p+q)):j / szA q<szA p/\j % szA q<szA q/\dig (p+q) j=dig p (j / szA q)++dig q (j % szA q):=by
 rcases Vq (p:=p) ⟨g,zOm⟩ with rfl|rfl|rfl|rfl<;>rcases Vq (p:=q) ⟨i,zOm⟩ with rfl|rfl|rfl|rfl<;>first | (exfalso;omega)|skip
 all_goals simp[dig,szA]at l⊢
 all_goals omega
theorem kF(g:0<=p)(j:0<=q)(h:p+q<=3){i k}(l:i<szA p)(o:k<szA q):i*szA q+k<szA (p+q)/\dig (p+q) (i*szA q+k)=dig p i++dig q k:=by
 rcases Vq (p:=p) ⟨g,zOm⟩ with rfl|rfl|rfl|rfl<;>rcases Vq (p:=q) ⟨j,zOm⟩ with rfl|rfl|rfl|rfl<;>first | (exfalso;omega)|skip
 all_goals simp[dig,szA]at l o⊢
 all_goals omega
theorem kG(h:0<=p/\p<=3){i j}(g:i<szA p)(l:j<szA p)(e:dig p i=dig p j):i=j:=by
 rcases Vq h with rfl|rfl|rfl|rfl
 all_goals grind [dig,szA]
 all_goals omega
theorem qdU(h:1<=p/\p<=3){l}(j:(l.length:Int)=p)(g:∀ x,x∈l->0<=x/\x<4):∃ i,i<szA p/\l=dig p i:=by
 match l,j,g with
 | [],j,_=>simp at j;omega
 | [a],j,g =>
  obtain rfl:p=1:=by grind
  have:=g a zSp;exact⟨a.toNat,by rw[szA1];omega,by simp[dig];omega⟩
 | [a,b],j,g =>
  obtain rfl:p=2:=by grind
  have:=g a zSp;have:=g b zSp;exact⟨(a*4+b).toNat,by rw[szA2];omega,by simp[dig];omega⟩
 | [a,b,c],j,g =>
  obtain rfl:p=3:=by grind
  have:=g a zSp;have:=g b zSp;have:=g c zSp;exact⟨(a*16+b*4+c).toNat,by rw[szA3];omega,by simp[dig];omega⟩
 |a :: b :: c :: d :: l,j,_=>simp at j;omega
theorem kH{l'}(h:l.length=l'.length)(g:l.length<=3)(e:pad l=pad l'):l=l':=by
 have i:=ZY g l.length (qr _);have j:=ZY (l:=l') zOm l'.length (qr _)
 grind
theorem Jh{k}(h:okKd ns k)(g:ns<=4){t:Tp}(j:t∈k.ts):∃ i,i<szA k.ar/\t=pad (dig k.ar i):=by
 obtain⟨l,rfl,o,p⟩:=h.ts t j;obtain⟨i,r,e⟩:=qdU h.ar o fun x C=>by grind
 grind
def qs(k:Kd):RS:=(k.ar,fun j=>decide (j<szA k.ar/\pad (dig k.ar j)∈k.ts))
theorem yU(k j):(qs k).2 j=true↔j<szA k.ar/\pad (dig k.ar j)∈k.ts:=decide_eq_true_iff
theorem Qt{a b}(g:a.1=b.1)(i:∀ j,j<64->a.2 j=b.2 j):eRS a=eRS b:=by
 simp only[eRS,cRS,g,uV i]
theorem Vs(h:a.ar=b.ar):eRS (uniS (qs a) (qs b))=eRS (qs (kSum a b)):=by
 refine Qt rfl fun j g=>?_
 rw[jM,yU];show ((qs a).2 j||(qs b).2 j)=true↔j<szA a.ar/\pad (dig a.ar j)∈uni (uni [] a.ts) b.ts;rw[Bool.or_eq_true,yU,yU,<-h,vV,vV]
 grind
theorem qqT(h:a.ar=b.ar):eRS (intS (qs a) (qs b))=eRS (qs (Yt a b)):=by
 refine Qt rfl fun j g=>?_
 rw[jM,yU];show ((qs a).2 j&&(qs b).2 j)=true↔j<szA a.ar/\pad (dig a.ar j)∈a.ts.filter fun t=>decide (t∈b.ts)
 rw[qE,yU,yU,<-h,y7,decide_eq_true_eq]
 grind
theorem JL{n a b t}:t∈Qg n m a b↔∃ x y,x∈a/\y∈b/\conc x n y m 0=t:=by
 unfold Qg;rw[vV];simp only[qH,false_or,qm,Prod.exists,Ys]
 grind
theorem J4{l' n}(h:l.length=n)(g:l'.length=m)(i:n<=3)(j:m<=3):conc (pad l) n (pad l') m 0=pad (l++l'):=by
 unfold conc;rw[Nat.sub_zero,List.drop_zero,ZY zOm n zOm,ZY zOm m zOm,<-h,<-g,qO,qO]
theorem qqU(J:okKd ns a)(P:okKd ns b)(l:ns<=4)(R:a.ar+b.ar<=3):eRS (kE (qs a) (qs b))=eRS (qs (uL a b)):=by
 have a0:=J.ar;have a1:=P.ar;have la:=fun i=>Z8 (k:=a.ar) zOm i
 have lb:=fun i=>Z8 (k:=b.ar) zOm i
 have g:=fun i=>Z8 (k:=a.ar+b.ar) zOm i
 refine Qt rfl fun j hj=>?_
 rw[jM,yU];show (decide (j<szA a.ar*szA b.ar)&&((qs a).2 (j / szA b.ar)&&(qs b).2 (j % szA b.ar)))=true↔j<szA (a.ar+b.ar)/\pad (dig (a.ar+b.ar) j)∈Qg a.ar.toNat b.ar.toNat a.ts b.ts;rw[qE,qE,yU,yU,JL,decide_eq_true_eq];constructor
 .rintro ⟨_,⟨r,h2⟩,h4,h5⟩
  have t:=kF (p:=a.ar) (q:=b.ar) zOm zOm R r h4
  grind [szA,Nat.div_add_mod',J4]
 .rintro ⟨r,x,y,T,U,e⟩
  obtain⟨i,C,rfl⟩:=Jh J l T;obtain⟨k,o,rfl⟩:=Jh P l U;rw[J4 (zW1 (la i)) (zW1 (lb k)) zOm zOm]at e;have t:=kF (p:=a.ar) (q:=b.ar) zOm zOm R C o;rw[<-t.2]at e;have e2:=kH (zW2 (g (i*szA b.ar+k)) (g j)) (zW1 (g (i*szA b.ar+k))) e;have I:=kG zOm t.1 r e2;have a2:=Vp b.ar;have d1:j / szA b.ar=i:=by rw[<-I,Nat.add_comm,Nat.add_mul_div_right _ _ zOm,Nat.div_eq_of_lt o,yd]
  have d2:j % szA b.ar=k:=by rw[<-I,Nat.add_comm,Nat.add_mul_mod_self_right,Nat.mod_eq_of_lt o]
  rw[d1,d2];refine⟨?_,⟨C,T⟩,o,U⟩;rw[<-I]
  calc i*szA b.ar+k<i*szA b.ar+szA b.ar:=by omega
   _=(i+1)*szA b.ar:=by rw[Nat.add_mul,Nat.one_mul]
   _<=szA a.ar*szA b.ar:=Nat.mul_le_mul_right _ C
theorem Zh{n a b t}:t∈uK n m a b↔∃ x y,x∈a/\y∈b/\x.getD (n-1) 0=y.getD 0 0/\conc x n y m 1=t:=by
 unfold uK;rw[vV];simp only[qH,false_or,List.mem_filterMap,Prod.exists,Ys];constructor
 .rintro ⟨x,y,⟨i,j⟩,g⟩
  split at g
  .rename_i h;cases g;exact⟨x,y,i,j,h,rfl⟩
  .cases g
 .rintro ⟨x,y,i,j,g,l⟩;exact⟨x,y,⟨i,j⟩,by rw[if_pos g,l]⟩
theorem qqV{u v e f n}(h:u.length+1=n)(g:v.length+1=m)(i:n<=3)(j:m<=3):conc (pad (u++[e])) n (pad ([f]++v)) m 1=pad (u++v):=by
 unfold conc;rw[ZY zSo (n-1) zSo,ZY zSo m zSo,List.take_append_of_le_length zOm,zQ zOm,zQ zSo];rfl
theorem qdV{k}(h:k<3):(pad l).getD k 0=l.getD k 0:=by
 match k,h with
 | 0,_=>rfl
 | 1,_=>rfl
 | 2,_=>rfl
theorem qqW(g:0<=p/\p<=2){i}(j:i<szA (p+1)):i / 4<szA p/\dig (p+1) i=dig p (i / 4)++[((i % 4:Nat):Int)]:=by
 have:=qdT (p:=p) (q:=1) g.1 zOm zOm j;rw[szA1]at this;exact⟨this.1,this.2.2⟩
theorem qqX(g:0<=q/\q<=2){k}(i:k<szA (1+q)):k % szA q<szA q/\dig (1+q) k=[((k / szA q:Nat):Int)]++dig q (k % szA q):=by
 have:=qdT (p:=1) (q:=q) zOm g.1 zOm i;exact⟨this.2.1,this.2.2⟩
theorem qqY(g:0<=q/\q<=2):szA (q+1) / 4=szA q/\szA (q+1)=4*szA q:=by
 rcases (show q=0\/q=1\/q=2 by omega) with rfl|rfl|rfl<;>exact⟨rfl,rfl⟩
theorem qdW(ha:okKd ns a)(hb:okKd ns b)(r:ns<=4)(h3:1<=a.ar+b.ar-2/\a.ar+b.ar-2<=3):eRS (Z7 (qs a) (qs b))=eRS (qs (zN a b)):=by
 have a0:=ha.ar;have a3:=hb.ar;obtain⟨p,hp⟩:∃ p,p=a.ar-1:=⟨_,rfl⟩;obtain⟨q,hq⟩:∃ q,q=b.ar-1:=⟨_,rfl⟩;have ea:a.ar=p+1:=zOm;have eb:b.ar=1+q:=zOm;have t:b.ar=q+1:=zOm;have C:a.ar+b.ar-2=p+q:=zOm;have I:=qqY (q:=q) zOm;have hn:szA b.ar / 4=szA q:=by rw[t];exact I.1
 have lp:=fun i=>Z8 (k:=p) zOm i
 have lq:=fun i=>Z8 (k:=q) zOm i
 have o:=fun i=>Z8 (k:=p+q) zOm i
 have A:∀ i,i<szA a.ar->i / 4<szA p/\dig a.ar i=dig p (i / 4)++[((i % 4:Nat):Int)]:=fun i g=>by rw[ea]at g⊢;exact qqW zOm g
 have B:∀ k,k<szA b.ar->k % szA q<szA q/\dig b.ar k=[((k / szA q:Nat):Int)]++dig q (k % szA q):=fun k l=>by rw[eb]at l⊢;exact qqX zOm l
 have J:∀ i k,i<szA a.ar->k<szA b.ar->i / 4*szA q+k % szA q<szA (p+q)/\(pad (dig a.ar i)).getD (a.ar.toNat-1) 0=((i % 4:Nat):Int)/\(pad (dig b.ar k)).getD 0 0=((k / szA q:Nat):Int)/\conc (pad (dig a.ar i)) a.ar.toNat (pad (dig b.ar k)) b.ar.toNat 1=pad (dig (p+q) (i / 4*szA q+k % szA q)):=fun i k g l=>by
  obtain⟨a1,a2⟩:=A i g;obtain⟨b1,b2⟩:=B k l;have hm:=kF (p:=p) (q:=q) zOm zOm zOm a1 b1;have l1:=lp (i / 4);have l2:=lq (k % szA q);refine⟨hm.1,?_,?_,?_⟩
  .rw [qdV zOm,a2,show a.ar.toNat-1=(dig p (i / 4)).length by omega];simp
  .rw [qdV zOm,b2];rfl
  .rw [a2,b2,hm.2];exact qqV zOm zOm zOm zOm
 refine Qt rfl fun j hj=>?_
 rw[jM,yU];show ((qt (szA a.ar)).any fun i=>(qt (szA b.ar)).any fun k=>decide (i / 4*(szA b.ar / 4)+k % (szA b.ar / 4)=j)&&(decide (i % 4=k / (szA b.ar / 4))&&((qs a).2 i&&(qs b).2 k)))=true↔j<szA (a.ar+b.ar-2)/\pad (dig (a.ar+b.ar-2) j)∈uK a.ar.toNat b.ar.toNat a.ts b.ts;rw[Zh,List.any_eq_true,hn,C];constructor
 .rintro ⟨i,g,h⟩
  obtain⟨k,l,h⟩:=List.any_eq_true.1 h;rw[z7]at g l;rw[qE,qE,qE,decide_eq_true_eq,decide_eq_true_eq,yU,yU]at h;obtain⟨rfl,P,⟨_,h4⟩,_,h5⟩:=h;obtain⟨R,T,U,j4⟩:=J i k g l;exact⟨R,_,_,h4,h5,by rw[T,U,P],j4⟩
 .rintro ⟨h1,x,y,hx,hy,P,e⟩
  obtain⟨i,g,rfl⟩:=Jh ha r hx;obtain⟨k,l,rfl⟩:=Jh hb r hy;obtain⟨R,T,U,j4⟩:=J i k g l;rw[j4]at e;have e2:=kH (zW2 (o (i / 4*szA q+k % szA q)) (o j)) (zW1 (o (i / 4*szA q+k % szA q))) e;have e3:=kG zOm R h1 e2;rw[T,U]at P;refine⟨i,z7.2 g,List.any_eq_true.2 ⟨k,z7.2 l,?_⟩⟩;rw[qE,qE,qE,decide_eq_true_eq,decide_eq_true_eq,yU,yU];exact⟨e3,zOm,⟨g,hx⟩,l,hy⟩
theorem qqZ(o:okKd ns a)(g:ns<=4)(p:a.ar=2):eRS (trS (qs a))=eRS (qs (kTr a)):=by
 refine Qt rfl fun j I=>?_
 rw[jM,yU];show (decide (j<16)&&(qs a).2 (j % 4*4+j / 4))=true↔j<16/\pad (dig 2 j)∈uni [] (a.ts.map fun t=>[t.getD 1 0,t.getD 0 0,0]);rw[qE,yU,vV,decide_eq_true_eq,p,szA2];simp only[qH,false_or,qm];constructor
 .rintro ⟨l,J,r⟩
  refine⟨l,_,r,?_⟩
  grind [dig,pad]
 .rintro ⟨l,t,C,e⟩
  obtain⟨i,P,rfl⟩:=Jh o g C
  grind [szA2,dig,pad]
theorem kI(h:1<=l.length/\l.length<=3)(g:∀ x,x∈l->0<=x/\x<4):eRS (oneS l)=eRS (qs (kOf l)):=by
 refine Qt rfl fun j P=>?_
 obtain⟨i,o,e⟩:=qdU (p:=(l.length:Int)) zOm rfl g;have r:atF 0 l=i:=by
  match l,h,g,o,e with
  | [x],_,g,o,e =>
   have:=g x zSp;simp[dig]at e;simp[atF,IntKind.wrap,IntKind.signed,IntKind.bits];omega
  | [x,y],_,g,o,e =>
   have:=g x zSp;have:=g y zSp;simp[dig]at e;simp[atF,IntKind.wrap,IntKind.signed,IntKind.bits];omega
  | [x,y,z],_,g,o,e =>
   have:=g x zSp;have:=g y zSp;have:=g z zSp;simp[dig]at e;simp[atF,IntKind.wrap,IntKind.signed,IntKind.bits];omega
 rw[jM,yU];show decide ((j:Int)=atF 0 l)=true↔j<szA (l.length:Int)/\pad (dig (l.length:Int) j)∈[pad l];rw[decide_eq_true_eq,r,qT];have C:=fun j=>Z8 (k:=(l.length:Int)) zOm j
 constructor
 .intro I
  obtain rfl:j=i:=zOm
  grind
 .rintro ⟨I,J⟩
  have t:=kH (zW1 (C j)) (zW1 (C j)) J;rw[e]at t;have:=kG (p:=(l.length:Int)) zOm I o (by rw[<-e]at t⊢;exact t);omega
end
end QF
end Go.Proofs.YtipbakanneogpaaGreatDoor
