/-
  Own library, part 6: an abstract reading of values and a calculus over it; contracts of functions; plain lemmas.
-/
import Derived.Handed
import Derived.WideKeyArgs
import Derived.ProofKit
import Derived.OpenShut
import Derived.JoinedCond
import Derived.KernelRfl
import Derived.Test.YtlnbdknjkmmgbaaGreatDoorMe
set_option linter.unusedVariables false
set_option linter.unusedSimpArgs false
set_option maxRecDepth 100000
open Go renaming Program->qb,TypeId->qd,World->qf,Value->qq,undef->uk,FuncId->zZ
open Go.Proofs.Tryz renaming prog->qc
open List renaming getElem?_eq_some_iff->qh,mem_map->qn,range->qs,getElem_mem->qt,mem_cons->qy,getElem?_set_self->qz,getElem?_eq_getElem->qB,getElem?_append_left->qG,not_mem_nil->qK,mem_cons_of_mem->qN,mem_append->qO,mem_of_getElem?->qQ,mem_singleton->qS,mem_cons_self->qZ,all_eq_true->q8,map_cons->za,drop_eq_getElem_cons->zg,length_append->zh,map_append->zx,getElem?_map->zB,append_assoc->zG,getElem?_set_ne->zH,getD_eq_getElem?_getD->zT,drop_length->zU,getElem?_append_right->yd,mem_range->ye,append_nil->yg,length_cons->yh,length_map->yu,mem_filter->y5,mem_append_left->y6,nil_append->jk,foldl_append->ul,eq_nil_of_length_eq_zero->uP,flatten_cons->uQ,getD_cons_zero->Jn
open Nat renaming le_refl->qj,le_of_ble_eq_true->vX
open Go.IntKind renaming i64->ql
open Option.some renaming injEq->qo
open Bool renaming and_eq_true->qD
open Array renaming getD_eq_getD_getElem?->qV
open Option renaming map_some->zd
open List.Nodup renaming length_le_of_subset->jm
open Int renaming le_refl->vq
open Prod.mk renaming injEq->uR
namespace Go.Proofs.YtlnbdknjkmmgbaaGreatDoor
open Go Go.Ev Go.Proofs Tryz
namespace YD
open YM YF P1 P2 Y1 Y2 Y6 Y7 Y9 Y10 Y13 YX YZ YB PA YC
section
variable {mu:Mu}{b:Nat}
theorem qm9(p n):qg qc 185 [.agg (cPd p),.ip (cNd n)] (aB (decide (p.name=n.name))):=by
 refine qSV call185 func185 rfl ?_;by_cases h:p.name=n.name
 .simp [go_sem,h]
  exact .zsc _
 .simp [go_sem,h,jG h]
  exact .zsc _
def endE(ts:TS)(tb:Nat)(mu:Mu)(xb:Nat)(r:XR (Nd×Int))(e:AEnd)(m:Mu):Prop:=
 match r with
 | .ok ((n,k),s)=>e = .ret (.tup [eNd n,aI k])/\m[xb]?=some (.arr (cIn ts tb s))/\But xb mu m
 | .error d=>e = .pan (jx d.1 d.2)/\But xb mu m
def IHE(ts : TS)(es : List (tZ × Bool))(tb f : Nat) : Prop := ∀(env : IEnv)(n : Nd)(g : Bool)(s : ISt)(I : Mu)(i : Nat), 4000 < s.sM + f->StOk (qm ts es) s->zm env->WfN n->yK ts n->I[i]? = some (.arr (cIn ts tb s))->I[tb]? = some (.mp (eSet es)) ->
      qv qc 116 [.ptr i 0,eEnv env,eNd n,aB g] I (endE ts tb I i (expI ts es f env n g s))
structure M0 (ts:TS) (es:List (tZ×Bool)) (tb:Nat) (mu:Mu) (xb:Nat) (n:Nd) (s:ISt) (M:Mu):Prop where
 len:M.length=mu.length+2
 x:M[xb]?=some (.arr (cIn ts tb s))
 t:M[tb]?=some (.mp (eSet es))
 n:M[mu.length]?=some (.arr (cNd n))
 r:M[mu.length+1]?=some (.arr [aI 0,aS ⟨#[]⟩,aI 0,.lst true [],aI 0])
 but:But xb mu M
theorem M0.of{ts es tb xb n s s'}(g:mu[xb]?=some (.arr (cIn ts tb s)))(i:mu[tb]?=some (.mp (eSet es))) :
  M0 ts es tb mu xb n s' ((mu++[Cell.arr (cNd n),Cell.arr [aI 0,aS ⟨#[]⟩,aI 0,.lst true [],aI 0]]).set xb (.arr (cIn ts tb s'))):=by
 have j:xb<mu.length:=(qh.1 g).1;have l:tb<mu.length:=(qh.1 i).1;have o:tb≠xb:=fun e=>by grind
 refine⟨zSp,qz zSo,?_,?_,?_,(But.app xb mu _).trans (cH xb _ _)⟩
 .grind
 .grind
 grind
theorem qnA(ts es tb env n body s mu xb)(J:StOk (qm ts es) s)(P:zm env)(R:mu[xb]?=some (.arr (cIn ts tb s)))(T:mu[tb]?=some (.mp (eSet es)))(t:n.op=1) :
  qv qc 116 [.ptr xb 0,eEnv env,eNd n,aB body] mu (endE ts tb mu xb (if s.sM+1<=4000 then ve env n (payS 1 s) else .error (2,0))):=by
 have U:=J.c0;have a0:=J.c1;refine qSW call116 func116 rfl { mt:=[6] } ?_;have a1:xb<mu.length:=(qh.1 R).1;simp[go_sem];refine fZ (payU ts tb s 1 ⟨zOm,zOm⟩ ⟨zOm,zOm⟩ (by grind)) ?_ ?_
 .rintro r m ⟨rfl,e⟩
  by_cases C:s.sM+1<=4000
  .rw [if_pos C]at e⊢
   cases e;have l:=M0.of (s':=payS 1 s) (n:=n) R T;generalize a2:(mu++[Cell.arr (cNd n),.arr [aI 0,aS ⟨#[]⟩,aI 0,.lst true [],aI 0]]).set xb (.arr (cIn ts tb (payS 1 s)))=M at *
   simp[go_sem,l.n,t];have g:=qlM ts tb (payS 1 s) ⟨by show _<=s.sM+1;omega,by show s.sM+1<=_;omega⟩ env P.nd (fun e hm=>zW1 (P.sz e hm)) n l.x;generalize ve env n (payS 1 s)=Q at *
   have a3:=l.len;cases Q with
   |error d =>
    refine fZ g (by rintro r m ⟨e,_⟩;cases e) ?_;rintro r m ⟨e,i,j⟩;cases e;simp[go_sem];exact⟨rfl,l.but.trans ⟨j,i⟩⟩
   |ok q =>
    obtain⟨⟨n',k'⟩,s'⟩:=q;refine fZ g ?_ (by rintro r m ⟨e,_⟩;cases e);rintro r m ⟨e,a4,i,j⟩;cases e;have I:m[mu.length+1]?=some (.arr [aI 0,aS ⟨#[]⟩,aI 0,.lst true [],aI 0]):=by grind
    have o:mu.length+1<m.length:=zOm;have p:∀ c,(m.set (mu.length+1) c)[mu.length+1]?=some c:=fun c=>qz o
    simp[go_sem,I,p];exact⟨rfl,by grind,(l.but.trans ⟨j,i⟩).setN zOm _⟩
  grind
 .rintro r m ⟨rfl,e⟩
  by_cases C:s.sM+1<=4000
  .grind
  .rw [if_neg C]at e⊢
   cases e;simp[go_sem];exact⟨rfl,(But.app xb mu _).trans (cH xb _ _)⟩
theorem qcC{cs}(j:mu[b]?=some (.arr cs))(h:∀ c,c∈cs->HF c):Rd mu (.ptr b 0) (.ip cs):=
 .ptr b 0 cs cs j zSp fun k x y g i=>by
  rw[Nat.zero_add]at g;rw[g]at i;cases i;exact .hf _ (h _ (qQ g))
abbrev AP:=Nat×Int×Nd
abbrev eAP(a:AP):AV := .agg [.ptr a.1 0,aI a.2.1,aS ⟨#[]⟩]
abbrev ivA(a:AP):IV:=⟨some a.2.2,a.2.1,⟨#[]⟩⟩
abbrev ownA(acc:List (tZ×AP)):IEnv:=acc.map fun e=>(e.1,ivA e.2)
theorem KP{i J j}[DecidableEq i](g:J->j)(k v):∀ es:List (i×J),(setK k v es).map (fun e=>(e.1,g e.2))=setK k (g v) (es.map fun e=>(e.1,g e.2))
 | []=>rfl
 |e :: es=>by
  simp only[setK,za];split
  .rfl
  .rw [za,KP g k v es]
theorem updAP{es}(i:mu[b]?=some (.mp (encK aS eAP es)))(nm v) :
  ju qc mu 179 (.mp b) (aS nm) (eAP v)=some (mu.set b (.mp (encK aS eAP (setK nm v es)))):=
 keyS.update (et:=248) (t:=179) zSi (mu:=mu) (b:=b) (venc:=eAP) (es:=es) i (k:=nm) (v:=v) trivial (fun _ _=>trivial)
theorem qcD{acc}(o:mu[b]?=some (.mp (encK aS eAP acc)))(t:(acc.map Prod.fst).Nodup)(p:∀ e,e∈acc->mu[e.2.1]?=some (.arr (cNd e.2.2.2))):Rd mu (.mp b) (eEnv (ownA acc)):=by
 have j:((ownA acc).map Prod.fst).Nodup:=by
  grind
 have get:∀(k:Nat)(x y:AV×AV),(encK aS eAP acc)[k]?=some x->(encK aS eIV (ownA acc))[k]?=some y->∃ e,e∈acc/\x=(aS e.1,eAP e.2)/\y=(aS e.1,eIV (ivA e.2)):=fun k x y g i=>by
  grind
 refine .ims _ _ _ id id (PIx.refl _) (Kw j) (.mp b _ _ o zSp (fun k x y g i=>?_) (fun k x y g i=>?_))
 .obtain ⟨e,l,rfl,rfl⟩:=get k x y g i
  exact .zsc _
 .obtain ⟨e,l,rfl,rfl⟩:=get k x y g i
  refine .agg _ _ rfl fun k x y g i=>?_
  match k with
  | 0 =>
   simp at g i;subst g;subst i;exact qcC (p e l) (y8 _)
  | 1=>simp at g i;subst g;subst i;exact .zsc _
  | 2=>simp at g i;subst g;subst i;exact .zsc _
  |k+3=>simp at g
theorem qnB{ps:List Pd}{g p}(h:ps.find? g=some p):∃ i,∃ j:i<ps.length,ps[i]=p/\idxI ps g=i:=by
 grind [List.find?_eq_some_iff_getElem,Up]
theorem qnC(ts)(h:okTS ts)(hb:∀ p,p∈ts.sT->WfN p.body/\yK ts p.body)(es)(hF:qm ts es<=200000)(b0:Free ts es)(tb f)(ih:IHE ts es tb f)(env n body)(s:ISt)(mu xb)
  (hc:4000<s.sM+(f+1:Nat)) (hs:StOk (qm ts es) s) (he:zm env) (hw:WfN n) (aj:yK ts n) (hx:mu[xb]?=some (.arr (cIn ts tb s))) (ht:mu[tb]?=some (.mp (eSet es))) (ab:n.op=47) :
  qv qc 116 [.ptr xb 0,eEnv env,eNd n,aB body] mu (endE ts tb mu xb (expI ts es (f+1) env n body s)):=by
 have bo:=hs.c0;have bq:=hs.c1;generalize J:expI ts es (f+1) env n body s=R;simp only[expI,ab]at J;obtain⟨p,hp,b1⟩:=aj n (vV n) ab;rw[hp]at J;refine qSW call116 func116 rfl { mt:=[6] } ?_;have br:xb<mu.length:=(qh.1 hx).1;have b2:tb<mu.length:=(qh.1 ht).1;simp[go_sem];refine fZ (payU ts tb s 1 ⟨zOm,zOm⟩ ⟨zOm,zOm⟩ (by grind)) ?_ ?_
 .rintro r m ⟨rfl,e⟩
  by_cases T:s.sM+1<=4000
  .rw [if_pos T]at e J
   cases e;have hM:=M0.of (s':=payS 1 s) (n:=n) hx ht;generalize bs:(mu++[Cell.arr (cNd n),.arr [aI 0,aS ⟨#[]⟩,aI 0,.lst true [],aI 0]]).set xb (.arr (cIn ts tb (payS 1 s)))=M at *
   have bt:=hM.len;simp[go_sem,hM.n,ab];refine qi.fz (FzQ.one (b:=mu.length) (d:=6) (x := .ip (cNd n)) ?_ ?_)
   .simp [go_sem]
    grind [qcC,vT,y8]
   have ak:(cutM (fun j=>!(j == mu.length)) M 0)[xb]?=some (.arr (cIn ts tb (payS 1 s))):=by grind [vT]
   have bm:(cutM (fun j=>!(j == mu.length)) M 0)[tb]?=some (.mp (eSet es)):=by grind [vT]
   have bn:(cutM (fun j=>!(j == mu.length)) M 0)[mu.length+1]?=some (.arr [aI 0,aS ⟨#[]⟩,aI 0,.lst true [],aI 0]):=by grind [vT]
   have al:But xb mu (cutM (fun j=>!(j == mu.length)) M 0):=hM.but.cut fun i hi=>zSo
   have a8:(cutM (fun j=>!(j == mu.length)) M 0).length=mu.length+2:=by grind [jC]
   simp only[qI];generalize cutM (fun j=>!(j == mu.length)) M 0=M1 at *
   refine tR zKr ?_;simp[go_sem,ak];obtain⟨i,hi,b3,an⟩:=qnB hp;have b4:Yk qc (.fn (.func 185) [] [.ip (cNd n)]) ts.sT (fun x => .agg (cPd x)) (fun p=>decide (p.name=n.name)):=⟨_,_,_,rfl,fun p hp=>⟨_,qm9 p n,.zk (HF.agg (Um p)) (.zk (J0 n) .nil)⟩⟩;refine tU (XL false ts.sT _ (fun p=>decide (p.name=n.name)) b4 (zW1 h.np)) (.zk (wX _) (.zk (HF.fn zSp (fun x hx=>by grind [J0])) .nil)) ?_;rw[an];have b5:p∈ts.sT:=List.mem_of_find?_eq_some hp;obtain⟨b6,b7⟩:=hb p b5;have ao:=hw.len;have a5:=Qy p;simp[go_sem,hi,b3,a5];have aq:StOk (qm ts es) (payS 1 s):=(Qd hs zOm T).ok hs;have J:vU (yE (fun k s=>expI ts es f env k body s) p.params n.sD [] (payS 1 s)) (fun own s'=>expI ts es f own p.body true s')=R:=zUs J;generalize hQ:yE (fun k s=>expI ts es f env k body s) p.params n.sD [] (payS 1 s)=Q at *
   refine aA n.sD.length (fun k U=>∃(o:List (tZ×AP)) (P:ISt),U.tm 0 = .ptr xb 0/\U.tm 1=eEnv env/\U.tm 3=aB body/\U.tm 8 = .ptr (mu.length+1) 0/\U.tm 10 = .ptr (mu.length+2) 0/\U.tm 11 = .mp (mu.length+3)/\U.tm 52=lNd n.sD/\U.tm 53=aI n.sD.length/\U.tm 54=aI k /\
    But xb mu U.mu/\mu.length+3<U.mu.length/\U.mu[xb]?=some (.arr (cIn ts tb P))/\U.mu[mu.length+1]?=some (.arr [aI 0,aS ⟨#[]⟩,aI 0,.lst true [],aI 0])/\U.mu[mu.length+2]?=some (.arr (cPd p))/\U.mu[mu.length+3]?=some (.mp (encK aS eAP o)) /\
    (∀ e,e∈o->mu.length+3<e.2.1/\e.2.1<U.mu.length/\U.mu[e.2.1]?=some (.arr (cNd e.2.2.2)))/\zm (ownA o)/\(o.map Prod.fst).Nodup/\StOk (qm ts es) P/\s.sM+1<=P.sM/\yE (fun k s=>expI ts es f env k body s) (p.params.drop k) (n.sD.drop k) (ownA o) P=Q) ?_ ?_
   .refine ⟨[],payS 1 s,zSi,zSi,zSi,zSi,by simp[go_sem,a8],by simp[go_sem,a8],zSi,zSi,zSi,?_,?_,?_,?_,?_,?_,zSp,.nil,zSp,aq,by show _<=s.sM+1;omega,zUs hQ⟩
    all_goals simp only[qI]
    .exact al.trans (But.app xb M1 _)
    .simp;omega
    .grind
    .grind
    .grind
    grind
   .rintro k U hk ⟨o,P,e0,e1,e3,e8,ad,ae,ar,af,ag,C,hl,gx,gr,gp,gm,au,a9,ah,a6,b8,hI⟩
    have b9:U.mu[tb]?=some (.mp (eSet es)):=by rw[C.same tb b2 (fun e=>by grind)];exact ht
    by_cases ao:k=n.sD.length
    .subst ao
     simp[go_sem,e0,ad,ae,af,ag,gp];rw[zU,List.drop_of_length_le zOm]at hI;have hI:Q = .ok (ownA o,P):=hI.symm;rw[hI]at J;have J:expI ts es f (ownA o) p.body true P=R:=J;have av:∀ i,i<mu.length+3->(cutM (fun i=>!decide (mu.length+3<=i)) U.mu 0)[i]?=U.mu[i]?:=fun i hi=>vT zSo
     have g:=ih (ownA o) p.body true P (cutM (fun i=>!decide (mu.length+3<=i)) U.mu 0) xb zOm a6 a9 b6 b7 (by grind) (by grind);rw[J]at g;have g:=qv.freeze (mu:=U.mu) (args:=[.ptr xb 0,.mp (mu.length+3),eNd p.body,aB true]) (args1:=[.ptr xb 0,eEnv (ownA o),eNd p.body,aB true]) (fun i=>decide (mu.length+3<=i)) ⟨.inl rfl,.inr (qcD (by grind [vT]) ah (fun e he=>by
      grind [vT])),.inl rfl,.inl rfl,trivial⟩ g
     cases R with
     |error d =>
      refine fZ g (by rintro r m ⟨e,_⟩;cases e) ?_;rintro r m ⟨e,t⟩;cases e;simp[go_sem];exact⟨rfl,(C.cut fun i hi=>zSo).trans t⟩
     |ok q =>
      obtain⟨⟨n',k'⟩,s'⟩:=q;refine fZ g ?_ (by rintro r m ⟨e,_⟩;cases e);rintro r m ⟨e,aw,t⟩;cases e;have ai:=t.len;rw[jC]at ai;have ax:mu.length+1<m.length:=zOm;have bc:m[mu.length+1]?=some (.arr [aI 0,aS ⟨#[]⟩,aI 0,.lst true [],aI 0]):=by rw[t.same _ (by rw[jC];omega) zOm,av _ zOm];exact gr
      have ay:∀ c,(m.set (mu.length+1) c)[mu.length+1]?=some c:=fun c=>qz ax
      simp[go_sem,e8,bc,ay];refine⟨rfl,by grind,?_⟩;exact((C.cut fun i hi=>zSo).trans t).setN zOm _
    .have a7:k<n.sD.length:=by omega
     have w1:=zWk k;have aa:k<p.params.length:=zOm;rw[zg a7,zg aa]at hI;simp only[yE]at hI;simp[go_sem,e0,e1,e3,ar,af,ag,a7];have a0:∀ i,i<U.mu.length->(U.mu++[Cell.arr (cNd n.sD[k])])[i]?=U.mu[i]?:=fun i hi=>qG hi
     have az:n.sD[k]∈n.sD:=qt a7;have g:=ih env n.sD[k] body P (U.mu++[Cell.arr (cNd n.sD[k])]) xb zOm a6 he (hw.kid az) (aj.kid az) (by grind) (by rw[a0 _ zOm];exact b9);have be:∀{n' z s'},expI ts es f env n.sD[k] body P = .ok ((n',z),s')->Gos (qm ts es) P s' z:=fun e=>jJ ts b0 f a6 he e
     generalize hE:expI ts es f env n.sD[k] body P=E at *
     cases E with
     |error d =>
      have hI:Q = .error d:=hI.symm;rw[hI]at J;have J:R = .error d:=J.symm;subst J;refine fZ g (by rintro r m ⟨e,_⟩;cases e) ?_;rintro r m ⟨e,t⟩;cases e;simp[go_sem];exact⟨rfl,C.trans ((But.app xb U.mu _).trans t)⟩
     |ok q =>
      obtain⟨⟨n',k'⟩,s'⟩:=q;have hg:=be rfl;simp only at hI;refine fZ g ?_ (by rintro r m ⟨e,_⟩;cases e);rintro r m ⟨e,aw,t⟩;cases e;have ai:=t.len;simp only[zh,yh,List.length_nil]at ai;have I:∀ i,i<U.mu.length->i≠xb->m[i]?=U.mu[i]?:=fun i hi bg=>by rw[t.same i zSo bg,a0 i hi]
      have bh:∀ l,(m++l)[mu.length+2]?=some (.arr (cPd p)):=fun l=>by rw[zGa,I _ zOm zOm];exact gp
      have bi:∀ l,(m++l)[mu.length+3]?=some (.mp (encK aS eAP o)):=fun l=>by grind
      have hu:=fun l=>updAP (bi l) p.params[k].1 (m.length,k',n')
      simp[go_sem,ad,ae,bh,aa];refine tH _ (hu _) ?_;generalize hN:(m++[Cell.arr (cNd n')]).set (mu.length+3) (.mp (encK aS eAP (setK p.params[k].1 (m.length,k',n') o)))=N;have bu:N.length=m.length+1:=by rw[<-hN];simp
      have a4:∀ i,i<m.length->i≠mu.length+3->N[i]?=m[i]?:=fun i h1 h2=>by rw[<-hN,zGl,qG h1]
      have bj:N[mu.length+3]?=some (.mp (encK aS eAP (setK p.params[k].1 (m.length,k',n') o))):=by rw[<-hN,qz zSo]
      have bk:N[m.length]?=some (.arr (cNd n')):=by rw[<-hN,zGl,yd (qj _)];simp
      simp[go_sem,ag,w1];refine⟨a7,aC ?_⟩;have bl:k'<=4000:=zW2 hg.cz hg.c1;refine⟨setK p.params[k].1 (m.length,k',n') o,s',zS1 e0,zS1 e1,zS1 e3,zS1 e8,zS1 ad,zS1 ae,zS1 ar,zS1 af,zSi,?_,?_,?_,?_,?_,?_,?_,?_,u6 ah,hg.ok a6,zW2 hg.cz hg.z0,?_⟩
      all_goals try simp only[qI]
      .refine ⟨zW1 C.len,fun i h1 h2=>?_⟩
       rw[a4 i zOm zOm,I i zOm h2];exact C.same i h1 h2
      .omega
      .rw [a4 _ zOm zOm];exact aw
      .rw [a4 _ zOm zOm,I _ zOm zOm];exact gr
      .rw [a4 _ zOm zOm,I _ zOm zOm];exact gp
      .exact bj
      .intro e he
       rcases (Zh ah).1 he with rfl|⟨he,_⟩
       .exact ⟨by show _<m.length;omega,by show m.length<_;omega,bk⟩
       .obtain ⟨a1,a2,a3⟩:=au e he
        exact⟨a1,zOm,by rw[a4 _ zOm zOm,I _ zOm zOm];exact a3⟩
      .unfold ownA
       rw[KP (fun a:AP=>ivA a)];exact a9.set ⟨hg.z0,bl⟩
      .unfold ownA
       rw[KP (fun a:AP=>ivA a)];exact hI
  grind
 .rintro r m ⟨rfl,e⟩
  by_cases T:s.sM+1<=4000
  .rw [if_pos T]at e;cases e
  .rw [if_neg T]at e J
   cases e;subst J;simp[go_sem];exact⟨rfl,(But.app xb mu _).trans (cH xb _ _)⟩
theorem qcE(op):decide (op=15\/op=45\/op=46)=binB op:=by
 grind [binB]
theorem Zj{lo sz mu' av xs}(h:OwnF lo mu sz av xs)(l:lo<=mu'.length)(o:∀ i,lo<=i->i<mu.length->mu'[i]?=mu[i]?):OwnF lo mu' sz av xs:=by
 obtain⟨p,g,_⟩:=h;refine⟨?_,g,l⟩;rcases p with rfl|⟨b,rfl,j⟩
 .exact .inl rfl
 .exact .inr ⟨b,rfl,by rw[o b (g b _ _ _ rfl) (qh.1 j).1];exact j⟩
theorem UX(l:List Nd):qW 5 (l.map cNd):=fun r g=>by
 obtain⟨n,_,rfl⟩:=qn.1 g
 grind [ZD,JG]
theorem UY{lo s xs k K}(g:OwnF lo mu 5 s (xs.map cNd))(j:xs.length<=100000)(o:∀ av mu',OwnF lo mu' 5 av ((xs++[k]).map cNd)->(∀ i,i<lo->mu'[i]?=mu[i]?)->K av mu') :
  qw qc mu #[32,32] s (.lst true [cNd k]) K:=by
 refine qw.ownF (lo:=lo) (e:=34) (sz:=5) (bt:=64) (zv := .agg [aI 0,aS ⟨#[]⟩,aI 0,.lst true [],aI 0]) (xs:=xs.map cNd) (ys:=[cNd k]) zSi zSi zSi rfl rfl zOm zOm g (by simp[qA]) (UX xs) (UX [k]) zSo ?_
 grind
theorem qnD(ts)(h:okTS ts)(es)(hF:qm ts es<=200000)(aw:Free ts es)(tb f)(ih:IHE ts es tb f)(env n body)(s:ISt)(mu xb)
  (hc:4000<s.sM+(f+1:Nat)) (hs:StOk (qm ts es) s) (he:zm env) (hw:WfN n) (bm:yK ts n) (hx:mu[xb]?=some (.arr (cIn ts tb s))) (ht:mu[tb]?=some (.mp (eSet es))) (h1:¬n.op=1) (h47:¬n.op=47) :
  qv qc 116 [.ptr xb 0,eEnv env,eNd n,aB body] mu (endE ts tb mu xb (expI ts es (f+1) env n body s)):=by
 have cv:=hs.c0;have cw:=hs.c1;have cx:xb<mu.length:=(qh.1 hx).1;have cg:tb<mu.length:=(qh.1 ht).1;have br:tb≠xb:=fun e=>by grind
 generalize hR:expI ts es (f+1) env n body s=R;simp only[expI,h1,h47,if_false]at hR;refine fH ?_;refine qSW call116 func116 rfl { mt:=[6] } ?_;simp[go_sem];refine fZ (payU ts tb s 1 ⟨zOm,zOm⟩ ⟨zOm,zOm⟩ (by grind)) ?_ ?_
 .rintro r m ⟨rfl,e⟩
  by_cases a7:s.sM+1<=4000
  .rw [if_pos a7]at e hR
   cases e;have hM:=M0.of (s':=payS 1 s) (n:=n) hx ht;generalize cy:(mu++[Cell.arr (cNd n),.arr [aI 0,aS ⟨#[]⟩,aI 0,.lst true [],aI 0]]).set xb (.arr (cIn ts tb (payS 1 s)))=M at *
   have da:=hM.len;have bs:=hw.len;have ax:StOk (qm ts es) (payS 1 s):=(Qd hs zOm a7).ok hs;have bt:∀ c,(M.set mu.length c)[mu.length]?=some c:=fun c=>qz zOm
   have ch:=yP n;simp[go_sem,hM.n,h1,h47,ch];refine aA n.sD.length (fun k U=>∃(I:List Nd) (j:IEnv) (C:tZ) (s2:ISt) (t:AV) (z:Int),U.tm 0 = .ptr xb 0/\U.tm 1=eEnv j/\U.tm 3=aB body/\U.tm 6 = .ptr mu.length 0/\U.tm 8 = .ptr (mu.length+1) 0/\U.tm 17=aI z/\U.tm 87=lNd n.sD/\U.tm 88=aI n.sD.length/\U.tm 89=aI k /\
    But xb mu U.mu/\U.mu[xb]?=some (.arr (cIn ts tb s2))/\U.mu[mu.length+1]?=some (.arr [aI 0,aS ⟨#[]⟩,aI 0,.lst true [],aI 0])/\U.mu[mu.length]?=some (.arr [aI n.op,aS C,aI n.n,t,aI n.pos])/\OwnF (mu.length+2) U.mu 5 t (I.map cNd)/\zm j/\I.length=k /\
    0<=s2.last/\0<=s2.sM/\s2.sM<=4000/\dueN (qm ts es) (binB n.op) k<=pot (qm ts es) s2/\s.sM+1<=s2.sM/\1<=z/\z<=s2.sM-s.sM /\
    vU (zE (fun env k s=>expI ts es f env k body s) (fun env nm s=>renI ts es env nm body s) (binB n.op) k j C (n.sD.drop k) s2) (fun r s' => .ok ((.mk n.op r.1 n.n (I++r.2.1) n.pos,z+r.2.2),s'))=R) ?_ ?_
   .refine ⟨[],env,n.name,payS 1 s,.lst true [],1,zSi,zSi,zSi,zSi,zSi,zSi,zSi,zSi,zSi,?_,?_,?_,?_,?_,he,rfl,ax.l0,ax.c0,ax.c1,?_,by show _<=s.sM+1;omega,zOm,by show _<=s.sM+1-_;omega,zUs hR⟩
    all_goals try simp only[qI]
    .exact hM.but.setN (qj _) _
    .grind
    .grind
    .exact bt _
    .grind [OwnF.nil]
    .rw [ZR];have:=hs.p;grind [dueN]
   .rintro k U hk ⟨I,j,C,s2,t,z,e0,e1,e3,e6,e8,bc,ao,ag,ah,a8,gx,gr,gn,go,be,db,aq,bg,bh,bj,ai,dc,bn,hI⟩
    have gt:U.mu[tb]?=some (.mp (eSet es)):=by rw[a8.same tb cg br];exact ht
    have cu:mu.length+2<=U.mu.length:=go.2.2;by_cases bs:k=n.sD.length
    .subst bs
     have bu:=go.cells;have bk:=go.one;have bo:∀ c,(U.mu.set (mu.length+1) c)[mu.length+1]?=some c:=fun c=>qz zOm
     rw[zU]at hI;have hI:R = .ok ((.mk n.op C n.n I n.pos,z),s2):=by grind [zE,vU]
     simp[go_sem,e6,e8,bc,ag,ah,gn,gr,bk,bo];rw[hI];have bq:(U.mu.set (mu.length+1) (.arr [aI n.op,aS C,aI n.n,t,aI n.pos])).length=U.mu.length:=zSp;refine .inr ⟨fun i=>decide (mu.length+2<=i),.tup [eNd (.mk n.op C n.n I n.pos),aI z],.rd _ _ (.tup _ _ rfl fun k x y hx hy=>?_),rfl,?_,?_⟩
     .match k with
      | 0 =>
       simp at hx hy;subst hx;subst hy;have cj:eNd (.mk n.op C n.n I n.pos) = .agg [aI n.op,aS C,aI n.n,.lst false (I.map cNd),aI n.pos]:=by
        show AV.agg (cNd _)=_;rw[yP];rfl
       rw[cj];refine .agg _ _ rfl fun k x y hx hy=>?_
       match k with
       | 0=>simp at hx hy;subst hx;subst hy;exact .zsc _
       | 1=>simp at hx hy;subst hx;subst hy;exact .zsc _
       | 2=>simp at hx hy;subst hx;subst hy;exact .zsc _
       | 3 =>
        simp at hx hy;subst hx;subst hy;exact UD (go.set zOm) (UX I).ok fun r hr c hc=>by
         obtain⟨x,_,rfl⟩:=qn.1 hr;exact y8 x c hc
       | 4=>simp at hx hy;subst hx;subst hy;exact .zsc _
       |k+5=>simp at hx
      | 1=>simp at hx hy;subst hx;subst hy;exact .zsc _
      |k+2=>simp at hx
     .rw [vT zSo,zGl];exact gx
     .exact (a8.setN zOm _).cut fun i hi=>zSo
    .have a4:k<n.sD.length:=by omega
     have w1:=zWk k;have w2:ql.wrap 2=2:=rfl;rw[zg a4]at hI;simp only[zE]at hI;have g:∀(l:List Cell)(i:Nat),i<U.mu.length->(U.mu++l)[i]?=U.mu[i]?:=fun l i hi=>qG hi
     have ar:∀ l,(U.mu++l)[mu.length]?=some (.arr [aI n.op,aS C,aI n.n,t,aI n.pos]):=fun l=>by rw[g l _ zOm];exact gn
     have bu:=go.cells;have bk:=go.one;by_cases hb:binB n.op=true/\k=1
     .obtain ⟨ay,rfl⟩:=hb
      rw[if_pos ⟨ay,rfl⟩]at hI;have az:(1:Int)<n.sD.length:=zOm;simp[go_sem,az,e6,ao,ag,ah,a4,ar];have b0:=YX.qaP n.op;rw[qcE,ay]at b0;refine tU b0 (.zs .nil) ?_;have ck:=StOk.last (F:=qm ts es) ⟨aq,bg,bh,zW1 (ZS (qm ts es) (binB n.op) 1)⟩;have bv:=qm0 ts h s2 es ⟨aq,zOm⟩ tb (aw _ aq) j be.nd C body (mu:=U.mu++[Cell.arr (cNd n.sD[1])]) (xb:=xb) (by rw[g _ _ zOm];exact gx) (by rw[g _ _ zOm];exact gt);have aj:=Va (env:=j) (nm:=C) (body:=body) aw aq;have bw:=J9 (ts:=ts) (es:=es) (nm:=C) (body:=body) (s:=s2) be;generalize renI ts es j C body s2=r at *
      obtain⟨⟨a5,au⟩,s3⟩:=r;simp only at aj bw hI;simp[go_sem,e0,e1,e3,e6,ar];refine fZ bv ?_ (by rintro r m ⟨e,_⟩;cases e);rintro r m1 ⟨e,a6,cl⟩;cases e;have ca:=a6.len;simp only[zh,yh,List.length_nil]at ca;have cm:m1[mu.length]?=some (.arr [aI n.op,aS C,aI n.n,t,aI n.pos]):=by rw[a6.same _ zSo zOm];exact ar _
      have cn:m1[mu.length+1]?=some (.arr [aI 0,aS ⟨#[]⟩,aI 0,.lst true [],aI 0]):=by rw[a6.same _ zSo zOm,g _ _ zOm];exact gr
      have cp:m1[U.mu.length]?=some (.arr (cNd n.sD[1])):=by rw[a6.same _ zSp zOm,yd (qj _)];simp
      have cq:m1[tb]?=some (.mp (eSet es)):=by rw[a6.same _ zSo br,g _ _ zOm];exact gt
      have cr:OwnF (mu.length+2) m1 5 t (I.map cNd):=Zj go zOm fun i q1 q2=>by rw[a6.same i zSo zOm,g _ _ q2]
      have al:∀ c i,i≠mu.length->(m1.set mu.length c)[i]?=m1[i]?:=fun c i hi=>zH (fun e=>hi e.symm)
      have cs:∀ c,(m1.set mu.length c)[U.mu.length]?=some (.arr (cNd n.sD[1])):=fun c=>by rw[al _ _ zOm];exact cp
      simp[go_sem,e0,e3,e6,cm,cs];generalize ak:m1.set mu.length (.arr [aI n.op,aS au,aI n.n,t,aI n.pos])=M2;have bl:U.mu.length+1<=M2.length:=by rw[<-ak];simp;omega
      have b1:M2[xb]?=some (.arr (cIn ts tb s3)):=by rw[<-ak,al _ _ zOm];exact cl
      have b2:M2[tb]?=some (.mp (eSet es)):=by rw[<-ak,al _ _ zOm];exact cq
      have b3:M2[mu.length]?=some (.arr [aI n.op,aS au,aI n.n,t,aI n.pos]):=by rw[<-ak];exact qz zOm
      have b4:M2[mu.length+1]?=some (.arr [aI 0,aS ⟨#[]⟩,aI 0,.lst true [],aI 0]):=by rw[<-ak,al _ _ zOm];exact cn
      have a3:OwnF (mu.length+2) M2 5 t (I.map cNd):=by rw[<-ak];exact cr.set zOm
      have a9:But xb mu M2:=by
       rw[<-ak];exact(a8.trans ((But.app xb U.mu _).trans a6)).setN (qj _) _
      have dd:dueN (qm ts es) (binB n.op) 1=(qm ts es:Nat):=if_pos ⟨ay,zOm⟩;have de:dueN (qm ts es) (binB n.op) (1+1)=0:=zIn;have df:pot (qm ts es) s2-(qm ts es:Nat)<=pot (qm ts es) s3:=by unfold pot;rw[aj.2.2];omega
      have a2:StOk (qm ts es) s3:=⟨aj.1,by rw[aj.2.2];exact bg,by rw[aj.2.2];exact bh,zOm⟩;have b5:dueN (qm ts es) (binB n.op) (1+1)<=pot (qm ts es) s3:=zOm;have an:s.sM+1<=s3.sM:=by rw[aj.2.2];exact ai
      have cb:z<=s3.sM-s.sM:=by rw[aj.2.2];exact bn
      have P:zm a5:=bw;have bi:True:=trivial;have aa:n.sD[1]∈n.sD:=qt a4;have T:=ih a5 n.sD[1] body s3 M2 xb zOm a2 P (hw.kid aa) (bm.kid aa) b1 b2;have b6:∀{n' z s'},expI ts es f a5 n.sD[1] body s3 = .ok ((n',z),s')->Gos (qm ts es) s3 s' z:=fun e=>jJ ts aw f a2 P e
      generalize hE:expI ts es f a5 n.sD[1] body s3=E at *
      cases E with
      |error d =>
       have hI:R = .error d:=hI.symm;subst hI;refine fZ T (by rintro r m ⟨e,_⟩;cases e) ?_;rintro r m ⟨e,o⟩;cases e;simp[go_sem];exact⟨rfl,a9.trans o⟩
      |ok q =>
       obtain⟨⟨n',k'⟩,s'⟩:=q;have J:=b6 rfl;simp only at hI;refine fZ T ?_ (by rintro r m ⟨e,_⟩;cases e);rintro r m ⟨e,b7,o⟩;cases e;have bq:=o.len;have ab:∀ l,(m++l)[mu.length]?=some (.arr [aI n.op,aS au,aI n.n,t,aI n.pos]):=fun l=>by rw[zGa,o.same _ zOm zOm];exact b3
       have a7:=a3.cells;have cc:=a3.one;have b8:ql.wrap (z+k')=z+k':=yi (zW1 J.z0) (zW2 J.cz J.c1);have b9:OwnF (mu.length+2) (m++[Cell.arr (cNd n')]) 5 t (I.map cNd):=Zj a3 zSo fun i h1 h2=>by rw[zGa,o.same i zOm zOm]
       simp[go_sem,e6,ab];refine UY b9 zOm fun bb m' a0 a1=>?_
       have cd:=a0.2.2;have ad:m'[mu.length]?=some (.arr [aI n.op,aS au,aI n.n,t,aI n.pos]):=by rw[a1 _ zOm];exact ab _
       have ae:=a0.cells;have af:=a0.one;simp[go_sem,e6,bc,ah,ad,ae,af,b8,w2];refine⟨a4,aC ?_⟩;refine⟨I++[n'],a5,au,s',bb,z+k',zS1 e0,zSi,zS1 e3,zS1 e6,zS1 e8,zSi,zS1 ao,zS1 ag,zSi,?_,?_,?_,?_,?_,P,zSo,J.l0,zW2 J.cz J.z0,J.c1,Int.le_trans b5 J.p,zW2 J.cz J.z0,zW1 J.z0,zW1 J.cz,?_⟩
       all_goals try simp only[qI]
       .refine ⟨zSo,fun i h1 h2=>?_⟩
        rw[zGl,a1 i zOm,zGa,o.same i zOm h2];exact a9.same i h1 h2
       .rw [zGl,a1 _ zOm,zGa];exact b7
       .rw [zGl,a1 _ zOm,zGa,o.same _ zOm zOm];exact b4
       .exact qz zOm
       .exact a0.set zOm
       .rw [<-hI]
        generalize zE (fun env k s=>expI ts es f env k body s) (fun env nm s=>renI ts es env nm body s) (binB n.op) (1+1) a5 au (n.sD.drop (1+1)) s'=W;cases W with
        |error e=>rfl
        |ok q=>simp[vU,Int.add_assoc]
     .rw [if_neg hb]at hI
      by_cases ct:k=1
      .subst ct
       have a6:binB n.op=false:=zUs hb;have az:(1:Int)<n.sD.length:=zOm;simp[go_sem,az,e6,ao,ag,ah,a4,ar];have b0:=YX.qaP n.op;rw[qcE,a6]at b0;refine tU b0 (.zs .nil) ?_;simp[go_sem,e0,e1,e3];have bl:U.mu.length+1<=(U.mu++[Cell.arr (cNd n.sD[1])]).length:=zSp;have b1:(U.mu++[Cell.arr (cNd n.sD[1])])[xb]?=some (.arr (cIn ts tb s2)):=by rw[g _ _ zOm];exact gx
       have b2:(U.mu++[Cell.arr (cNd n.sD[1])])[tb]?=some (.mp (eSet es)):=by rw[g _ _ zOm];exact gt
       have b3:=ar [Cell.arr (cNd n.sD[1])];have b4:(U.mu++[Cell.arr (cNd n.sD[1])])[mu.length+1]?=some (.arr [aI 0,aS ⟨#[]⟩,aI 0,.lst true [],aI 0]):=by rw[g _ _ zOm];exact gr
       have a3:OwnF (mu.length+2) (U.mu++[Cell.arr (cNd n.sD[1])]) 5 t (I.map cNd):=Zj go zOm fun i q1 q2=>g _ _ q2
       have a9:But xb mu (U.mu++[Cell.arr (cNd n.sD[1])]):=a8.trans (But.app xb U.mu _);have a2:StOk (qm ts es) s2:=⟨aq,bg,bh,zW1 (ZS (qm ts es) (binB n.op) 1)⟩;have b5:dueN (qm ts es) (binB n.op) (1+1)<=pot (qm ts es) s2:=by rw[<-UW hb];exact bj
       have an:=ai;have cb:=bn;have P:=be;have bi:=e1;generalize U.mu++[Cell.arr (cNd n.sD[1])]=M2 at *
       have aa:n.sD[1]∈n.sD:=qt a4;have T:=ih j n.sD[1] body s2 M2 xb zOm a2 P (hw.kid aa) (bm.kid aa) b1 b2;have b6:∀{n' z s'},expI ts es f j n.sD[1] body s2 = .ok ((n',z),s')->Gos (qm ts es) s2 s' z:=fun e=>jJ ts aw f a2 P e
       generalize hE:expI ts es f j n.sD[1] body s2=E at *
       cases E with
       |error d =>
        have hI:R = .error d:=hI.symm;subst hI;refine fZ T (by rintro r m ⟨e,_⟩;cases e) ?_;rintro r m ⟨e,o⟩;cases e;simp[go_sem];exact⟨rfl,a9.trans o⟩
       |ok q =>
        obtain⟨⟨n',k'⟩,s'⟩:=q;have J:=b6 rfl;simp only at hI;refine fZ T ?_ (by rintro r m ⟨e,_⟩;cases e);rintro r m ⟨e,b7,o⟩;cases e;have bq:=o.len;have ab:∀ l,(m++l)[mu.length]?=some (.arr [aI n.op,aS C,aI n.n,t,aI n.pos]):=fun l=>by rw[zGa,o.same _ zOm zOm];exact b3
        have a7:=a3.cells;have cc:=a3.one;have b8:ql.wrap (z+k')=z+k':=yi (zW1 J.z0) (zW2 J.cz J.c1);have b9:OwnF (mu.length+2) (m++[Cell.arr (cNd n')]) 5 t (I.map cNd):=Zj a3 zSo fun i h1 h2=>by rw[zGa,o.same i zOm zOm]
        simp[go_sem,e6,ab];refine UY b9 zOm fun bb m' a0 a1=>?_
        have cd:=a0.2.2;have ad:m'[mu.length]?=some (.arr [aI n.op,aS C,aI n.n,t,aI n.pos]):=by rw[a1 _ zOm];exact ab _
        have ae:=a0.cells;have af:=a0.one;simp[go_sem,e6,bc,ah,ad,ae,af,b8,w2];refine⟨a4,aC ?_⟩;refine⟨I++[n'],j,C,s',bb,z+k',zS1 e0,zS1 bi,zS1 e3,zS1 e6,zS1 e8,zSi,zS1 ao,zS1 ag,zSi,?_,?_,?_,?_,?_,P,zSo,J.l0,zW2 J.cz J.z0,J.c1,Int.le_trans b5 J.p,zW2 J.cz J.z0,zW1 J.z0,zW1 J.cz,?_⟩
        all_goals try simp only[qI]
        .refine ⟨zSo,fun i h1 h2=>?_⟩
         rw[zGl,a1 i zOm,zGa,o.same i zOm h2];exact a9.same i h1 h2
        .rw [zGl,a1 _ zOm,zGa];exact b7
        .rw [zGl,a1 _ zOm,zGa,o.same _ zOm zOm];exact b4
        .exact qz zOm
        .exact a0.set zOm
        .rw [<-hI]
         generalize zE (fun env k s=>expI ts es f env k body s) (fun env nm s=>renI ts es env nm body s) (binB n.op) (1+1) j C (n.sD.drop (1+1)) s'=W;cases W with
         |error e=>rfl
         |ok q=>simp[vU,Int.add_assoc]
      .have cf:¬(k:Int)=1:=by omega
       simp[go_sem,e0,e1,e3,ao,ag,ah,a4,cf];have bl:U.mu.length+1<=(U.mu++[Cell.arr (cNd n.sD[k])]).length:=zSp;have b1:(U.mu++[Cell.arr (cNd n.sD[k])])[xb]?=some (.arr (cIn ts tb s2)):=by rw[g _ _ zOm];exact gx
       have b2:(U.mu++[Cell.arr (cNd n.sD[k])])[tb]?=some (.mp (eSet es)):=by rw[g _ _ zOm];exact gt
       have b3:=ar [Cell.arr (cNd n.sD[k])];have b4:(U.mu++[Cell.arr (cNd n.sD[k])])[mu.length+1]?=some (.arr [aI 0,aS ⟨#[]⟩,aI 0,.lst true [],aI 0]):=by rw[g _ _ zOm];exact gr
       have a3:OwnF (mu.length+2) (U.mu++[Cell.arr (cNd n.sD[k])]) 5 t (I.map cNd):=Zj go zOm fun i q1 q2=>g _ _ q2
       have a9:But xb mu (U.mu++[Cell.arr (cNd n.sD[k])]):=a8.trans (But.app xb U.mu _);have a2:StOk (qm ts es) s2:=⟨aq,bg,bh,zW1 (ZS (qm ts es) (binB n.op) k)⟩;have b5:dueN (qm ts es) (binB n.op) (k+1)<=pot (qm ts es) s2:=by rw[<-UW hb];exact bj
       have an:=ai;have cb:=bn;have P:=be;have bi:=e1;generalize U.mu++[Cell.arr (cNd n.sD[k])]=M2 at *
       have aa:n.sD[k]∈n.sD:=qt a4;have T:=ih j n.sD[k] body s2 M2 xb zOm a2 P (hw.kid aa) (bm.kid aa) b1 b2;have b6:∀{n' z s'},expI ts es f j n.sD[k] body s2 = .ok ((n',z),s')->Gos (qm ts es) s2 s' z:=fun e=>jJ ts aw f a2 P e
       generalize hE:expI ts es f j n.sD[k] body s2=E at *
       cases E with
       |error d =>
        have hI:R = .error d:=hI.symm;subst hI;refine fZ T (by rintro r m ⟨e,_⟩;cases e) ?_;rintro r m ⟨e,o⟩;cases e;simp[go_sem];exact⟨rfl,a9.trans o⟩
       |ok q =>
        obtain⟨⟨n',k'⟩,s'⟩:=q;have J:=b6 rfl;simp only at hI;refine fZ T ?_ (by rintro r m ⟨e,_⟩;cases e);rintro r m ⟨e,b7,o⟩;cases e;have bq:=o.len;have ab:∀ l,(m++l)[mu.length]?=some (.arr [aI n.op,aS C,aI n.n,t,aI n.pos]):=fun l=>by rw[zGa,o.same _ zOm zOm];exact b3
        have a7:=a3.cells;have cc:=a3.one;have b8:ql.wrap (z+k')=z+k':=yi (zW1 J.z0) (zW2 J.cz J.c1);have b9:OwnF (mu.length+2) (m++[Cell.arr (cNd n')]) 5 t (I.map cNd):=Zj a3 zSo fun i h1 h2=>by rw[zGa,o.same i zOm zOm]
        simp[go_sem,e6,ab];refine UY b9 zOm fun bb m' a0 a1=>?_
        have cd:=a0.2.2;have ad:m'[mu.length]?=some (.arr [aI n.op,aS C,aI n.n,t,aI n.pos]):=by rw[a1 _ zOm];exact ab _
        have ae:=a0.cells;have af:=a0.one;simp[go_sem,e6,bc,ah,ad,ae,af,b8,w1];refine⟨a4,aC ?_⟩;refine⟨I++[n'],j,C,s',bb,z+k',zS1 e0,zS1 bi,zS1 e3,zS1 e6,zS1 e8,zSi,zS1 ao,zS1 ag,zSi,?_,?_,?_,?_,?_,P,zSo,J.l0,zW2 J.cz J.z0,J.c1,Int.le_trans b5 J.p,zW2 J.cz J.z0,zW1 J.z0,zW1 J.cz,?_⟩
        all_goals try simp only[qI]
        .refine ⟨zSo,fun i h1 h2=>?_⟩
         rw[zGl,a1 i zOm,zGa,o.same i zOm h2];exact a9.same i h1 h2
        .rw [zGl,a1 _ zOm,zGa];exact b7
        .rw [zGl,a1 _ zOm,zGa,o.same _ zOm zOm];exact b4
        .exact qz zOm
        .exact a0.set zOm
        .rw [<-hI]
         generalize zE (fun env k s=>expI ts es f env k body s) (fun env nm s=>renI ts es env nm body s) (binB n.op) (k+1) j C (n.sD.drop (k+1)) s'=W;cases W with
         |error e=>rfl
         |ok q=>simp[vU,Int.add_assoc]
  grind
 .rintro r m ⟨rfl,e⟩
  by_cases a7:s.sM+1<=4000
  .rw [if_pos a7]at e;cases e
  .rw [if_neg a7]at e hR
   cases e;subst hR;simp[go_sem];exact⟨rfl,(But.app xb mu _).trans (cH xb _ _)⟩
theorem KQ(ts)(h:okTS ts)(I:∀ p,p∈ts.sT->WfN p.body/\yK ts p.body)(es)(l:qm ts es<=200000)(g:Free ts es)(tb):∀ f,IHE ts es tb f
 | 0=>fun env n body s mu xb J j o P i t C=>zW1 j.c1
 |f+1=>fun env n body s mu xb J j o P i t C=>by
  by_cases R:n.op=1
  .have:=qnA ts es tb env n body s mu xb j o t C R
   simp_all[expI,ve,payS,if_true]
  .by_cases h47:n.op=47
   .exact qnC ts h I es l g tb f (KQ ts h I es l g tb f) env n body s mu xb J j o P i t C h47
   .exact qnD ts h es l g tb f (KQ ts h I es l g tb f) env n body s mu xb J j o P i t C R h47
end
end YD
namespace YE
open P1 P2 Y1 Y9 YX YZ YB YC YD
mutual
def cntT:Nd->Int
 | .mk _ _ _ ks _=>1+yS ks
def yS:List Nd->Int
 | []=>0
 |k :: ks=>cntT k+yS ks
end
theorem Vb(n):cntT n=1+yS n.sD:=by
 obtain⟨op,nm,i,ks,p⟩:=n;simp[cntT,Nd.sD]
mutual
theorem UZ:∀ n:Nd,1<=cntT n
 | .mk _ _ _ ks _=>by simp only[cntT];have:=U0 ks;omega
theorem U0:∀ ks:List Nd,0<=yS ks
 | []=>by simp[yS]
 |k :: ks=>by simp only[yS];have:=UZ k;have:=U0 ks;omega
end
mutual
theorem KS:∀ n:Nd,depN n<=cntT n
 | .mk _ _ _ ks _=>by simp only[cntT,depN];have:=qcF ks;omega
theorem qcF:∀ ks:List Nd,yq ks<=yS ks
 | []=>by simp[yq,yS]
 |k :: ks=>by
  simp only[yS,yq];have:=KS k;have:=qcF ks;have:=UZ k;have:=U0 ks;omega
end
section
variable {J:Type}{R:IEnv->tZ->ISt->(IEnv×tZ)×ISt}{es:List (tZ×Bool)}{E:Nd->ISt->XR (Nd×Int)}
def uH(env:IEnv):Prop:=∀ e,e∈env->∀ a,e.2.arg=some a->e.2.size=cntT a/\Small a
theorem KU{g}[DecidableEq g]{k v}:∀{es:List (g×J)},getK k es=some v->(k,v)∈es
 | [],h=>by simp[getK]at h
 |e :: es,h=>by
  unfold getK at h;split at h
  .rename_i i;cases h;subst i;exact qZ ..
  .exact qN _ (KU h)
theorem U1{g}[DecidableEq g]{k v}:∀{es}{x:g×J},x∈setK k v es->x=(k,v)\/x∈es
 | [],x,h=>by grind [setK]
 |e :: es,x,h=>by
  unfold setK at h;split at h
  .rcases qy.1 h with h|h
   .exact .inl h
   .exact .inr (qN _ h)
  .rcases qy.1 h with h|h
   .exact .inr (by rw[h];exact qZ ..)
   .exact (U1 h).imp id (qN _)
theorem qnE{ts env nm body s}(h:uH env):uH (renI ts es env nm body s).1.1:=by
 have i:uH (delK nm env):=fun e g=>h e (Xy.subset g)
 unfold renI;split
 .intro e g a j
  rcases U1 g with rfl|g
  .cases j
  .exact i e g a j
 .exact i
theorem qcG:∀{ks ps own g s s'},(∀ k n' z s s',k∈ks->E k s = .ok ((n',z),s')->z=cntT n'/\Small n')->uH own->yE E ps ks own s = .ok (g,s')->uH g
 | [],ps,own,g,s,s',_,i,e=>by
  have e:Except.ok (own,s)=(Except.ok (g,s'):XR IEnv):=by cases ps<;>exact e
  cases e;exact i
 |k :: ks,[],own,g,s,s',_,i,e=>by cases e;exact i
 |k :: ks,p :: ps,own,g,s,s',l,i,e=>by
  simp only[yE]at e;split at e
  .cases e
  .rename_i C m s1 I
   refine qcG (fun k n' z s s' o=>l k n' z s s' (qN _ o)) (fun e j a t=>?_) e;rcases U1 j with rfl|j
   .grind
   .exact i e j a t
theorem qcH{E bin}(C:∀ env nm s,uH env->uH (R env nm s).1.1) :
  ∀{ks i env nm l s s' j m},(∀ env k n' z s s',k∈ks->uH env->E env k s = .ok ((n',z),s')->z=cntT n'/\Small n')->uH env ->
  zE E R bin i env nm ks s = .ok ((l,j,m),s')->m=yS j/\j.length=ks.length/\∀ k,k∈j->Small k
 | [],i,env,nm,l,s,s',j,m,_,_,e=>by
  cases e;exact⟨rfl,rfl,fun k p=>absurd p qK⟩
 |k :: ks,i,env,nm,l,s,s',j,m,I,J,e=>by
  simp only[zE]at e;obtain⟨r,P⟩:∃ r,r=if bin=true/\i=1 then R env nm s else ((env,nm),s):=⟨_,rfl⟩
  rw[<-P]at e;have o:uH r.1.1:=by
   rw[P];split
   .exact C _ _ _ J
   .exact J
  split at e
  .cases e
  .rename_i T U s1 h1
   have g:=I r.1.1 k T U r.2 s1 (qZ ..) o h1;split at e
   .cases e
   .rename_i a0 a1 m2 s2 h2
    obtain⟨q1,q2,q3⟩:=qcH C (fun env k n' z s s' p=>I env k n' z s s' (qN _ p)) o h2;cases e;refine⟨by simp only[yS];rw[g.1,q1],by simp[q2],fun x t=>?_⟩;rcases qy.1 t with rfl|t
    .exact g.2
    .exact q3 x t
theorem YN(ts)(o:∀ p,p∈ts.sT->WfN p.body)(es):∀(f){env n n' body s s' z},uH env->WfN n->expI ts es f env n body s = .ok ((n',z),s')->z=cntT n'/\Small n'
 | 0,_,_,_,_,_,_,_,_,_,e=>by cases e
 |f+1,env,n,n',body,s,s',z,j,l,e=>by
  simp only[expI]at e;split at e
  .split at e
   .rename_i P
    have g:n.sD=[]:=by
     have hs:=l.shape;simp_all[shp,if_pos,qo,List.map_eq_nil_iff]
    unfold ve at e;split at e
    .cases e
     exact⟨by rw[Vb,g];rfl,l.small⟩
    .rename_i v t
     split at e
     .cases e
      refine⟨by rw[Vb];show 1=1+yS n.sD;rw[g];rfl,.mk _ (by show n.sD.length<=1000;rw[g];simp) fun k i=>?_⟩;have i:k∈n.sD:=i
      grind
     .rename_i a R
      split at e
      .cases e
       exact j _ (KU t) _ R
      .cases e
   .split at e
    .split at e
     .cases e
     .rename_i p T
      obtain⟨own,s1,C,e⟩:=uh e;have U:=qcG (fun k n' z s s' i I=>YN ts o es f j (l.kid i) I) (fun e j=>absurd j qK) C;exact YN ts o es f U (o p (List.mem_of_find?_eq_some T)) e
    .obtain ⟨⟨a0,J,m⟩,s1,C,e⟩:=uh e
     cases e;obtain⟨q1,q2,q3⟩:=qcH (fun env nm s h=>qnE h) (fun env k n' z s s' i t I=>YN ts o es f t (l.kid i) I) j C;refine⟨by rw[Vb];show 1+m=_;rw[q1];rfl,.mk _ ?_ q3⟩;show J.length<=1000;have:=l.len;omega
  .cases e
theorem qcI:∀{ks ps own s d},(∀ k s d,E k s = .error d->d=(2,0))->yE E ps ks own s = .error d->d=(2,0)
 | [],ps,own,s,d,_,e=>by
  have e:Except.ok (own,s)=(Except.error d:XR IEnv):=by cases ps<;>exact e
  cases e
 |k :: ks,[],own,s,d,_,e=>by cases e
 |k :: ks,p :: ps,own,s,d,g,e=>by
  simp only[yE]at e;split at e
  .rename_i j i
   cases e;exact g _ _ _ i
  .exact qcI g e
theorem qcJ{E:IEnv->Nd->ISt->XR (Nd×Int)}{bin}:∀{ks i env nm s d},(∀ env k s d,E env k s = .error d->d=(2,0))->zE E R bin i env nm ks s = .error d->d=(2,0)
 | [],i,env,nm,s,d,_,e=>by cases e
 |k :: ks,i,env,nm,s,d,g,e=>by
  simp only[zE]at e;split at e
  .rename_i j l
   cases e;exact g _ _ _ _ l
  .split at e
   .rename_i j o
    cases e;exact qcJ g o
   .cases e
theorem qcK{i q}{g:J->ISt->XR i}{d}(h:vU q g = .error d):q = .error d\/∃ a s,q = .ok (a,s)/\g a s = .error d:=by
 unfold vU at h;split at h
 .grind
 .exact .inr ⟨_,_,rfl,h⟩
theorem Vc(ts es):∀(f){env n body s d},expI ts es f env n body s = .error d->d=(2,0)
 | 0,_,_,_,_,_,e=>by cases e;rfl
 |f+1,env,n,body,s,d,e=>by
  simp only[expI]at e;split at e
  .split at e
   .unfold ve at e
    split at e
    .cases e
    .split at e
     .cases e
     .split at e
      .cases e
      .cases e;rfl
   .split at e
    .split at e
     .cases e;rfl
     .rcases qcK e with e|⟨own,g,i,e⟩
      .exact qcI (fun k s d h=>Vc ts es f h) e
      .exact Vc ts es f e
    .rcases qcK e with e|⟨own,g,i,e⟩
     .exact qcJ (fun env k s d h=>Vc ts es f h) e
     .cases e
  .cases e;rfl
def outI(ts:TS)(es:List (tZ×Bool))(n:Nd):Except Dg Nd:=
 match expI ts es 4001 [] n false ⟨0,0⟩ with
 | .error d => .error d
 | .ok ((g,z),_)=>if z<=400/\depN g<=24 then .ok g else .error (2,n.pos)
theorem U2{ts n d}(h:outI ts es n = .error d):d.1=2:=by
 grind [outI,Vc]
theorem qnF(ts)(h:okTS ts)(hb:∀ p,p∈ts.sT->WfN p.body/\yK ts p.body)(es)(hF:qm ts es<=200000)(R:Free ts es)(n)(hw:WfN n)(a4:yK ts n){mu xp ob xb tb}
  (h1:mu[xp]?=some (.arr [.ptr xb 0])) (T:mu[xb]?=some (.arr (cIn ts tb ⟨0,0⟩))) (ht:mu[tb]?=some (.mp (eSet es))) (U:mu[ob]?=some (.arr [aI 0,aS ⟨#[]⟩,aI 0,.lst true [],aI 0])) :
  qv qc 115 [.ptr xp 0,.ip (cNd n),.ptr ob 0] mu fun e m=>match outI ts es n with
   | .error d=>e = .pan (jx d.1 d.2)/\mu.length<=m.length/\∀ i,i<mu.length->i≠xb->i≠ob->m[i]?=mu[i]?
   | .ok n'=>e = .ret (.tup [])/\m[ob]?=some (.arr (cNd n'))/\mu.length<=m.length/\∀ i,i<mu.length->i≠xb->i≠ob->m[i]?=mu[i]?:=by
 refine qSW call115 func115 rfl {} ?_;have ab:xp<mu.length:=(qh.1 h1).1;have ad:xb<mu.length:=(qh.1 T).1;have ae:tb<mu.length:=(qh.1 ht).1;have a5:ob<mu.length:=(qh.1 U).1;have a0:ob≠xb:=fun e=>by grind
 simp[go_sem,h1];have j:∀ i,i<mu.length->(cutM (fun i=>!decide (mu.length<=i)) (mu++[Cell.mp []]) 0)[i]?=mu[i]?:=fun i hi=>by grind [vT,qG]
 have a1:StOk (qm ts es) ⟨0,0⟩:=⟨zSp,zSp,zSp,by simp[pot]⟩;have g:=KQ ts h hb es hF R tb 4001 [] n false ⟨0,0⟩ (cutM (fun i=>!decide (mu.length<=i)) (mu++[Cell.mp []]) 0) xb zSp a1 .nil hw a4 (by grind) (by grind);have g:=qv.freeze (mu:=mu++[Cell.mp []]) (args:=[.ptr xb 0,.mp mu.length,eNd n,aB false]) (args1:=[.ptr xb 0,eEnv [],eNd n,aB false]) (fun i=>decide (mu.length<=i)) ⟨.inl rfl,.inr (qcD (acc:=[]) (by grind [vT]) zSp (fun e he=>absurd he qK)),.inl rfl,.inl rfl,trivial⟩ g;have a7:=fun {n' z P}=>YN ts (fun p hp=>(hb p hp).1) es 4001 (env:=[]) (n:=n) (n':=n') (body:=false) (s:=⟨0,0⟩) (s':=P) (z:=z) (fun e he=>absurd he qK) hw
 have a8:=fun {n' z P}=>jJ ts R 4001 (env:=[]) (n:=n) (n':=n') (body:=false) (s':=P) (z:=z) a1 .nil
 unfold outI;generalize expI ts es 4001 [] n false ⟨0,0⟩=E at *
 cases E with
 |error d =>
  refine fZ g (by rintro r m ⟨e,_⟩;cases e) ?_;rintro r m ⟨e,l⟩;cases e;have o:=l.len;rw[jC]at o;simp only[zh,yh,List.length_nil]at o;simp[go_sem];exact⟨zOm,fun i hi T U=>by rw[l.same i (by grind) T,j i hi]⟩
 |ok q =>
  obtain⟨⟨n',z⟩,P⟩:=q;obtain⟨hz,a9⟩:=a7 rfl;have hg:=a8 rfl;have ag:z<=4000:=by have:=hg.cz;have:=hg.c1;grind
  have ah:=KS n';refine fZ g ?_ (by rintro r m ⟨e,_⟩;cases e);rintro r m ⟨e,ai,l⟩;cases e;have o:=l.len;rw[jC]at o;simp only[zh,yh,List.length_nil]at o;have aa:m[ob]?=some (.arr [aI 0,aS ⟨#[]⟩,aI 0,.lst true [],aI 0]):=by rw[l.same _ (by grind) a0,j _ a5];exact U
  have t:∀ c,(m.set ob c)[ob]?=some c:=fun c=>qz zOm
  simp[go_sem,aa];have C:∀ c,mu.length<=(m.set ob c).length/\∀ i,i<mu.length->i≠xb->i≠ob->(m.set ob c)[i]?=mu[i]?:=fun c=>⟨zSo,fun i hi T U=>by
   rw[zH (fun e=>U e.symm),l.same i (by grind) T,j i hi]⟩
  have wz:∀ b c,WKs [aB b,aI c,eNd n] [aB b,aI c,eNd n]:=fun b c => .zs (.zs (.zk (qE n) .nil))
  by_cases J:z<=400
  .have I:=qb0 (szN n') n' (qj _) a9 zOm
   by_cases a3:depN n'<=24
   .refine tR zKr ?_
    simp[go_sem,J,t];refine tU I (.zk (qE n') .nil) ?_;simp[go_sem,a3];refine tU (zJ true 2 n).toP (wz true 2) ?_;simp[go_sem,t]
    grind
   .refine qi.tail 8 zKr ?_
    simp[go_sem,J,t];refine tU I (.zk (qE n') .nil) ?_;simp[go_sem,a3];refine aK (zJ false 2 n) (wz false 2) ?_;simp[go_sem];simpa using C _
  .refine qi.tail 8 zKr ?_
   simp[go_sem,J];refine aK (zJ false 2 n) (wz false 2) ?_;simp[go_sem];simpa using C _
end
end YE
namespace YG
open YS P1 Y1 Y9 YX YZ YA YB YC YE Q6
def valD(l:List UInt8):Nat:=l.foldl (fun a b=>10*a+(b.toNat-48)) 0
theorem qnG(u):valD (Lib.decDigits u)=u:=by
 induction u using Nat.strongRecOn with
 |_ u g =>
  rw[Lib.decDigits];split
  .rename_i h
   simp only[valD,List.foldl_cons,List.foldl_nil];rw[UInt8.toNat_ofNat_of_lt' (by simp[UInt8.size];omega)];omega
  .rename_i h
   have:=g (u / 10) zOm;unfold valD at this⊢;rw[ul,this];simp only[List.foldl_cons,List.foldl_nil];rw[UInt8.toNat_ofNat_of_lt' (by simp[UInt8.size];omega)];omega
theorem qnH{a b:Nat}(h:jq (a:Int)=jq (b:Int)):a=b:=by
 have g:Lib.decDigits a=Lib.decDigits b:=by
  unfold jq Lib.itoa at h;rw[zIn,zIn]at h;simp only[Int.toNat_natCast]at h;have h:=congrArg (fun x:tZ=>x.data.toList) h;simpa using h
 grind [qnG]
theorem qnI{p a b:tZ}(h:p++a=p++b):a=b:=by
 simp_all
theorem qcL{a b:Nat}(h:vN (a:Int)=vN (b:Int)):a=b:=qnH (qnI h)
def badL(ts:TS)(es:List (tZ×Bool)):List tZ:=es.map Prod.fst++(ts.sA.map (fun f=>f.name)++ts.sS.flatMap fun s=>[s.1,s.1++jT,s.1++vr])
theorem qnJ(ts es):(badL ts es).length+1=qm ts es:=by
 have:∀ l:List (tZ×Bool),(l.flatMap fun s=>[s.1,s.1++jT,s.1++vr]).length=3*l.length:=by
  intro l;induction l with
  |nil=>rfl
  |cons a l g=>grind
 grind [badL,qm,zh,yu]
theorem qnK{ts es nm}(h:yD ts es nm=false):nm∈badL ts es:=by
 unfold yD at h;unfold badL;rw[Bool.and_eq_false_iff]at h;rcases h with h|h
 .have h:getK nm es=some true:=by simpa using h
  exact y6 _ (qn.2 ⟨_,KU h,rfl⟩)
 .refine List.mem_append_right _ ?_
  have h:means ts nm≠[]:=zUs h;unfold means at h;by_cases hf:z6 ts.sA nm=[]
  .rw [hf,jk]at h
   refine List.mem_append_right _ ?_;have:∀(g:List (tZ×Bool))(i:Nat),yo i g nm≠[]->nm∈g.flatMap fun s=>[s.1,s.1++jT,s.1++vr]:=by
    intro g;induction g with
    |nil=>intro i h;exact absurd rfl h
    |cons s g C =>
     intro i h;rw[List.flatMap_cons,qO];by_cases j:vM i s nm=[]
     .refine .inr (C (i+1) ?_)
      simpa[yo,j] using h
     .left
      unfold vM at j;by_cases l:s.1=nm
      .simp [l]
      by_cases o:s.2=true/\s.1++jT=nm
      .simp [o.2]
      by_cases p:s.2=true/\s.1++vr=nm
      .simp [p.2]
      exact absurd (by simp[l,o,p]) j
   exact this ts.sS 0 h
  .refine y6 _ ?_
   obtain⟨k,t⟩:=List.exists_mem_of_ne_nil _ hf;unfold z6 at t;obtain⟨f,hf,e⟩:=List.mem_filterMap.1 t;split at e
   .rename_i I
    exact qn.2 ⟨f,hf,I⟩
   .cases e
theorem KW(ts es):Free ts es:=by
 intro l P;by_cases g:∃ j:Nat,1<=j/\j<=qm ts es/\yD ts es (vN (l+j))=true
 .exact g
 exfalso;obtain⟨L,rfl⟩:∃ L:Nat,l=L:=⟨l.toNat,zOm⟩;have o:∀ x,x∈(qs (qm ts es)).map (fun i=>vN ((L+(i+1):Nat):Int))->x∈badL ts es:=fun x C=>by
  obtain⟨i,I,rfl⟩:=qn.1 C;rw[ye]at I;refine qnK ?_;cases J:yD ts es (vN ((L+(i+1):Nat):Int)) with
  |false=>rfl
  |true=>exact absurd ⟨i+1,zOm,zOm,by rw[show (L:Int)+((i+1:Nat):Int)=((L+(i+1):Nat):Int) by omega];exact J⟩ g
 have p:((qs (qm ts es)).map (fun i=>vN ((L+(i+1):Nat):Int))).Nodup:=by
  refine List.pairwise_map.2 (List.nodup_range.imp fun t e=>t ?_);have:=qcL e;omega
 have:=jm p o;rw[yu,List.length_range]at this;have:=qnJ ts es;omega
def putN(es:List (tZ×Bool))(l:List Nd):List (tZ×Bool):=l.foldl (fun es n=>setK n.name true es) es
def yT(ts:TS)(n:Nd):List (tZ×Bool):=ts.sT.foldl (fun C p=>putN C (preN p.body)) (putN [] (preN n))
def qU(ts:TS)(n:Nd):Nd×Int:=
 if (zQ ts [] n).1≠0 then (nd0,(zQ ts [] n).1)
 else if anyN (fun n=>decide (n.op=47)) n=false then (n,0)
 else match outI ts (yT ts n) n with
  | .error d=>(nd0,d.1)
  | .ok g=>(g,0)
theorem YO(p):∀ m n,szN n<=m->anyN p n=(preN n).any p
 | 0,n,g=>by obtain⟨op,nm,i,ks,q⟩:=n;simp[szN]at g
 |m+1,n,g=>by
  rw[J4,wv,List.any_cons];congr 1;have:∀ l:List Nd,(∀ k,k∈l->k∈n.sD)->vw p l=(zo l).any p:=by
   intro l;induction l with
   |nil=>intro _;rfl
   |cons k l o =>
    intro j;simp only[vw,zo,List.any_append];rw[o fun x t=>j x (qN _ t),YO p m k (zW1 (zf (j k (qZ ..))))]
  exact this n.sD fun k C=>C
end YG
namespace YH
open YF P1 P2 Y1 Y6 Y9 Y14 YX YZ YB YC YE YG Q6
section
variable {b:Bool}{es:List (tZ×Bool)}{mu:Mu}{ts:TS}
structure InM (ts:TS) (es:List (tZ×Bool)) (b:Bool) (mu:Mu):Prop where
 r:mu[0]?=some (.arr [aI 0,aS ⟨#[]⟩,aI 0,.lst true [],aI 0])
 t:mu[2]?=some (.mp (eSet es))
 x:mu[3]?=some (.arr (cIn ts 2 ⟨0,0⟩))
 p:mu[4]?=some (.arr [.ptr 3 0])
 c:mu[5]?=some (.arr [aB b])
theorem InM.len(h:InM ts es b mu):5<mu.length:=(qh.1 h.c).1
theorem InM.push(h:InM ts es b mu)(l):InM ts es b (mu++l):=by
 have g:=h.len;exact⟨by rw[zGa];exact h.r,by rw[zGa];exact h.t,by rw[zGa];exact h.x,by rw[zGa];exact h.p,by rw[zGa];exact h.c⟩
theorem InM.setT{g}(h:InM ts es b mu):InM ts g b (mu.set 2 (.mp (eSet g))):=by
 have i:=h.len;exact⟨by rw[zGl];exact h.r,qz zOm,by rw[zGl];exact h.x,by rw[zGl];exact h.p,by rw[zGl];exact h.c⟩
theorem InM.setC{b'}(h:InM ts es b mu):InM ts es b' (mu.set 5 (.arr [aB b'])):=by
 have g:=h.len;exact⟨by rw[zGl];exact h.r,by rw[zGl];exact h.t,by rw[zGl];exact h.x,by rw[zGl];exact h.p,qz zOm⟩
theorem qnL(mu):Rd mu eN0 (eNd nd0) := .agg _ _ rfl fun k x y g i=>by
 match k with
 | 0=>simp[nd0,cNd]at g i;subst g;subst i;exact .zsc _
 | 1=>simp[nd0,cNd]at g i;subst g;subst i;exact .zsc _
 | 2=>simp[nd0,cNd]at g i;subst g;subst i;exact .zsc _
 | 3=>simp[nd0,cNd,cNds]at g i;subst g;subst i;exact .wk _ true [] (.hf _ (HF.lst fun r j=>absurd j qK))
 | 4=>simp[nd0,cNd]at g i;subst g;subst i;exact .zsc _
 |k+5=>simp at g
theorem YP(mu d):Rd mu (.tup [eN0,aI d]) (.tup [eNd nd0,aI d]) := .tup _ _ rfl fun k x y g i=>by
 match k with
 | 0=>grind [qnL]
 | 1=>simp at g i;subst g;subst i;exact .zsc _
 |k+2=>simp at g
theorem qnM(ts)(h:okTS ts)(hb:∀ p,p∈ts.sT->WfN p.body/\yK ts p.body)(n)(hw:WfN n)(ai:(zQ ts [] n).1=0->yK ts n)(hF:qm ts (yT ts n)<=200000):qg qc 47 [eTS ts,eNd n] (.tup [eNd (qU ts n).1,aI (qU ts n).2]):=by
 generalize j:qU ts n=R;unfold qU at j;refine qSQ call47 func47 rfl { mt:=[25] } ?_;simp[go_sem];have a6:∀ p,p∈ts.sT->WfN p.body:=fun p hp=>(hb p hp).1
 refine fR (qlC ts h a6 n hw [] ⟨zSp,zSp⟩) (.zk (zw ts) (.cons (WK.lst fun r hr=>absurd hr qK) (.zk (qE n) .nil))) ?_;by_cases o:(zQ ts [] n).1=0
 case neg =>
  rw[if_pos o]at j;subst j;simp[go_sem,o];refine fG [0,1,2,4,3] [(0,0,[]),(1,0,[]),(2,0,[]),(4,0,[]),(3,1,[2])] zKr zKr zSi ?_;simp_all[go_sem,YP]
 case pos =>
  rw[if_neg (zUs o)]at j;simp[go_sem,o];have aj:∀(v:List Nd)(k:Nd)(I:Mu),InM ts (putN [] v) (v.any fun n=>decide (n.op=47)) I->qv qc 113 (eNd k :: [.ptr 4 0,.ptr 5 0]) I fun e m=>e = .ret (.tup [])/\InM ts (putN [] (v++[k])) ((v++[k]).any fun n=>decide (n.op=47)) m:=fun v k I g=>by
   refine(qmT ts ⟨0,0⟩ 2 _ _ k g.p g.x g.c g.t).monoR ?_;rintro e m ⟨rfl,rfl⟩;refine⟨rfl,?_⟩;rw[List.any_append];simp only[putN,ul,List.foldl_cons,List.foldl_nil,List.any_cons,List.any_nil,Bool.or_false];exact g.setT.setC
  refine fZ (Ku (caps:=[.ptr 4 0,.ptr 5 0]) (fun v I=>InM ts (putN [] v) (v.any fun n=>decide (n.op=47)) I) (fun v I l h=>h.push l) aj (szN n) n (qj _) hw.small [] _ ⟨rfl,rfl,rfl,rfl,rfl⟩) ?_ (by grind);rintro r m ⟨e,g⟩;cases e;rw[jk,<-YO _ (szN n) n (qj _)]at g;have au:=g.len;have a8:∀ c,(m.set 0 c)[0]?=some c:=fun c=>qz zOm
  cases J:anyN (fun n=>decide (n.op=47)) n with
  |false =>
   rw[J]at g j;rw[if_pos rfl]at j;subst j;simp[go_sem,g.c,g.r,a8];exact .hf _ (HF.tup fun c o=>by simp at o;rcases o with rfl|rfl;exact qE n;exact HF.sc _)
  |true =>
   rw[J]at g j;rw[if_neg zSp]at j;have av:=h.np;simp[go_sem,g.c];refine aA ts.sT.length (fun k U=>U.tm 3 = .ip (cNd n)/\U.tm 4 = .ptr 0 0/\U.tm 7 = .ptr 4 0/\U.tm 33=lPd ts.sT/\U.tm 34=aI ts.sT.length/\U.tm 35=aI k/\InM ts ((ts.sT.take k).foldl (fun C p=>putN C (preN p.body)) (putN [] (preN n))) true U.mu) ?_ ?_
   .simp [go_sem, *]
   .rintro k U hk ⟨e3,e4,e7,a9,a2,a3,hM⟩
    by_cases ak:k=ts.sT.length
    .subst ak
     simp[go_sem,e3,e7,a2,a3];rw[List.take_length]at hM;have hM:InM ts (yT ts n) true U.mu:=hM;have aw:=hM.len;have a0:InM ts (yT ts n) true (U.mu++[Cell.arr [aI 0,aS ⟨#[]⟩,aI 0,.lst true [],aI 0]]++[.dead]):=(hM.push _).push _;have aa:=qnF ts h hb (yT ts n) hF (KW ts _) n hw (ai o) (mu:=U.mu++[Cell.arr [aI 0,aS ⟨#[]⟩,aI 0,.lst true [],aI 0]]++[.dead]) (ob:=U.mu.length) a0.p a0.x a0.t zSp;have al:=j;clear j;generalize hQ:outI ts (yT ts n) n=Q at *
     refine fZ (Xu aa ?_) ?_ ?_
     .grind
     .rintro r m ⟨P,c,⟨l,rfl⟩,a4⟩
      have ab:U.mu.length+2<=P.length/\∀ i,i<U.mu.length+2->i≠3->i≠U.mu.length->P[i]?=(U.mu++[Cell.arr [aI 0,aS ⟨#[]⟩,aI 0,.lst true [],aI 0]]++[.dead])[i]?:=by
       grind
      have ad:∀(c:Cell)(l:List Cell),(P.set (U.mu.length+1) c++l)[0]?=some (.arr [aI 0,aS ⟨#[]⟩,aI 0,.lst true [],aI 0]):=fun c l=>by
       rw[qG zSo,zGl,ab.2 0 zOm zOm zOm];exact a0.r
      have T:∀(c c2:Cell)(l:List Cell),((P.set (U.mu.length+1) c++l).set 0 c2)[0]?=some c2:=fun c c2 l=>qz zSo
      have ae:∀(c c':Cell)(l:List Cell),(P.set (U.mu.length+1) c++(l++[c']))[P.length+l.length]?=some c':=fun c c' l=>by
       simp
      have a5:∀(c c' c2:Cell)(l:List Cell),((P.set (U.mu.length+1) c++(l++[c'])).set 0 c2)[P.length+l.length]?=some c':=fun c c' c2 l=>by
       grind
      rcases a4 with ⟨r',j,e⟩|⟨er,p,j,e⟩
      .cases Q with
       |error d=>grind
       |ok n' =>
        cases e;have an:∀(c:Cell)(l:List Cell),(P.set (U.mu.length+1) c++l)[U.mu.length]?=some (.arr (cNd n')):=fun c l=>by
         grind
        simp[go_sem,e4,an,ad,T];subst al;exact .hf _ (HF.tup fun c o=>by simp at o;rcases o with rfl|rfl;exact qE _;exact HF.sc _)
      .cases Q with
       |ok n'=>grind
       |error d =>
        have af:=U2 hQ;have e1:er=d.1:=by grind
        subst e1;cases e;simp[go_sem,af];have n0:=ad c (l++[Cell.arr [aI d.1,aI p]]);have n1:=ae c (Cell.arr [aI d.1,aI p]) l;have n2:=fun c2=>a5 c (Cell.arr [aI d.1,aI p]) c2 l
        have n3:=fun c2=>T c c2 (l++[Cell.arr [aI d.1,aI p]])
        rw[af]at n0 n1 n2 n3;generalize P.set (U.mu.length+1) c++(l++[Cell.arr [aI 2,aI p]])=N at *
        generalize P.length+l.length=b at *
        refine fG [0,1,2,4,3] [(0,0,[]),(1,0,[]),(2,0,[]),(4,0,[]),(3,1,[2])] zKr zKr zSi ?_
        all_goals
         simp[go_sem,e4,n0,n1,n2,n3]
         grind [YP]
     simp
    .have a1:k<ts.sT.length:=by omega
     have w1:=zWk k;have ag:=Qy ts.sT[k];simp[go_sem,e7,a9,a2,a3,a1,ag];have ao:ts.sT[k]∈ts.sT:=qt a1;generalize aq:(ts.sT.take k).foldl (fun C p=>putN C (preN p.body)) (putN [] (preN n))=E0 at *
     have ah:∀(v:List Nd)(x:Nd)(I:Mu),InM ts (putN E0 v) true I->qv qc 114 (eNd x :: [.ptr 4 0]) I fun e m=>e = .ret (.tup [])/\InM ts (putN E0 (v++[x])) true m:=fun v x I g=>by
      refine(qmU ts ⟨0,0⟩ 2 _ x g.p g.x g.t).monoR ?_;rintro e m ⟨rfl,rfl⟩;refine⟨rfl,?_⟩;simp only[putN,ul,List.foldl_cons,List.foldl_nil];exact g.setT
     refine fZ (Ku (caps:=[.ptr 4 0]) (fun v I=>InM ts (putN E0 v) true I) (fun v I l h=>h.push l) ah (szN ts.sT[k].body) ts.sT[k].body (qj _) (a6 _ ao).small [] _ (hM.push _)) ?_ (by rintro r m ⟨e,_⟩;cases e);rintro r m ⟨e,ar⟩;cases e;simp[go_sem,a3,w1];refine⟨a1,aC ?_⟩;refine⟨zS1 e3,zS1 e4,by simp[go_sem,e7],zS1 a9,zS1 a2,zSi,?_⟩;rw[List.take_add_one,qB a1,ul,aq];simpa[go_sem] using ar
end
end YH
end Go.Proofs.YtlnbdknjkmmgbaaGreatDoor
namespace Go.EvW
open Go Go.Ev Go.RowKit Go.ChangeShapes Go.WideShapes
section
variable {H J:Type}{c:J->List AV}{fs:List (qd×Nat)}{cs:List qq}{N:Nat}{P:qb}{e t:qd}{w:qf}
def CR(w:qf)(xs:List AV)(cs:List qq):Prop:=
 cs.length=xs.length/\∀(k:Nat) x,xs[k]?=some x->VRel ⟨(·<w.heap.size),[]⟩ w.heap x (cs.getD k uk)
theorem CR.nil(w):CR w [] []:=⟨rfl,zSp⟩
theorem CR.one{x v}(h:VRel ⟨(·<w.heap.size),[]⟩ w.heap x v):CR w [x] [v]:=⟨rfl,fun k y g=>by
 grind⟩
theorem CR.app{xs ys ds}(h:CR w xs cs)(k:CR w ys ds):CR w (xs++ys) (cs++ds):=by
 refine⟨by simp[h.1,k.1],fun i x g=>?_⟩;by_cases j:i<xs.length
 .rw [qG j]at g
  have:=h.2 i x g;rw[zT]at this⊢;rw[qG (by rw[h.1];exact j)];exact this
 .rw [yd zOm]at g
  have:=k.2 _ x g;rw[zT]at this⊢;rw[yd (by rw[h.1];omega),h.1];exact this
def jK(P:qb)(t:qd)(d:DataW H):Prop:=(d.weights P t).all (·<=reachBytes)=true
theorem jK.all:∀{ds:List (DataW H)},(DataW.weightsAll P e ds).all (·<=reachBytes)=true->∀(i:Nat) d,ds[i]?=some d->jK P e d
 | [],_,i,d,g=>by simp at g
 |x :: r,h,i,d,g=>by
  simp only[DataW.weightsAll,List.all_append,qD]at h;cases i with
  |zero=>simp at g;subst g;exact h.1
  |succ i=>exact jK.all h.2 i d (zUs g)
theorem cU:∀{ts}{ds:List (DataW H)},(DataW.weightsEach P ts ds).all (·<=reachBytes)=true->∀(i:Nat) t d,ts[i]?=some t->ds[i]?=some d->jK P t d
 | [],ds,_,i,t,d,g,_=>by simp at g
 |t0 :: ts,[],_,i,t,d,_,j=>by simp at j
 |t0 :: ts,x :: r,h,i,t,d,g,j=>by
  simp only[DataW.weightsEach,List.all_append,qD]at h;cases i with
  |zero=>simp at g j;subst g;subst j;exact h.1
  |succ i=>exact cU h.2 i t d (zUs g) (zUs j)
def ShT(P:qb)(n:Nat)(t:qd){J:Type}(c:J->List AV)(ok:J->Prop):Prop:=
 ∀(H:Type)(g:qd×qq->H)(w:qf)(i:List qq)(x:DataW H×List MemPlace),
  DataW.trod g P w 0 (fun _=>true) true n t i=some x->jK P t x.1->∃ a,ok a/\CR w (c a) i
def ShU(P:qb)(N:Nat)(t:qd){J:Type}(c:J->List AV)(ok:J->Prop):Prop:=∀ n,n<N->ShT P n t c ok
theorem ShU.le{M ok}(h:ShU P N t c ok)(g:M<=N):ShU P M t c ok:=fun n i=>h n zOm
theorem ShU.map{i ok c' g}(h:ShU P N t c ok)(f:J->i)(I:∀ a,c' (f a)=c a)(R:∀ a,ok a->g (f a)):ShU P N t c' g:=by
 intro n l H j w o x p C;obtain⟨a,T,U⟩:=h n l H j w o x p C
 grind
theorem ShU.int{k}(g:P.underlying t=some (.int k))(N):ShU P N t (fun n:Int=>[.sc (.int k n)]) (fun n=>(Lit.int k n).wf=true):=by
 intro n o H j w p x h _;obtain⟨i,rfl,_,l⟩:=DataW.trod_int g h;exact⟨i,l,.one (.sc _ rfl)⟩
theorem ShU.bool(g:P.underlying t=some .bool)(N):ShU P N t (fun b:Bool=>[.sc (.bool b)]) (fun _=>True):=by
 intro n l H j w o x h _;obtain⟨i,rfl,_⟩:=DataW.trod_bool g h;exact⟨i,trivial,.one (.sc _ rfl)⟩
theorem ShU.string(j:P.underlying t=some .string)(N):ShU P N t (fun s:tZ=>[.sc (.string s)]) (fun s=>s.size<=140737488351232):=by
 intro n p H l w C x h g;obtain⟨i,rfl,rfl,I⟩:=DataW.trod_string j h;refine⟨i,?_,.one (.sc _ rfl)⟩;unfold jK at g;simp only[DataW.weights,List.all_cons,List.all_nil,Bool.and_true,decide_eq_true_eq]at g;have e:i.data.toList.length=i.size:=Array.length_toList;have o:i.size<=reachBytes:=by rw[<-e];exact g
 exact Nat.le_trans o (vX rfl)
theorem qcM{a n}(h:w.cells? 0 a n=some cs):cs.length=n/\∀ i,i<n->w.cell? (a.add i)=some (cs.getD i uk):=by
 unfold World.cells? at h;rw[if_pos (Nat.zero_le _)]at h;have g:=mapM_some_length h;refine⟨zUs g,fun i j=>?_⟩;have:=mapM_some_get h i i (zP1 j)
 grind
theorem qcN{a v}(h:w.cell? a=some v):∃ arr e g,w.heap[a.block]?=some (.cells arr e g)/\a.spot=none/\arr[a.off]?=some v:=by
 unfold World.cell? at h;split at h
 .simp_all
 .cases h
theorem qnN[Inhabited J]{p:Nat->J->Prop}(n)(h:∀ i,i<n->∃ a,p i a):∃ l:List J,l.length=n/\∀(i) a,l[i]?=some a->p i a:=by
 induction n with
 |zero=>simp
 |succ n g =>
  obtain⟨l,j,o⟩:=g (fun i t=>h i zOm);obtain⟨a,C⟩:=h n zOm;refine⟨l++[a],zP1 j,fun i b I=>?_⟩
  grind
theorem ShU.slice[Inhabited J]{c ok}(ht:P.underlying t=some (.slice e))(he:ShU P N e c ok)(ak:∀ a,ok a->(c a).length=P.cellsOf e)(p:0<P.cellsOf e)(a5:Nat.blt 0 (P.bytesOf e)=true) :
  ShU P (N+1) t (fun l:List J=>[.lst false (l.map c)]) (fun l=>l.length<=140737488351232/\∀ a,a∈l->ok a):=by
 intro n hn H a6 w cs x h hw;rcases DataW.trod_slice ht h with ⟨rfl,_⟩|⟨a,len,cap,g,C,m,rfl,rfl,rfl,_,hl,hc,al,T,_,_⟩
 .exact ⟨[],⟨zSp,zSp⟩,.one (.nil _)⟩
 .have a7:(DataW.weightsAll P e (g.map (·.1))).all (·<=reachBytes)=true:=by
   simp_all[jK,DataW.weights,List.all_cons,List.all_append,qD]
  have an:len<=140737488351232:=by
   unfold jK at hw;simp only[DataW.weights,ht,List.all_cons,List.all_append,qD,decide_eq_true_eq]at hw;have I:=hw.1;have a8:1<=P.bytesOf e:=vX a5;have h2:((g.map (·.1)).length+(C.map (·.1)).length)*1<=((g.map (·.1)).length+(C.map (·.1)).length)*P.bytesOf e:=Nat.mul_le_mul_left _ a8;simp only[yu]at I h2;have h3:reachBytes<=140737488351232:=vX rfl;omega
  have key:∀ i,i<len->∃ b,ok b/\∃ o,w.cells? 0 (a.add (i*P.cellsOf e)) (P.cellsOf e)=some o/\CR w (c b) o:=by
   intro i hi;have I:=T i hi;have U:i<g.length:=zOm;rw[qB U]at I;obtain⟨o,h2,h3⟩:=Option.bind_eq_some_iff.1 I;obtain⟨b,h4,h5⟩:=he m zOm H a6 w o _ h3 (jK.all a7 i _ (by rw[zB,qB U];rfl))
   grind
  obtain⟨l,a9,a0⟩:=qnN len key;refine⟨l,⟨zOm,fun b hb=>?_⟩,.one ?_⟩
  .grind [List.mem_iff_getElem?]
  .have aa:(l.map c).length=len:=by simp[a9]
   rw[<-aa];cases Nat.eq_zero_or_pos len with
   |inl h0 =>
    have:l=[]:=uP zOm;subst this;exact .emp _ a cap zSp
   |inr hp =>
    have ab:0<l.length:=zOm;obtain⟨_,ao,I,_⟩:=a0 0 l[0] (qB ab);obtain⟨ad,R⟩:=qcM I;have ae:=R 0 p;obtain⟨arr,el,fr,hb,hs,_⟩:=qcN ae;have ai:∀ k:Nat,a.spot=none->(a.add k).spot=none/\(a.add k).off=a.off+k:=by
     grind [Addr.add]
    have a1:∀(b:Addr)(j:Nat),(b.add j).block=b.block:=by
     grind [Addr.add]
    have e0:((a.add (0*P.cellsOf e)).add 0).block=a.block/\((a.add (0*P.cellsOf e)).add 0).spot=a.spot:=by
     grind [Addr.add]
    rw[e0.1]at hb;rw[e0.2]at hs;have hz:ja (P.cellsOf e) (l.map c):=fun r hr=>by
     obtain⟨b,aq,rfl⟩:=qn.1 hr
     grind [List.mem_iff_getElem?]
    have ar:=ym hz;refine .lst false (l.map c) (P.cellsOf e) a cap arr el fr (fun k=>arr.getD (a.off+k) uk) hb hs zOm zSp (Array.getElem?_eq_some_iff.1 hb).1 hz ?_ ?_
    all_goals
     intro k x hk;have au:k<(l.map c).length*P.cellsOf e:=by grind
     have hq:k / P.cellsOf e<l.length:=by
      simp_all[yu,Nat.div_lt_of_lt_mul,Nat.mul_comm]
     have hr:k % P.cellsOf e<P.cellsOf e:=Nat.mod_lt _ p;have av:k / P.cellsOf e*P.cellsOf e+k % P.cellsOf e=k:=by
      grind [Nat.div_add_mod,Nat.mul_comm]
     obtain⟨_,o,I,h2⟩:=a0 (k / P.cellsOf e) _ (qB hq);obtain⟨ad,R⟩:=qcM I;have af:=R _ hr;have a2:(l.map c)[k / P.cellsOf e]?=some (c l[k / P.cellsOf e]):=by rw[zB,qB hq];rfl
     have hx:(c l[k / P.cellsOf e])[k % P.cellsOf e]?=some x:=by
      have ag:k % P.cellsOf e<(c l[k / P.cellsOf e]).length:=by grind
      have:=WD hz a2 (qB ag)
      grind
     obtain⟨aj,aw,ax,a3,ay,a4⟩:=qcN af;have e1:((a.add (k / P.cellsOf e*P.cellsOf e)).add (k % P.cellsOf e)).block=a.block:=by rw[a1,a1]
     have e2:((a.add (k / P.cellsOf e*P.cellsOf e)).add (k % P.cellsOf e)).off=a.off+k:=by
      grind [Addr.add]
     rw[e1,hb]at a3;cases a3;rw[e2]at a4;have ah:arr.getD (a.off+k) uk=o.getD (k % P.cellsOf e) uk:=by
      rw[qV,a4];rfl
    .grind
    .show VRel _ _ x (arr.getD (a.off+k) uk)
     rw[ah];exact h2.2 _ x hx
def U3(P:qb)(t:qd):Option (List (qd×Nat)):=match P.underlying t with|some (.struct g)=>some (g.toList.map fun f=>(f.type,f.offset))|_=>none
inductive ShF (P:qb) (N:Nat):Nat->List (qd×Nat)->{α:Type}->(α->List AV)->(α->Prop)->Prop where
 |nil (o:Nat):ShF P N o [] (fun _:Unit=>[]) (fun _=>True)
 |cons {o:Nat} {t:qd} {fs:List (qd×Nat)} {α β:Type} {c:α->List AV} {ok:α->Prop} {c':β->List AV} {ok':β->Prop} (h:ShU P N t c ok) (k:ShF P N (o+P.cellsOf t) fs c' ok') :
   ShF P N o ((t,o) :: fs) (fun x:α×β=>c x.1++c' x.2) (fun x=>ok x.1/\ok' x.2)
def Vd(P:qb)(fs:List (qd×Nat)):Nat:=(fs.map fun f=>P.cellsOf f.1).foldr (·+·) 0
theorem ShF.read{n o ok}(h:ShF P N o fs c ok)(I:n<N){H}{enc:qd×qq->H}{w}(cs:List qq)
  (p:cs.length=o+Vd P fs) (C:∀(i:Nat) f,fs[i]?=some f->∃ x,DataW.trod enc P w 0 (fun _=>true) true n f.1 ((cs.drop f.2).take (P.cellsOf f.1))=some x/\jK P f.1 x.1) :
  ∃ a,ok a/\CR w (c a) (cs.drop o):=by
 induction h with
 |nil o =>
  refine⟨(),trivial,?_⟩;rw[List.drop_of_length_le (by grind [Vd])];exact .nil w
 | @cons o t fs J β c ok c' R h k T =>
  obtain⟨x,j,l⟩:=C 0 _ rfl;obtain⟨a,U,hr⟩:=h n I H enc w _ x j l;have a0:Vd P ((t,o) :: fs)=P.cellsOf t+Vd P fs:=rfl;obtain⟨b,hb,hs⟩:=T zOm (fun i g hg=>C (i+1) g hg);refine⟨(a,b),⟨U,hb⟩,?_⟩;have e:cs.drop o=(cs.drop o).take (P.cellsOf t)++cs.drop (o+P.cellsOf t):=by
   rw[<-List.drop_drop,List.take_append_drop]
  rw[e];exact hr.app hs
theorem ShU.struct{ok}(j:U3 P t=some fs)(hf:ShF P N 0 fs c ok)(U:P.cellsOf t=Vd P fs):ShU P (N+1) t c ok:=by
 intro n hn H l w cs x h hw;unfold U3 at j;split at j
 .rename_i gs hu
  simp only[qo]at j;subst j;obtain⟨p,m,rfl,rfl,hl,a0,hg⟩:=DataW.trod_struct hu h;have I:(DataW.weightsEach P (gs.toList.map (·.type)) (p.map (·.1))).all (·<=reachBytes)=true:=by
   grind [jK,DataW.weights]
  obtain⟨a,ha,hr⟩:=hf.read (n:=m) zOm (w:=w) (enc:=l) cs zOm (fun i f R=>by
   simp only[zB,Option.map_eq_some_iff]at R;obtain⟨g,o,rfl⟩:=R;have T:=hg i g (zUs o);have C:i<p.length:=by
    grind
   rw[qB C]at T;exact⟨_,T,cU I i _ _ (by rw[zB,o];rfl) (by rw[zB,qB C];rfl)⟩)
  grind
 .cases j
theorem cV{c:J->AV}{ok}(h:∀ N,ShU P N t (fun a=>[c a]) ok)(g:∀ w r b v,Value.okWide P w r b t v->v.cells=#[v])
  {H} {enc} {w} {r} {b} {v} {d:DataW H} {ps} (i:Value.okWide P w r b t v) (l:DataW.Trod enc P w 0 (fun _=>true) true t v d ps) (o:jK P t d) :
  ∃ a,ok a/\VRel ⟨(·<w.heap.size),[]⟩ w.heap (c a) v:=by
 obtain⟨n,p⟩:=l;obtain⟨a,C,j⟩:=h (n+1) n zOm H enc w _ _ p o;rw[g w r b v i]at j;have:=j.2 0 (c a) rfl
 grind
theorem cL{ok fs}(h:∀ N,ShU P N t c ok)(j:P.underlying t=some (.struct fs))
  {H} {enc} {w} {r} {b} {v} {d:DataW H} {ps} (g:Value.okWide P w r b t v) (l:DataW.Trod enc P w 0 (fun _=>true) true t v d ps) (o:jK P t d) :
  ∃ a,ok a/\VRel ⟨(·<w.heap.size),[]⟩ w.heap (.agg (c a)) v:=by
 obtain⟨n,p⟩:=l;obtain⟨a,C,i⟩:=h (n+1) n zOm H enc w _ _ p o;unfold Value.okWide at g;rw[j]at g;obtain⟨R,rfl,_,_⟩:=g;refine⟨a,C,.agg _ _ (by simpa[Value.cells] using i.1) (fun k x I=>?_)⟩;have:=i.2 k x I
 grind [Value.cells,qV]
theorem qnO(g:P.underlying t=some (.slice e))(w r b v)(h:Value.okWide P w r b t v):v.cells=#[v]:=by
 unfold Value.okWide at h;rw[g]at h;simp only[Cell.okWide,g]at h;cases v<;>simp_all[Value.cells,Cell.ok]
end
end Go.EvW
namespace Go.EvW
open Go Go.Ev Go.RowKit Go.ChangeShapes Go.WideShapes
section
variable {J:Type}{c:J->List AV}{ts:List qd}{P:qb}{t:qd}{w:qf}
def vh(P:qb)(t:qd){J:Type}(c:J->AV)(ok:J->Prop):Prop:=
 ∀(H:Type)(g:qd×qq->H)(w:qf)(r:Reach)(b:Nat)(v:qq)(d:DataW H)(i:List MemPlace),Value.okWide P w r b t v->DataW.Trod g P w 0 (fun _=>true) true t v d i->jK P t d ->
  ∃ a,ok a/\VRel ⟨(·<w.heap.size),[]⟩ w.heap (c a) v
theorem vh.struct{ok}(g:(U3 P t).isSome=true)(h:∀ N,ShU P N t c ok):vh P t (fun a => .agg (c a)) ok:=by
 intro H i w r b v d C j l o;unfold U3 at g;split at g
 .rename_i I p;exact cL h p j l o
 grind
theorem vh.slice{e c}{ok:J->Prop}(g:P.underlying t=some (.slice e))(h:∀ N,ShU P N t (fun a=>[c a]) ok):vh P t c ok:=
 fun H i w r b v d p j l o=>cV h (qnO g) j l o
inductive ArgF (P:qb):List qd->{α:Type}->(α->List AV)->(α->Prop)->Prop where
 |nil:ArgF P [] (fun _:Unit=>[]) (fun _=>True)
 |cons {t:qd} {ts:List qd} {α β:Type} {c:α->AV} {ok:α->Prop} {c':β->List AV} {ok':β->Prop} (h:vh P t c ok) (k:ArgF P ts c' ok'):ArgF P (t :: ts) (fun x:α×β=>c x.1 :: c' x.2) (fun x=>ok x.1/\ok' x.2)
theorem ArgF.read{ok}(h:ArgF P ts c ok){H enc w r b} :
  ∀{g}{ds:List (DataW H)}{ps},DataW.TrodAll enc P w 0 (fun _=>true) true ts g ds ps->(∀(j:Nat) t v,ts[j]?=some t->g[j]?=some v->Value.okWide P w r b t v)->(DataW.weightsEach P ts ds).all (·<=reachBytes)=true ->
  ∃ a,ok a/\ds.length=ts.length/\g.length=(c a).length/\∀(k) x,(c a)[k]?=some x->VRel ⟨(·<w.heap.size),[]⟩ w.heap x (g.getD k uk):=by
 induction h with
 |nil =>
  intro g ds ps i _ _;obtain⟨rfl,rfl,rfl⟩:=trodAll_nil i;simp
 | @cons t ts J β c ok c' R h k T =>
  intro g ds ps i I l;obtain⟨v,U,d,a0,p,q,rfl,rfl,rfl,h1,h2⟩:=trodAll_cons i;simp only[DataW.weightsEach,List.all_append,qD]at l;obtain⟨a,ha,hr⟩:=h H enc w r b v d p (I 0 t v rfl rfl) h1 l.1;obtain⟨a',o,C,hl,hg⟩:=T h2 (fun j t v=>I (j+1) t v) l.2;refine⟨(a,a'),⟨ha,o⟩,zP1 C,zP1 hl,fun k x hx=>?_⟩
  grind
theorem qcO(l:laidOutB P=true){H enc W o C}:∀{ts i}{ds:List (DataW H)}{ps},
  (∀ t,t∈ts->P.readableRec t=true/\t<P.types.size)->DataW.TrodAll enc P W 0 (fun _=>true) true ts i ds ps->(∀ p∈ps,W.sameAt o p)->(∀ p∈ps,C p.block=true)->DataW.TrodAll enc P o 0 C true ts i ds ps
 | [],i,ds,ps,_,h,_,_=>by
  obtain⟨rfl,rfl,rfl⟩:=trodAll_nil h;exact trodAll_mk0
 |t :: ts,i,ds,ps,I,h,J,R=>by
  obtain⟨v,T,d,U,p,q,rfl,rfl,rfl,g1,g2⟩:=trodAll_cons h;have j:=I t zSp;exact trodAll_cons_mk (WideElems.Trod_stays l j.1 j.2 g1 (fun x g=>J x (zP1 g)) (fun x g=>R x (zP1 g)))
   (qcO l (fun t j=>I t (zP1 j)) g2 (fun x g=>J x (zP1 g)) (fun x g=>R x (zP1 g)))
theorem qnP{f fn}{s:ChangeSpec}{tb ok}(hp:fn.params=ts.toArray)(hF:ArgF P ts c ok)(hv:s.vars=[])
  (T:∀ H ds,ds.length=ts.length->s.fn H ds={ results:=[.lit (.bool true)],args:=ds }) (hr:fn.resultTypes=#[tb]) (U:P.underlying tb=some .bool)
  (hl:laidOutB P=true) (a7:(ts.all fun t=>P.readableRec t&&decide (t<P.types.size))=true) (hS:∀ a,ok a->qg P f (c a) (aB true))
  (H) (C) (W) (base) (args) (ds gs:List (DataW H)) (g)
  (i:∀(j:Nat) t v,fn.params[j]?=some t->args[j]?=some v->Value.okWide P W .any base t v) (hW:DataW.Whole C P fn.params.toList s.vars false W args.toList ds gs g) (a8:(DataW.weightsEach P fn.params.toList ds).all (·<=reachBytes)=true) (hT:Zr (·<W.heap.size) W.heap) :
  Calls P f args W fun e W'=>∃ v,e = .returned v/\s.post C P fn false true false false W args v W':=by
 have a0:=hW;obtain⟨p,q,R,hV,I,a9,_⟩:=hW;rw[hv]at hV;obtain⟨hg,hq⟩:=trodVars_none hV;subst hg;subst hq;rw[yg]at I;subst I;rw[hp]at R i;obtain⟨a,ha,a1,a2,aa⟩:=hF.read (r := .any) (b:=base) R (fun j t v h1 h2=>i j t v (zUs h1) (zUs h2)) (by grind);have a3:∀ x,x∈g->x.block<W.heap.size:=fun x l=>R.lt x l
 obtain⟨_,o⟩:=hS a ha;refine(o (·<W.heap.size) W args (Sim.empty (fun _ h=>h) hT) ⟨zUs a2,fun k x hk=>?_⟩).mono fun e W' ⟨a6,v,he,_,_,hb,a4⟩=>?_
 .simp_all
 .have a5:v = .bool true:=by cases a4;rfl
  subst a5;refine⟨_,he,ds,[],g,[],g,[],a0,?_,?_,?_,World.keptBut_mono (fun x l=>⟨l,.inr (.inl l)⟩) (hb.frame (·∈g)),fun h=>by cases h⟩
  all_goals try rw[yg]
  all_goals try rw[T H ds a1]
  .rw [hr]
   exact trodAll_cons_mk (p':=[]) (shut_bool U true) trodAll_mk0
  .rw [hp]
   refine qcO hl (fun t ht=>?_) R (fun x l=>hb.same (a3 x l)) (fun x l=>by grind)
   grind
  .rw [hv];rfl
theorem ShF.cons'{N o o' fs i ok c' g}(j:o+P.cellsOf t=o')(h:ShU P N t c ok)(k:ShF P N o' fs c' g) :
  ShF P N o ((t,o) :: fs) (fun x:J×i=>c x.1++c' x.2) (fun x=>ok x.1/\g x.2):=by
 subst j;exact .cons h k
theorem qcP:∀{laid ps},DataW.LaidVars P w laid ps->∀ x,x∈laid->∃ g t cs fuel p,P.globalNamed x.1=some g/\(P.globals[g]?).map (·.type)=some t/\w.var? P x.1=some cs/\DataW.trod (fun _=>()) P w 0 (fun _=>true) false fuel t cs.toList=some (x.2,p)
 | [],_,_,x,i=>by simp at i
 | (n,d) :: r,ps,h,x,i=>by
  obtain⟨g,t,cs,fuel,p,q,l,o,C,I,j,_⟩:=h;rcases qy.1 i with rfl|i
  .grind
  .exact qcP j x i
theorem qnQ{e n fuel k}(U:P.underlying t=some (.array n e))(he:P.underlying e=some (.int k))(hc:P.cellsOf e=1)(C:P.cellsOf t=n){cs}{ns:List Int}{p}
  (h:DataW.trod (fun _=>()) P w 0 (fun _=>true) false fuel t cs=some (.agg (ns.map fun i => .lit (.int k i)),p)):cs=ns.map fun i => .int k i:=by
 obtain⟨I,m,_,g,T,hn,j⟩:=DataW.trod_array U h;simp only[uR,DataW.agg.injEq]at g;have g:=g.1;have J:ns.length=n:=by have:=congrArg List.length g;simp at this;omega
 rw[C]at T;rw[hc]at j;apply List.ext_getElem
 .simp [T,J]
 .intro i h1 h2
  have R:=j i zOm;rw[Nat.mul_one]at R;have l:i<I.length:=zOm;rw[qB l]at R;obtain⟨z,e1,e2,_⟩:=DataW.trod_int he R;have h4:(I[i]).1=DataW.lit (.int k z):=by rw[e2]
  have o:(ns.map fun i=>(DataW.lit (.int k i):DataW Unit))[i]?=(I.map (·.1))[i]?:=by rw[g]
  rw[zB,zB,qB l,qB zOm]at o;simp only[zd,qo]at o;rw[h4]at o;simp only[DataW.lit.injEq,Lit.int.injEq,true_and]at o;have h6:(cs.drop i).take 1=[cs[i]]:=by rw[zg h1];rfl
  grind
theorem qnR{name g cs}(j:P.globalNamed name=some g)(h:w.var? P name=some cs):∃ e i,w.heap[g]?=some (.cells cs e i):=by
 grind [World.var?]
end
end Go.EvW
namespace Go.Proofs.YtlnbdknjkmmgbaaGreatDoor
open Go Go.Ev Go.Proofs Tryz
namespace DT
open Go.EvW Y1 P1 YF
theorem unInt:qc.underlying 3=some (.int .i64):=by kernel_rfl
theorem qcQ:qc.underlying 4=some .bool:=by kernel_rfl
theorem qnS:qc.underlying 9=some .string:=by kernel_rfl
theorem qnT:qc.underlying 28=some (.slice 3):=by kernel_rfl
theorem qnU:qc.underlying 22=some (.slice 65):=by kernel_rfl
theorem qnV:qc.underlying 23=some (.slice 67):=by kernel_rfl
theorem qnW:qc.underlying 32=some (.slice 34):=by kernel_rfl
theorem qnX:qc.underlying 35=some (.slice 85):=by kernel_rfl
theorem qnY:qc.underlying 24=some (.slice 73):=by kernel_rfl
theorem qnZ:qc.underlying 25=some (.slice 75):=by kernel_rfl
abbrev okI(n:Int):Prop := -9223372036854775808<=n/\n<=9223372036854775807
abbrev okS(s:tZ):Prop:=s.size<=140737488351232
instance:Inhabited Nd:=⟨.mk 0 ⟨#[]⟩ 0 [] 0⟩
instance:Inhabited Pd:=⟨⟨⟨#[]⟩,[],default⟩⟩
instance:Inhabited Fld:=⟨⟨⟨#[]⟩,[],false⟩⟩
theorem ZT(N):ShU qc N 3 (fun n:Int=>[aI n]) okI:=
 (ShU.int unInt N).map (fun n=>n) (fun _=>rfl) (fun n h=>by
  grind [Lit.wf,IntKind.min,IntKind.max,IntKind.signed,IntKind.bits])
theorem KY(N):ShU qc N 4 (fun b:Bool=>[aB b]) (fun _=>True):=ShU.bool qcQ N
theorem YQ(N):ShU qc N 9 (fun s:tZ=>[aS s]) okS:=ShU.string qnS N
theorem KZ(N):ShU qc N 28 (fun xs:List Int=>[lI xs]) (fun l=>l.length<=140737488351232/\∀ x,x∈l->okI x):=
 ((ShU.slice qnT (ZT N) (fun _ _=>zKr) (Nat.lt_of_lt_of_eq Nat.zero_lt_one zKr) zKr).le zOm).map (fun l=>l) (fun _=>rfl) fun _ h=>h
theorem qn0(N):ShU qc N 67 jo (fun f=>f.sS.length<=140737488351232/\∀ x,x∈f.sS->okI x):=
 ((ShU.struct (fs:=[(9,0),(28,1),(4,2)]) zKr (.cons' (o':=1) zKr (YQ N) (.cons' (o':=2) zKr (KZ N) (.cons' (o':=3) zKr (KY N) (.nil 3)))) zKr).map
  (fun x=>(⟨x.1,x.2.1,x.2.2.1⟩:Fld)) (fun _=>rfl) (fun x h=>h.2.1)).le zOm
theorem qn1(N):ShU qc N 65 JF (fun s=>okS s.1):=
 ((ShU.struct (fs:=[(9,0),(4,1)]) zKr (.cons' (o':=1) zKr (YQ N) (.cons' (o':=2) zKr (KY N) (.nil 2))) zKr).map
  (fun x=>((x.1,x.2.1):tZ×Bool)) (fun _=>rfl) (fun x h=>h.1)).le zOm
theorem U4:∀ N,ShU qc N 34 cNd (fun _=>True)
 | 0=>fun n i=>absurd i zOm
 | N+1 =>
  have ks:ShU qc N 32 (fun l:List Nd=>[.lst false (l.map cNd)]) (fun _=>True):=((ShU.slice qnW (U4 N) (fun a _=>(ZD a).trans zKr) (Nat.lt_of_lt_of_eq (show 0<5 by omega) zKr) zKr).le zOm).map (fun l=>l) (fun _=>rfl) fun _ _=>trivial
  ((ShU.struct (fs:=[(3,0),(9,1),(3,2),(32,3),(3,4)]) zKr
   (.cons' (o':=1) zKr (ZT N) (.cons' (o':=2) zKr (YQ N) (.cons' (o':=3) zKr (ZT N) (.cons' (o':=4) zKr ks (.cons' (o':=5) zKr (ZT N) (.nil 5)))))) zKr)).map
   (fun x=>Nd.mk x.1 x.2.1 x.2.2.1 x.2.2.2.1 x.2.2.2.2.1) (fun x=>by rw[yP];rfl) fun _ _=>trivial
theorem qn2(N):ShU qc N 85 cPm (fun p=>okI p.2):=
 ((ShU.struct (fs:=[(9,0),(3,1)]) zKr (.cons' (o':=1) zKr (YQ N) (.cons' (o':=2) zKr (ZT N) (.nil 2))) zKr).map
  (fun x=>((x.1,x.2.1):tZ×Int)) (fun _=>rfl) (fun x h=>h.2.1)).le zOm
theorem qn3(N):ShU qc N 35 (fun l:List (tZ×Int)=>[lPm l]) (fun l=>l.length<=140737488351232):=
 ((ShU.slice qnX (qn2 N) (fun _ _=>zKr) (Nat.lt_of_lt_of_eq (show 0<2 by omega) zKr) zKr).le zOm).map (fun l=>l) (fun _=>rfl) fun _ h=>h.1
theorem qn4(N):ShU qc N 73 cPd (fun _=>True):=
 ((ShU.struct (fs:=[(9,0),(35,1),(34,2)]) zKr (.cons' (o':=1) zKr (YQ N) (.cons' (o':=2) zKr (qn3 N) (.cons' (o':=7) zKr (U4 N) (.nil 7)))) zKr).map
  (fun x=>(⟨x.1,x.2.1,x.2.2.1⟩:Pd)) (fun x=>by simp[cPd]) fun _ _=>trivial).le zOm
theorem qn5(N):ShU qc N 75 cFa (fun _=>True):=
 ((ShU.struct (fs:=[(9,0),(34,1)]) zKr (.cons' (o':=1) zKr (YQ N) (.cons' (o':=6) zKr (U4 N) (.nil 6))) zKr).map
  (fun x=>((x.1,x.2.1):tZ×Nd)) (fun x=>by simp[cFa]) fun _ _=>trivial).le zOm
structure okTA (ts:TS):Prop where
 so:∀ x,x∈ts.sS->okS x.1
 nso:ts.sS.length<=140737488351232
 nf:ts.sA.length<=140737488351232
 fl:∀ f,f∈ts.sA->f.sS.length<=140737488351232/\∀ x,x∈f.sS->okI x
theorem qn6(N):ShU qc N 27 cTS okTA:=by
 have s1:=(ShU.slice qnU (qn1 N) (fun _ _=>zKr) (Nat.lt_of_lt_of_eq (show 0<2 by omega) zKr) zKr).le (M:=N) zOm;have i:=(ShU.slice qnV (qn0 N) (fun _ _=>zKr) (Nat.lt_of_lt_of_eq (show 0<3 by omega) zKr) zKr).le (M:=N) zOm;have j:=(ShU.slice qnY (qn4 N) (fun a h=>(Qy a).1.trans zKr) (Nat.lt_of_lt_of_eq (show 0<7 by omega) zKr) zKr).le (M:=N) zOm;have l:=(ShU.slice qnZ (qn5 N) (fun a h=>(nX a).1.trans zKr) (Nat.lt_of_lt_of_eq (show 0<6 by omega) zKr) zKr).le (M:=N) zOm;have U:=ShU.struct (t:=27) (fs:=[(22,0),(23,1),(24,2),(25,3)]) zKr (.cons' (o':=1) zKr s1 (.cons' (o':=2) zKr i (.cons' (o':=3) zKr j (.cons' (o':=4) zKr l (.nil 4))))) zKr;exact(U.map (fun x=>(⟨x.1,x.2.1,x.2.2.1,x.2.2.2.1⟩:TS)) (fun _=>rfl) fun x h=>⟨h.1.2,h.1.1,h.2.1.1,h.2.1.2⟩).le zOm
theorem aSpec:vh qc 27 eTS okTA:=vh.struct zKr qn6
theorem aNode:vh qc 34 eNd (fun _=>True):=vh.struct zKr U4
end DT
namespace QA
def bA:tZ:=⟨#[65]⟩
def bf:tZ:=⟨#[102]⟩
def bp:tZ:=⟨#[112]⟩
end QA
namespace QB
open Y1 Q6 Q9 QA
def nC:Nd := .mk 45 bf 0 [qb3 bA 2,.mk 47 bp 0 [qb3 bf 5] 3] 1
theorem h47:anyN (fun n=>decide (n.op=47)) nC=true:=by decide +kernel
def WkR:List (List AV)->List (List AV)->Prop
 | [],[]=>True
 |x :: p,y :: l=>WKs x y/\WkR p l
 |_,_=>False
theorem qcR:∀{xs ys g i},WKs xs ys->WKs g i->WKs (xs++g) (ys++i)
 | [],[],_,_,_,j=>j
 |_ :: _,_ :: _,_,_,⟨h,t⟩,j=>⟨h,qcR t j⟩
 | [],_ :: _,_,_,h,_=>h.elim
 |_ :: _,[],_,_,h,_=>h.elim
theorem qcS:∀{xs ys},WkR xs ys->ys.length=xs.length/\(∀(k:Nat) x y,xs[k]?=some x->ys[k]?=some y->x.length=y.length)/\WKs xs.flatten ys.flatten
 | [],[],_=>⟨rfl,fun k x y h=>by simp at h,trivial⟩
 |x :: xs,y :: ys,⟨h,t⟩=>by
  obtain⟨j,l,o⟩:=qcS t;refine⟨zP1 j,fun k a b g i=>?_,by rw[uQ,uQ];exact qcR h o⟩;cases k with
  |zero=>simp at g i;subst g;subst i;exact h.get.1.symm
  |succ k=>exact l k a b (zUs g) (zUs i)
 | [],_ :: _,h=>h.elim
 |_ :: _,[],h=>h.elim
theorem Zk{full xs ys}(h:WkR xs ys):WK (.lst full xs) (.lst false ys):=by
 obtain⟨l,C,I⟩:=qcS h;have J:=p6 l C;have P:=I.get.2;intro G R v r;cases r with
 |nil=>cases ys with
  |nil=>exact .nil _
  |cons=>simp at l
 |emp _ a cap T=>cases ys with
  |nil=>exact .emp _ a cap zSp
  |cons=>simp at l
 |lst _ _ sz a cap U e fr rd hb hs hl T hi o hr hv =>
  rw[<-l];have g:∀(k:Nat) y,ys.flatten[k]?=some y->∃ x,xs.flatten[k]?=some x:=by
   intro k y j;have p:k<ys.flatten.length:=(qh.1 j).1;exact⟨xs.flatten[k]' zOm,by simp only[qB (show k<xs.flatten.length by omega)]⟩
  refine .lst false ys sz a cap U e fr rd hb hs zOm zSp hi ?_ ?_ ?_
  .intro r t
   obtain⟨k,p⟩:=List.mem_iff_getElem?.1 t;have a0:k<ys.length:=(qh.1 p).1;have i:xs[k]?=some (xs[k]' zOm):=by simp[show k<xs.length by omega]
   rw[<-C k _ r i p];exact o _ (qQ i)
  .intro k y j
   obtain⟨x,i⟩:=g k y j;exact hr k x i
  .intro k y j
   obtain⟨x,i⟩:=g k y j;exact P k x y i j G R _ (hv k x i)
end QB
namespace PB
open P1 P2 Y1 Y2 Y6 Y9 Y12 YW QB
section
variable {b':Kd}
def Sub(a b:Kd):Prop:=a.ar=b.ar/\∀ t,t∈a.ts->t∈b.ts
theorem qn7{n m a g b b'}(i:∀ t,t∈a->t∈g)(j:∀ t,t∈b->t∈b'):∀ t,t∈uA n m a b->t∈uA n m g b':=fun t l=>by
 grind [Qw]
theorem qn8{n m a g b b'}(i:∀ t,t∈a->t∈g)(j:∀ t,t∈b->t∈b'):∀ t,t∈wV n m a b->t∈wV n m g b':=fun t l=>by
 grind [JL]
theorem U5{a j b}(g:Sub a j)(i:Sub b b'):Sub (zL a b) (zL j b'):=by
 refine⟨by simp only[zL];rw[g.1,i.1],fun t l=>?_⟩;simp only[zL]at l⊢;rw[<-g.1,<-i.1];exact qn7 g.2 i.2 t l
theorem qn9{a j b}(g:Sub a j)(i:Sub b b'):Sub (uB a b) (uB j b'):=by
 refine⟨by simp only[uB];rw[g.1,i.1],fun t l=>?_⟩;simp only[uB]at l⊢;rw[<-g.1,<-i.1];exact qn8 g.2 i.2 t l
theorem Zl{a b}{t:Tp}:t∈(kSum a b).ts↔t∈a.ts\/t∈b.ts:=by
 show t∈uni (uni [] a.ts) b.ts↔_;rw[vL,vL];simp
theorem qcT{a g b}(i:Sub a g)(j:∀ t,t∈b.ts->t∈b'.ts):Sub (kSum a b) (kSum g b'):=
 ⟨i.1,fun t l=>Zl.2 ((Zl.1 l).imp (i.2 t) (j t))⟩
theorem Sub.refl(a):Sub a a:=⟨rfl,fun _ h=>h⟩
theorem Sub.trans{a b c}(h:Sub a b)(k:Sub b c):Sub a c:=⟨h.1.trans k.1,fun t g=>k.2 t (h.2 t g)⟩
theorem K0(a b):Sub a (kSum a b):=⟨rfl,fun t g=>Zl.2 (.inl g)⟩
theorem Yz{a g}(i:Sub a g):Sub (kTr a) (kTr g):=⟨rfl,fun t j=>by
 obtain⟨x,l,e⟩:=Uu.1 j;exact Uu.2 ⟨x,i.2 x l,e⟩⟩
def U6(k:Kd):Prop:=∀ t,t∈(zL k k).ts->t∈k.ts
theorem K1:∀ f n a,Sub a (cloN f n a)
 | 0,n,a => .refl a
 |f+1,n,a=>by
  unfold cloN;split
  .exact (K0 a _).trans (K1 f _ _)
  .exact .refl a
theorem K2{S}(i:U6 S):∀ f n a,Sub a S->Sub (cloN f n a) S
 | 0,n,a,h=>h
 |f+1,n,a,h=>by
  unfold cloN;split
  .refine K2 i f _ _ ⟨h.1,fun t g=>?_⟩
   rcases Zl.1 g with g|g
   .exact h.2 t g
   .exact i t ((U5 h h).2 t g)
  .exact h
theorem K3{ns}(o:ns<=4):∀ f n a,okKd ns a->a.ar=2->70<=f+n->(n=0\/∃ p,okKd ns p/\p.ar=2/\n=p.ts.length/\a=kSum p (zL p p))->U6 (cloN f n a)
 | 0,n,a,g,C,hf,I=>by
  rcases I with rfl|⟨p,P,_,rfl,_⟩
  .omega
  grind [aZ]
 |f+1,n,a,g,C,hf,I=>by
  unfold cloN;split
  .rename_i U
   have hj:okKd ns (zL a a):=JT g g zOm zOm;refine K3 o f _ _ (JR g hj (by grind [zL])) C zOm (.inr ⟨a,g,C,rfl,rfl⟩)
  .rename_i a0
   rcases I with rfl|⟨p,P,a1,rfl,rfl⟩
   .have:a.ts=[]:=uP zOm
    intro t i;obtain⟨x,y,⟨J,_⟩,_⟩:=Qw.1 i
    grind
   .have j:∀ t,t∈(kSum p (zL p p)).ts->t∈p.ts:=by
     have a2:(kSum p (zL p p)).ts.Nodup:=g.nd;have a3:∀ t,t∈p.ts->t∈(kSum p (zL p p)).ts:=(K0 p _).2;intro t i;by_cases R:t∈p.ts
     .exact R
     .exfalso
      have l:(t :: p.ts).Nodup:=List.nodup_cons.2 ⟨R,P.nd⟩;have:=jm l (l₂:=(kSum p (zL p p)).ts) (fun x J=>by
       rcases qy.1 J with rfl|J
       .exact i
       grind)
      grind
    intro t i;have T:Sub (kSum p (zL p p)) p:=⟨rfl,j⟩;exact Zl.2 (.inr ((U5 T T).2 t i))
theorem qoA{ns}(g:ns<=4){a u}(h:Sub a u)(i:okKd ns u)(j:u.ar=2):Sub (kClo a) (kClo u):=
 K2 (K3 g 70 0 u i j zOm (.inl rfl)) 70 0 a (h.trans (K1 70 0 u))
theorem qcU(c):∀ m n s k,szN n<=m->exam c s true n = .ok k->exam c s false n = .ok k
 | 0,n,_,_,I,_=>by obtain⟨op,nm,i,ks,p⟩:=n;simp[szN]at I
 |m+1,n,s,k,I,h=>by
  have P:∀ x,x∈n.sD->∀(s:Scp)(g:Bool)(k:Option Kd),exam c s true x = .ok k->exam c s g x = .ok k:=fun x t s g k h=>by
   cases g with
   |true=>exact h
   |false=>exact qcU c m x s k (zW1 (zf t)) h
  have U:∀(l:List Nd),(∀ x,x∈l->x∈n.sD)->∀(s:Scp)(g:Bool)(r:List (Option Kd)),qL c s true l = .ok r->qL c s g l = .ok r:=by
   intro l;induction l with
   |nil=>intro _ s g r h;exact h
   |cons x l R =>
    grind [qL,exam,qZ,qN]
  rw[yI]at h⊢;simp only[Bool.true_and,Bool.false_and,Bool.true_or,Bool.false_or,Bool.false_eq_true,if_false]at h⊢;split at h
  .cases h
  by_cases T:n.op=1
  .grind
  rw[if_neg T]at h⊢;by_cases h47:n.op=47
  .grind
  rw[if_neg h47]at h⊢;by_cases J:n.op=15\/n.op=45\/n.op=46
  .rw [if_pos J]at h⊢
   cases j:n.sD with
   |nil=>rw[j]at h;exact h
   |cons x l =>
    have o:∀ y,y∈x :: l->y∈n.sD:=fun y hy=>by grind
    rw[j]at h;simp only[z7]at h⊢;cases t:exam c s true x with
    |error e=>grind
    |ok a =>
     rw[t]at h;rw[P x (o x (qZ ..)) s _ a t];cases a with
     |none=>cases h
     |some a =>
      simp only at h⊢;split at h
      .rename_i C
       rw[if_pos C]
       grind
      .cases h
  rw[if_neg J]at h⊢
  grind
section
variable {ts:TS} (ok:okTS ts) (a b d:Nd)
include ok
end
end
end PB
namespace PC
open YS P1 P2 Y1 Y2 Y9 Y10 Y12 YZ YA PA YC YG Q1 Q3 Q4 PB
section
variable {es:List (tZ×Bool)}
theorem qoB{a i b b'}(j:Sub i a)(l:Sub b' b):Sub (ZE i b') (ZE a b):=⟨j.1,fun t g=>by
 simp only[ZE,y5,decide_eq_true_eq]at g⊢;exact⟨j.2 t g.1,l.2 t g.2⟩⟩
theorem qoC{op a g b b'}(i:Sub g a)(j:Sub b' b):Sub (vt op g b') (vt op a b):=by
 unfold vt;split
 .exact qcT i j.2
 grind [qoB]
theorem qoD{ns}(i:ns<=4){op a g}(h:Sub g a)(ok:okKd ns a)(j:a.ar=2):Sub (binK ns op g) (binK ns op a):=by
 grind [binK,qoA,qcT,Yz]
theorem apK1(ns op n pos a):zy ns op n pos [some a]=if op=2 then .ok (some ⟨n,[]⟩) else if op=3 then .ok (some (zu ns 1)) else if op=4 then .ok (some (zu ns 2)) else
  if op=5 then .ok (some a) else if op=11\/op=12\/op=13 then (if a.ar=2 then .ok (some (binK ns op a)) else .error (42,pos)) else .ok none:=rfl
theorem apK2(ns op n pos a b) : zy ns op n pos [some a, some b] = if op = 2 then .ok (some ⟨n, []⟩) else if op = 3 then .ok (some (zu ns 1)) else if op = 4 then .ok (some (zu ns 2)) else
      if op=6\/op=14\/op=7\/op=8\/op=32\/op=33 then (if a.ar=b.ar then .ok (some (vt op a b)) else .error (42,pos))
      else if op=9 then (if 1<=a.ar+b.ar-2/\a.ar+b.ar-2<=3 then .ok (some (zL a b)) else .error (42,pos))
      else if op=10 then (if a.ar+b.ar<=3 then .ok (some (uB a b)) else .error (42,pos))
      else .ok none:=rfl
theorem qoE{ns}(P:ns<=4){op num pos l l' T}(e1:op≠1)(a0:op≠15)
  (h1:op=5\/op=11\/op=12\/op=13->∃ a j,l=[some a]/\l'=[some j]/\Sub j a/\okKd ns a)
  (h2:op=6\/op=14\/op=7\/op=8\/op=32\/op=33\/op=9\/op=10->∃ a b j b',l=[some a,some b]/\l'=[some j,some b']/\Sub j a/\Sub b' b)
  (h:zy ns op num pos l = .ok T):∃ p,zy ns op num pos l' = .ok p/\(kd op=101->∃ k k',T=some k/\p=some k'/\Sub k' k):=by
 by_cases o:op=2
 .unfold zy at h⊢
  rw[if_pos o]at h⊢;cases h;exact⟨_,rfl,fun _=>⟨_,_,rfl,rfl,Sub.refl _⟩⟩
 by_cases t:op=3
 .unfold zy at h⊢
  rw[if_neg o,if_pos t]at h⊢;cases h;exact⟨_,rfl,fun _=>⟨_,_,rfl,rfl,Sub.refl _⟩⟩
 by_cases C:op=4
 .unfold zy at h⊢
  rw[if_neg o,if_neg t,if_pos C]at h⊢;cases h;exact⟨_,rfl,fun _=>⟨_,_,rfl,rfl,Sub.refl _⟩⟩
 by_cases g1:op=5\/op=11\/op=12\/op=13
 .obtain ⟨a,j,rfl,rfl,U,ok⟩:=h1 g1
  rw[apK1,if_neg o,if_neg t,if_neg C]at h⊢;by_cases e5:op=5
  .rw [if_pos e5]at h⊢
   cases h
   grind
  have g:op=11\/op=12\/op=13:=zOm;rw[if_neg e5,if_pos g]at h⊢;by_cases i:a.ar=2
  .rw [if_pos i]at h
   rw[if_pos (U.1.trans i)];cases h;exact⟨_,rfl,fun _=>⟨_,_,rfl,rfl,qoD P U ok i⟩⟩
  grind
 by_cases g2:op=6\/op=14\/op=7\/op=8\/op=32\/op=33\/op=9\/op=10
 .obtain ⟨a,b,j,b',rfl,rfl,I,J⟩:=h2 g2
  have q1:=I.1;have q2:=J.1;rw[apK2,if_neg o,if_neg t,if_neg C]at h⊢;by_cases g3:op=6\/op=14\/op=7\/op=8\/op=32\/op=33
  .rw [if_pos g3]at h⊢
   by_cases i:a.ar=b.ar
   .rw [if_pos i]at h
    rw[if_pos zOm];cases h;exact⟨_,rfl,fun _=>⟨_,_,rfl,rfl,qoC I J⟩⟩
   grind
  rw[if_neg g3]at h⊢;by_cases e9:op=9
  .rw [if_pos e9]at h⊢
   by_cases i:1<=a.ar+b.ar-2/\a.ar+b.ar-2<=3
   .rw [if_pos i]at h
    rw[if_pos zOm];cases h;exact⟨_,rfl,fun _=>⟨_,_,rfl,rfl,U5 I J⟩⟩
   grind
  have R:op=10:=zOm;rw[if_neg e9,if_pos R]at h⊢;by_cases i:a.ar+b.ar<=3
  .rw [if_pos i]at h
   rw[if_pos zOm];cases h;exact⟨_,rfl,fun _=>⟨_,_,rfl,rfl,qn9 I J⟩⟩
  grind
 refine⟨none,Uv o t C zOm zOm zOm zOm zOm zOm zOm zOm zOm zOm zOm zOm,fun hk=>?_⟩;have:=JV hk;omega
theorem qoF{c n k}(h:yx c n=false)(g:k∈n.sD):yx c k=false:=by
 grind [Uq,Bool.or_eq_false_iff,List.any_eq_false]
theorem K4{c b b'}:∀{ks s},(∀ k,k∈ks->∀ s,exam c s b k=exam c s b' k)->qL c s b ks=qL c s b' ks
 | [],s,_=>by simp only[qL]
 |k :: ks,s,h=>by
  simp only[qL];rw[h k (qZ ..) s,K4 fun k g s=>h k (qN _ g) s]
theorem qoG{c b b' nm pos}:∀{ks s},(∀ k,k∈ks->∀ s,exam c s b k=exam c s b' k)->z7 c s b nm pos ks=z7 c s b' nm pos ks
 | [],s,_=>by simp only[z7]
 |k :: ks,s,h=>by
  grind [z7,qZ,exam,K4,qN]
theorem qcV(c):∀ m n s b b',szN n<=m->yx c n=false->exam c s b n=exam c s b' n
 | 0,n,_,_,_,g,_=>by obtain⟨op,nm,i,ks,p⟩:=n;simp[szN]at g
 |m+1,n,s,b,b',g,h=>by
  have j:∀ b b' k,k∈n.sD->∀ s,exam c s b k=exam c s b' k:=fun b b' k l s=>qcV c m k s b b' (zW1 (zf l)) (qoF h l)
  have o:zX c n.op n.name=false:=by rw[Uq,Bool.or_eq_false_iff]at h;exact h.1
  rw[yI,yI,o,Bool.and_false,Bool.and_false];rw[qoG (b:=b||decide (n.op=15)) (b':=b'||decide (n.op=15)) (j _ _),K4 (b:=b||decide (n.op=12)||decide (n.op=13)) (b':=b'||decide (n.op=12)||decide (n.op=13)) (j _ _)]
theorem U7(ts i):∀ m,i<m->m<=ts.sT.length->∀ j,(tmsL ts m).getD i false=yx (mkCk ts i) ts.sT[i].body
 | 0,h,_,_=>absurd h zOm
 |m+1,h,t,j=>by
  have l:=ZI ts m zOm;have g:m<ts.sT.length:=zOm;have e:tmsL ts (m+1)=tmsL ts m++[yx (mkCk ts m) ts.sT[m].body]:=by
   show tmsL ts m++(match ts.sT[m]? with|some p=>[yx ⟨ts,m,tmsL ts m⟩ p.body] | none=>[])=_;rw[qB g];rfl
  rw[e];by_cases o:i<m
  .rw [<-U7 ts i m o zOm j]
   simp only[zT];rw[zGa]
  .have:i=m:=by omega
   subst this;simp only[zT];rw[yd zOm,l];simp
abbrev tkn(es:List (tZ×Bool))(nm:tZ):Prop:=getK nm es=some true
def Tk(es:List (tZ×Bool))(n:Nd):Prop:=∀ x,x∈preN n->tkn es x.name
def OwnT(n:Nd):Prop:=∀ x,x∈preN n->ownB x=true
def vLe(es:List (tZ×Bool))(L:Int)(nm:tZ):Prop:=∃ j:Nat,(j:Int)<=L/\nm=vN j/\¬tkn es nm/\zr nm=true
structure qoH (es:List (tZ×Bool)) (L:Int) (x:Nd):Prop where
 nc:x.op≠47
 own:ownB x=true
 nm:tkn es x.name\/vLe es L x.name
structure vC (es:List (tZ×Bool)) (L:Int) (n:Nd):Prop where
 wf:WfN n
 all:∀ x,x∈preN n->qoH es L x
theorem vLe.mono{L L' nm}(h:vLe es L nm)(g:L<=L'):vLe es L' nm:=by
 obtain⟨j,a,b⟩:=h;exact⟨j,zOm,b⟩
theorem vC.mono{L L' n}(h:vC es L n)(i:L<=L'):vC es L' n:=
 ⟨h.wf,fun x g=>⟨(h.all x g).nc,(h.all x g).own,(h.all x g).nm.imp id fun v=>v.mono i⟩⟩
theorem Tk.kid{n k}(h:Tk es n)(g:k∈n.sD):Tk es k:=fun x i=>h x (YL g i)
theorem OwnT.kid{n k}(h:OwnT n)(g:k∈n.sD):OwnT k:=fun x i=>h x (YL g i)
theorem U8{ks x}(h:x∈zo ks):∃ k,k∈ks/\x∈preN k:=by
 induction ks with
 |nil=>simp[zo]at h
 |cons a l g =>
  simp only[zo,qO]at h;rcases h with h|h
  .exact ⟨a,qZ ..,h⟩
  .obtain ⟨k,i,j⟩:=g h
   exact⟨k,qN _ i,j⟩
theorem qoI{nm n}(h:wA nm n):∃ x,x∈preN n/\x.name=nm:=by
 unfold wA at h;rw[YO _ (szN n) n (qj _),List.any_eq_true]at h
 grind
theorem K5{ts es}:∀{f k},(∃ j:Nat,1<=j/\j<=f/\yD ts es (vN (k+j))=true)->yD ts es (vN (zp ts es f k))=true
 | 0,k,⟨j,i,l,_⟩=>zOm
 |f+1,k,⟨j,i,l,g⟩=>by
  simp only[zp];split
  .rename_i h;exact h
  .rename_i o
   have p:j≠1:=fun e=>by subst e;exact o g
   exact K5 (ts:=ts) (es:=es) (f:=f) (k:=k+1) ⟨j-1,zOm,zOm,by rw[show k+1+((j-1:Nat):Int)=k+j by omega];exact g⟩
theorem qcW:∀ m u,u<10 ^ (m+1)->(Lib.decDigits u).length<=m+1
 | 0,u,h=>by
  grind [Lib.decDigits]
 |m+1,u,h=>by
  rw[Lib.decDigits];split
  .simp
  .rw [zh]
   have:=qcW m (u / 10) (by rw[Nat.pow_succ]at h;omega);simp only[yh,List.length_nil];omega
theorem qcX:∀ m u,u<=m->∀ x,x∈Lib.decDigits u->48<=x.toNat/\x.toNat<=57
 |m,u,i,x,g=>by
  rw[Lib.decDigits]at g;split at g
  .rename_i h
   rw[qS]at g;subst g;rw[UInt8.toNat_ofNat_of_lt' (by simp[UInt8.size];omega)];omega
  .rename_i h
   rcases qO.1 g with g|g
   .match m with
    | 0=>omega
    |m+1=>exact qcX m (u / 10) zOm x g
   .rw [qS]at g
    subst g;rw[UInt8.toNat_ofNat_of_lt' (by simp[UInt8.size];omega)];omega
theorem qoJ(u):Lib.decDigits u≠[]:=by
 rw[Lib.decDigits];split<;>simp
theorem qoK(j:Nat):(vN (j:Int)).data.toList=118 :: Lib.decDigits j:=by
 simp_all[vN,jq,Lib.itoa,if_neg]
theorem qoL:∀ x,x∈kwL->∀ c,x.data.toList[1]?=some c->¬(48<=c.toNat/\c.toNat<=57):=by decide +kernel
theorem qoM{j:Nat}(h:j<1000000000000):zr (vN (j:Int))=true:=by
 have l:=qoK j;have J:=qcW 11 j zOm;have p:=qcX j j (qj _);have t:=qoJ j;obtain⟨d,r,e⟩:=List.exists_cons_of_ne_nil t;have C:(vN (j:Int)).size=1+(Lib.decDigits j).length:=by
  have e:(vN (j:Int)).size=(vN (j:Int)).data.toList.length:=by rw[Array.length_toList];rfl
  rw[e,l,yh,Nat.add_comm]
 have o:kwB (vN (j:Int))=false:=by
  unfold kwB;rw[List.any_eq_false];intro x I g;have g:x=vN (j:Int):=zUs g;refine qoL x I d ?_ (p d (by rw[e];exact qZ ..));rw[g,l,e];rfl
 unfold zr;simp only[qD,decide_eq_true_eq,o,Bool.not_false,and_true];refine⟨⟨zOm,zOm⟩,?_⟩;rw[q8];intro i _;rw[<-Array.getElem?_toList,l];cases i with
 |zero=>show chB 0 ((118:UInt8).toNat:Int)=true;decide
 |succ i =>
  rw[List.getElem?_cons_succ];cases g:(Lib.decDigits j)[i]? with
  |none=>rfl
  |some c =>
   have:=p c (qQ g);simp[chB];right;right;omega
end
end PC
namespace PD
open P1 P2 Y1 Y2 Y9 YX YZ YA YB PA YC YG Q3 Q4 PB PC
section
variable {body:Bool}{c0:Ck}{env:IEnv}{L:Int}{es:List (tZ×Bool)}{l l':List (Option Kd)}{s s':Scp}
structure ArgR (c0:Ck) (es:List (tZ×Bool)) (L:Int) (s':Scp) (k:Kd) (a:Nd):Prop where
 ex:∃ k',exam c0 s' true a = .ok (some k')/\Sub k' k
 good:vC es L a
 kd:kd a.op=101
def RlV(c0:Ck)(es:List (tZ×Bool))(L:Int)(s':Scp)(v:tZ):Option Kd->Option IV->Prop
 |none,none=>True
 |none,some _=>False
 |some k,none=>∃ g,lookS v s'=some g/\Sub g k
 |some k,some ⟨some a,_,_⟩=>ArgR c0 es L s' k a
 |some k,some ⟨none,_,i⟩=>(∃ g,lookS i s'=some g/\Sub g k)/\vLe es L i
structure Rl (c0:Ck) (es:List (tZ×Bool)) (L:Int) (body:Bool) (s s':Scp) (env:IEnv):Prop where
 mean:∀ v,v∈s'->means c0.ts v.1=[]
 rel:∀ v,tkn es v->RlV c0 es L s' v (lookS v s) (getK v env)
 arg:body=false->∀ v iv,getK v env=some iv->iv.arg=none
theorem RlV.mono{L' v g iv}(h:RlV c0 es L s' v g iv)(i:L<=L'):RlV c0 es L' s' v g iv:=by
 match g,iv with
 |none,none=>exact h
 |none,some _=>exact h
 |some k,none=>exact h
 |some k,some ⟨some a,_,_⟩ =>
  have h:ArgR c0 es L s' k a:=h;exact(⟨h.ex,h.good.mono i,h.kd⟩:ArgR c0 es L' s' k a)
 |some k,some ⟨none,_,j⟩=>exact⟨h.1,h.2.mono i⟩
theorem Rl.mono{L'}(h:Rl c0 es L body s s' env)(g:L<=L'):Rl c0 es L' body s s' env:=
 ⟨h.mean,fun v i=>(h.rel v i).mono g,h.arg⟩
theorem U9{nm}:∀{s k},lookS nm s=some k->(nm,k)∈s
 | [],k,h=>by simp[qm3]at h
 |v :: s,k,h=>by
  rw[Zi]at h;split at h
  .rename_i e
   cases h;rw[<-e];exact qZ ..
  .exact qN _ (U9 h)
theorem Rl.bind{st:ISt}{nm k k'}(a4:Free c0.ts es)(a0:(env.map Prod.fst).Nodup)(h:Rl c0 es st.last body s s' env)(h0:0<=st.last)(hb:st.last+(qm c0.ts es:Nat)<1000000000000)(ht:tkn es nm)(hs:Sub k' k) :
  Rl c0 es (renI c0.ts es env nm body st).2.last body ((nm,k) :: s) (((renI c0.ts es env nm body st).1.2,k') :: s') (renI c0.ts es env nm body st).1.1/\st.last<=(renI c0.ts es env nm body st).2.last/\(tkn es (renI c0.ts es env nm body st).1.2\/vLe es (renI c0.ts es env nm body st).2.last (renI c0.ts es env nm body st).1.2):=by
 have a1:∀ v,lookS v ((nm,k) :: s)=if nm=v then some k else lookS v s:=fun v=>Zi v _ _
 unfold renI;by_cases hc:body=true\/means c0.ts nm≠[]
 .rw [if_pos hc]
  have a2:=a4 st.last h0;have o:=K5 a2;have a9:=Kx c0.ts es (qm c0.ts es) st.last;have a7:=Ky a2;generalize zp c0.ts es (qm c0.ts es) st.last=J at *
  obtain⟨j,rfl⟩:∃ j:Nat,J=j:=⟨J.toNat,zOm⟩;simp only[yD,qD,decide_eq_true_eq]at o;obtain⟨f1,f2⟩:=o;have hv:vLe es (j:Int) (vN j):=⟨j,vq _,rfl,f1,qoM zOm⟩;have T:∀ v,v≠vN (j:Int)->lookS v ((vN (j:Int),k') :: s')=lookS v s':=fun v hv=>by
   rw[Zi,if_neg (fun e=>hv e.symm)]
  have a5:∀{v:tZ},vLe es st.last v->v≠vN (j:Int):=fun⟨i,hi,e,_⟩ t=>by
   grind [qcL]
  have a3:∀ v,getK v (setK nm ⟨none,0,vN (j:Int)⟩ (delK nm env))=if v=nm then some ⟨none,0,vN (j:Int)⟩ else getK v env:=fun v=>by
   grind [jy,Qt]
  refine⟨⟨fun v U=>?_,fun v I=>?_,fun p v iv g=>?_⟩,by grind,.inr hv⟩
  .rcases qy.1 U with rfl|U
   .exact f2
   .exact h.mean v U
  .show RlV c0 es (j:Int) ((vN (j:Int),k') :: s') v (lookS v ((nm,k) :: s)) (getK v (setK nm ⟨none,0,vN (j:Int)⟩ (delK nm env)))
   rw[a1,a3];by_cases C:nm=v
   .rw [if_pos C,if_pos C.symm]
    exact⟨⟨k',by rw[Zi,if_pos rfl],hs⟩,hv⟩
   .rw [if_neg C,if_neg (fun e=>C e.symm)]
    have l:=(h.rel v I).mono (L':=(j:Int)) zOm;have P:=h.rel v I;generalize lookS v s=lk at *
    generalize getK v env=iv at *
    match lk,iv with
    |none,none=>trivial
    |none,some _=>exact l
    |some q,none =>
     obtain⟨R,e1,t⟩:=l;exact⟨R,by grind,t⟩
    |some q,some ⟨some a,_,_⟩ =>
     have l:ArgR c0 es (j:Int) s' q a:=l;have P:ArgR c0 es st.last s' q a:=P;refine(⟨?_,l.good,l.kd⟩:ArgR c0 es (j:Int) ((vN (j:Int),k') :: s') q a);obtain⟨R,e1,t⟩:=l.ex;refine⟨R,?_,t⟩;rw[<-e1];refine qb9 (wB.refl c0) (szN a) a _ _ true (qj _) fun x hx=>?_
     obtain⟨y,hy,rfl⟩:=qoI hx;rcases (P.good.all y hy).nm with h1|h1
     .grind
     grind
    |some q,some ⟨none,_,to⟩ =>
     obtain⟨⟨R,e1,t⟩,e3⟩:=l;exact⟨⟨R,by rw[T to (a5 P.2)];exact e1,t⟩,e3⟩
  .have g:getK v (setK nm ⟨none,0,vN (j:Int)⟩ (delK nm env))=some iv:=g
   rw[a3]at g;split at g
   .cases g;rfl
   .exact h.arg p v iv g
 .rw [if_neg hc]
  have p:body=false:=by
   grind
  have a6:means c0.ts nm=[]:=by
   grind
  have T:∀ v,v≠nm->lookS v ((nm,k') :: s')=lookS v s':=fun v hv=>by
   rw[Zi,if_neg (fun e=>hv e.symm)]
  refine⟨⟨fun v U=>?_,fun v I=>?_,fun p v iv g=>?_⟩,vq _,.inl ht⟩
  .rcases qy.1 U with rfl|U
   .exact a6
   .exact h.mean v U
  .show RlV c0 es st.last ((nm,k') :: s') v (lookS v ((nm,k) :: s)) (getK v (delK nm env))
   rw[a1,Qt a0];by_cases C:nm=v
   .rw [if_pos C,if_pos C.symm]
    exact⟨k',by rw[Zi,if_pos C],hs⟩
   .rw [if_neg C,if_neg (fun e=>C e.symm)]
    have l:=h.rel v I;have a8:=h.arg p v;generalize lookS v s=lk at *
    generalize getK v env=iv at *
    match lk,iv with
    |none,none=>trivial
    |none,some _=>exact l
    |some q,none =>
     obtain⟨R,e1,t⟩:=l;exact⟨R,by grind,t⟩
    |some q,some ⟨some a,_,_⟩=>grind
    |some q,some ⟨none,_,to⟩ =>
     obtain⟨⟨R,e1,t⟩,e3⟩:=l;refine⟨⟨R,?_,t⟩,e3⟩;rw[T to fun e=>?_]
     .exact e1
     .obtain ⟨_,_,_,hn,_⟩:=e3
      grind
  .have g:getK v (delK nm env)=some iv:=g
   rw[Qt a0]at g;split at g
   .cases g
   .exact h.arg p v iv g
structure Out (c0:Ck) (es:List (tZ×Bool)) (s':Scp) (inn:Bool) (n n':Nd) (ko:Option Kd) (L L':Int):Prop where
 ex:∃ ko',exam c0 s' inn n' = .ok ko'/\(kd n.op=101->∃ k k',ko=some k/\ko'=some k'/\Sub k' k)
 good:vC es L' n'
 kd:kd n'.op=kd n.op
 le:L<=L'
def Pt(es:List (tZ×Bool))(L:Int):List Nd->List Nd->List (Option Kd)->List (Option Kd)->Prop
 | [],[],[],[]=>True
 |k :: ks,i :: g,a :: l,o :: p=>((kd k.op=101->∃ q j,a=some q/\o=some j/\Sub j q)/\kd i.op=kd k.op/\vC es L i)/\Pt es L ks g l p
 |_,_,_,_=>False
theorem Pt.spec:∀{ks g l l'},Pt es L ks g l l'->(g.map fun k=>kd k.op)=(ks.map fun k=>kd k.op)/\∀ k,k∈g->vC es L k
 | [],[],[],[],_=>⟨rfl,fun k j=>absurd j qK⟩
 |k :: ks,k' :: g,a :: l,t :: l',h=>by
  obtain⟨⟨C,I,o⟩,p⟩:=h;obtain⟨J,P⟩:=Pt.spec p;refine⟨by grind,fun x i=>?_⟩;rcases qy.1 i with rfl|i
  .exact o
  grind
theorem Pt.cons{es L k ks j l l'}(h:Pt es L (k :: ks) j l l'):∃ k' g a l2 o i,j=k' :: g/\l=a :: l2/\l'=o :: i/\(kd k.op=101->∃ q p,a=some q/\o=some p/\Sub p q)/\Pt es L ks g l2 i:=by
 cases j with
 |nil=>cases l<;>cases l'<;>exact h.elim
 |cons k' g =>
  cases l with
  |nil=>cases l'<;>exact h.elim
  |cons a l2 =>
   cases l' with
   |nil=>exact h.elim
   |cons o i=>exact⟨k',g,a,l2,o,i,rfl,rfl,rfl,h.1.1,h.2⟩
theorem Pt.nil{g}(h:Pt es L [] g l l'):l=[]/\l'=[]:=by
 cases g with
 |nil =>
  cases l with
  |nil=>cases l' with
   |nil=>exact⟨rfl,rfl⟩
   |cons a l=>exact h.elim
  |cons a l=>cases l'<;>exact h.elim
 |cons k ks=>cases l<;>cases l'<;>exact h.elim
theorem Pt.one{ks i}(h:Pt es L ks i l l')(g:(ks.map fun k=>kd k.op)=[101]):∃ a j,l=[some a]/\l'=[some j]/\Sub j a:=by
 match ks,g with
 | [k],g =>
  obtain⟨C,o,a,I,j,p,rfl,rfl,rfl,J,t⟩:=h.cons;obtain⟨rfl,rfl⟩:=t.nil
  grind
 | [],g=>simp at g
 |_ :: _ :: _,g=>simp at g
theorem Pt.two{ks i}(h:Pt es L ks i l l')(g:(ks.map fun k=>kd k.op)=[101,101]):∃ a b o b',l=[some a,some b]/\l'=[some o,some b']/\Sub o a/\Sub b' b:=by
 match ks,g with
 | [k,j],g =>
  have g:kd k.op=101/\kd j.op=101:=zUs g;obtain⟨k',t,a,l2,o,C,rfl,rfl,rfl,I,J⟩:=h.cons;obtain⟨_,_,b,l3,b',P,rfl,rfl,rfl,R,T⟩:=J.cons;obtain⟨rfl,rfl⟩:=T.nil;obtain⟨q,U,rfl,rfl,e⟩:=I g.1;obtain⟨p,p',rfl,rfl,e2⟩:=R g.2;exact⟨q,p,U,p',rfl,rfl,e,e2⟩
 | [],g=>simp at g
 | [_],g=>simp at g
 |_ :: _ :: _ :: _,g=>simp at g
theorem qcY{c F inn E R} :
  ∀{ks i nm o st g j P l},
  (∀ k,k∈ks->∀ st n' z g J,StOk F st->Rl c0 es st.last body s s' env->E env k st = .ok ((n',z),g)->exam c s inn k = .ok J->Out c0 es s' inn k n' J st.last g.last/\StOk F g) ->
  StOk F st->Rl c0 es st.last body s s' env->zE E R false i env nm ks st = .ok ((o,j,P),g)->qL c s inn ks = .ok l ->
  o=nm/\st.last<=g.last/\∃ l',qL c0 s' inn j = .ok l'/\Pt es g.last ks j l l'
 | [],i,nm,o,st,g,j,P,l,_,p,T,e,el=>by
  cases e;simp only[qL,Except.ok.injEq]at el;subst el;exact⟨rfl,vq _,[],by simp only[qL],trivial⟩
 |k :: ks,i,nm,o,st,g,j,P,l,hE,p,T,e,el=>by
  simp only[zE,Bool.false_eq_true,false_and,if_false]at e;simp only[qL]at el;split at e
  .cases e
  .rename_i k' m1 s1 h1
   cases hx:exam c s inn k with
   |error er=>grind
   |ok J =>
    rw[hx]at el;simp only at el;obtain⟨t,C⟩:=hE k (qZ ..) st k' m1 s1 J p T h1 hx;cases I:qL c s inn ks with
    |error er=>grind
    |ok l1 =>
     rw[I]at el;cases el;split at e
     .cases e
     .rename_i a0 a1 m2 s2 h2
      obtain⟨e1,e2,l',e3,e4⟩:=qcY (fun k hk=>hE k (qN _ hk)) C (T.mono t.le) h2 I;cases e;obtain⟨U,x1,x2⟩:=t.ex;refine⟨e1,zW1 t.le,U :: l',?_,⟨⟨x2,t.kd,t.good.mono e2⟩,e4⟩⟩;simp only[qL];rw[x1,e3]
theorem YR{c op nm}(h:op≠47):zX c op nm=yw op:=by
 simp[zX,h]
theorem cZ{n nm ks}(I:WfN n)(g:(ks.map fun k=>kd k.op)=(n.sD.map fun k=>kd k.op))(J:∀ k,k∈ks->vC es L k)(h47:n.op≠47)(o:ownB n=true)
  (P:nm=n.name/\tkn es nm\/vLe es L nm/\zr n.name=true):vC es L (.mk n.op nm n.n ks n.pos):=by
 have l:ks.length=n.sD.length:=by have:=congrArg List.length g;grind
 have p:zr nm=zr n.name/\(nm=⟨#[]⟩↔n.name=⟨#[]⟩):=by
  rcases P with ⟨rfl,_⟩|⟨R,t⟩
  .exact ⟨rfl,Iff.rfl⟩
  .obtain ⟨j,_,_,_,C⟩:=R
   refine⟨C.trans t.symm,fun e=>?_,fun e=>?_⟩
   .rw [e]at C;exact absurd C zDe
   .rw [e]at t;exact absurd t zDe
 refine⟨.mk _ ?_ (fun h=>?_) fun k g=>(J k g).wf,fun x i=>?_⟩
 .show shp n.op ks.length=some (ks.map fun k=>kd k.op)
  rw[l,g];exact I.shape
 .exact I.num h
 .rw [wv]at i
  rcases qy.1 i with rfl|i
  .refine ⟨h47,?_,?_⟩
   .unfold ownB at o⊢
    show (if wt n.op=zr nm/\(wt n.op=true\/nm=⟨#[]⟩) then numB n.op n.n else false)=true;split at o
    .rename_i T
     rw[if_pos ⟨by grind,T.2.imp id p.2.2⟩];exact o
    .cases o
   .rcases P with ⟨_,h⟩|⟨h,_⟩
    .exact .inl h
    .exact .inr h
  .obtain ⟨k,g,i⟩:=U8 i
   exact(J k g).all x i
end
end PD
namespace PE
open P1 P2 Y1 Y2 Y3 Y9 Y10 Y14 YX YZ YA YB PA YC Q3 Q4 PB PC PD
section
variable {inn:Bool}{c c0:Ck}{es:List (tZ×Bool)}{s s':Scp}
theorem Wa{n}(h:n.op=1):exam c s inn n=yH c s n.name n.pos:=by
 rw[yI,YR zOm,h,show yw 1=false from rfl,Bool.and_false,if_neg zSp,if_pos rfl]
theorem qoN{n k}(h:exam c s true n = .ok k):exam c s inn n = .ok k:=by
 cases inn with
 |true=>exact h
 |false=>exact qcU c (szN n) n s k (qj _) h
theorem K6{n}(g:WfN n)(h:n.op=1):n.sD=[]:=by
 have i:=g.shape;simp_all[shp,if_pos,qo,List.map_eq_nil_iff]
theorem qcZ{L n}(i:WfN n)(h:n.op=1)(j:tkn es n.name)(l:ownB n=true):vC es L n:=
 ⟨i,fun x g=>by
  rw[wv,K6 i h]at g;simp[zo]at g;subst g;exact⟨zOm,l,.inl j⟩⟩
theorem qc0{n}(g:ownB n=true)(h:wt n.op=true):zr n.name=true:=by
 grind [ownB]
theorem qoO{body env n n' z st j J}(P:c.ts=c0.ts)(i:n.op=1)(C:WfN n)(R:tkn es n.name)(I:ownB n=true)(T:Rl c0 es st.last body s s' env)
  (e:ve env n st = .ok ((n',z),j)) (x:exam c s inn n = .ok J):Out c0 es s' inn n n' J st.last j.last:=by
 rw[Wa i,ZQ]at x;have g:=T.rel n.name R;unfold ve at e;cases U:getK n.name env with
 |none =>
  rw[U]at e g;cases e;cases l:lookS n.name s with
  |some k =>
   rw[l]at g x;obtain⟨o,p,t⟩:=g;cases x;exact⟨⟨some o,by rw[Wa i,ZQ,p],fun _=>⟨_,_,rfl,rfl,t⟩⟩,qcZ C i R I,rfl,vq _⟩
  |none =>
   rw[l]at x;simp only at x;have hq:lookS n.name s'=none:=by
    cases hq:lookS n.name s' with
    |none=>rfl
    |some q =>
     have:=T.mean _ (U9 hq);rw[P,this]at x;cases x
   refine⟨⟨J,by grind [Wa,ZQ],fun _=>?_⟩,qcZ C i R I,rfl,vq _⟩;split at x
   .cases x
   .cases x;exact⟨_,_,rfl,rfl,Sub.refl _⟩
   .cases x
 |some iv =>
  obtain⟨a,sz,to⟩:=iv;rw[U]at e g;simp only at e;cases l:lookS n.name s with
  |none=>rw[l]at g;exact g.elim
  |some k =>
   rw[l]at g x;cases x;cases a with
   |none =>
    cases e;obtain⟨⟨o,p,t⟩,e3⟩:=g;refine⟨⟨some o,by rw[Wa (n := .mk n.op to n.n n.sD n.pos) i,ZQ];show (match lookS to s' with|some k=>_|none=>_)=_;rw[p],fun _=>⟨_,_,rfl,rfl,t⟩⟩,?_,rfl,vq _⟩;refine cZ C rfl (fun k hk=>?_) zOm I (.inr ⟨e3,qc0 I (by rw[i];rfl)⟩);rw[K6 C i]at hk;exact absurd hk qK
   |some a =>
    simp only at e;have g:ArgR c0 es st.last s' k a:=g;obtain⟨o,p,t⟩:=g.ex;split at e
    .cases e
     exact⟨⟨some o,qoN p,fun _=>⟨_,_,rfl,rfl,t⟩⟩,g.good,by rw[g.kd,i];rfl,vq _⟩
    .cases e
def OwnV(c0:Ck)(es:List (tZ×Bool))(L:Int)(s':Scp):Option Kd->Option IV->Prop
 |none,none=>True
 |some k,some ⟨some a,_,_⟩=>ArgR c0 es L s' k a
 |_,_=>False
theorem OwnV.mono{L L' g iv}(h:OwnV c0 es L s' g iv)(i:L<=L'):OwnV c0 es L' s' g iv:=by
 match g,iv with
 |none,none=>exact h
 |none,some _=>exact h.elim
 |some k,none=>exact h.elim
 |some k,some ⟨some a,_,_⟩ =>
  have h:ArgR c0 es L s' k a:=h;exact(⟨h.ex,h.good.mono i,h.kd⟩:ArgR c0 es L' s' k a)
 |some k,some ⟨none,_,j⟩=>exact h.elim
theorem qoP{ns i a}(h:okKd ns a)(g:a.ar=1)(p:uC i a=true):Sub a (kOf [i]):=⟨by rw[g];rfl,fun t j=>by
 obtain⟨l,rfl,o,_⟩:=h.ts t j;rw[g]at o
 match l,o with
 | [y],_ =>
  have:=q8.1 p _ j;simp[pad]at this;subst this;exact qS.2 rfl⟩
theorem qc1{ns F body env pos E R} :
  ∀{ks ps}{own i:IEnv}{sc st g},
  (∀ k,k∈ks->∀ st n' z g R,StOk F st->Rl c0 es st.last body s s' env->E k st = .ok ((n',z),g)->exam c s true k = .ok R->Out c0 es s' true k n' R st.last g.last/\StOk F g) ->
  (∀ k,k∈ks->kd k.op=101)->(∀ k,k∈ks->∀ a,exam c s true k = .ok (some a)->okKd ns a)->StOk F st->Rl c0 es st.last body s s' env ->
  (∀ v,OwnV c0 es st.last s' (lookS v sc) (getK v own))->ps.length=ks.length->zO c s pos ps ks = .ok R->yE E ps ks own st = .ok (i,g) ->
  st.last<=g.last/\∀ v,OwnV c0 es g.last s' (lookS v (ps.foldl (fun s p=>(p.1,kOf [p.2]) :: s) sc)) (getK v i)
 | [],[],own,i,sc,st,g,_,_,_,_,_,ho,_,_,e=>by
  cases e;exact⟨vq _,ho⟩
 |k :: ks,p :: ps,own,i,sc,st,g,hE,T,j,a0,hr,ho,l,x,e=>by
  simp only[zO]at x;simp only[yE]at e;cases hx:exam c s true k with
  |error er=>grind
  |ok ka =>
   cases ka with
   |none=>grind
   |some a =>
    rw[hx]at x;simp only at x;by_cases o:a.ar=1
    .rw [if_pos o]at x
     by_cases t:uC p.2 a=true
     .rw [if_pos t]at x
      split at e
      .cases e
      .rename_i k' m s1 h1
       obtain⟨out,C⟩:=hE k (qZ ..) st k' m s1 _ a0 hr h1 hx;obtain⟨a1,x1,x2⟩:=out.ex;have I:=T k (qZ ..);obtain⟨q,q',y1,y2,y3⟩:=x2 I;cases y1;subst y2;have hs:=y3.trans (qoP (j k (qZ ..) a hx) o t);have J:ArgR c0 es s1.last s' (kOf [p.2]) k':=⟨⟨q',x1,hs⟩,out.good,by rw[out.kd];exact I⟩;have P:∀ v,OwnV c0 es s1.last s' (lookS v ((p.1,kOf [p.2]) :: sc)) (getK v (setK p.1 ⟨some k',m,⟨#[]⟩⟩ own)):=fun v=>by
        rw[Zi,jy];by_cases U:p.1=v
        .rw [if_pos U,if_pos U.symm]
         exact J
        .rw [if_neg U,if_neg (fun e=>U e.symm)]
         exact(ho v).mono out.le
       obtain⟨r1,r2⟩:=qc1 (sc:=(p.1,kOf [p.2]) :: sc) (fun k T=>hE k (qN _ T)) (fun k h=>T k (qN _ h)) (fun k h=>j k (qN _ h)) C (hr.mono out.le) P (zUs l) x e;exact⟨zW1 out.le,r2⟩
     grind
    grind
 | [],_ :: _,_,_,_,_,_,_,_,_,_,_,_,l,_,_=>by simp at l
 |_ :: _,[],_,_,_,_,_,_,_,_,_,_,_,l,_,_=>by simp at l
def K7(ts:TS)(es:List (tZ×Bool)):Prop:=∀(i:Nat)(j:i<ts.sT.length),(∃ g,exam (mkCk ts i) (zz ts.sT[i].params) false ts.sT[i].body = .ok g)/\30<=ts.sT[i].body.op/\WfN ts.sT[i].body/\Tk es ts.sT[i].body/\OwnT ts.sT[i].body
abbrev ckF(ts:TS):Ck:=mkCk ts ts.sT.length
def IHx(ts:TS)(es:List (tZ×Bool))(f:Nat):Prop:=∀(env:IEnv)(n:Nd)(g:Bool)(U:ISt)(l:Nd)(z:Int)(i:ISt)(s o:Scp)(j:Bool)(m:Nat)(p:Option Kd),
 m<=ts.sT.length->WfN n->Tk es n->OwnT n->ScOk ts.sS.length s->StOk (qm ts es) U->zm env->Rl (ckF ts) es U.last g s o env ->
 expI ts es f env n g U = .ok ((l,z),i)->exam (mkCk ts m) s j n = .ok p->Out (ckF ts) es o j n l p U.last i.last
theorem K8{n}(i:WfN n)(h:30<=n.op):kd n.op=102:=by
 have g:=i.shape;have:n.op<=51:=by
  by_cases j:n.op<=51
  .exact j
  .exfalso
   unfold shp at g;rw[zIn,zIn,zIn,zIn,zIn,zIn,zIn,zIn]at g;cases g
 unfold kd;omega
theorem K9{n}(i:WfN n)(h:n.op=47):∀ k,k∈n.sD->kd k.op=101:=by
 have g:=i.shape;have e:shp n.op n.sD.length=some (List.replicate (min n.sD.length 401) 101):=by
  unfold shp;rw[zIn,zIn,zIn,zIn,zIn,zIn,zIn,if_pos h]
 rw[e]at g;simp only[qo]at g;intro k j;have:kd k.op∈n.sD.map fun k=>kd k.op:=qn.2 ⟨k,j,rfl⟩
 grind
theorem qoQ(ts)(h:okTS ts)(es)(hP:K7 ts es)(a4:Free ts es)(f)(ih:IHx ts es f)(env n body st n' z g s s' inn m ko)
  (hm:m<=ts.sT.length) (hw:WfN n) (ht:Tk es n) (ho:OwnT n) (hs:ScOk ts.sS.length s) (o:StOk (qm ts es) st) (T:zm env) (hr:Rl (ckF ts) es st.last body s s' env) (h47:n.op=47)
  (e:((match ts.sT.find? fun p=>decide (p.name=n.name) with
    |none=>Except.error (2,0)
    |some p=>vU (yE (fun k s=>expI ts es f env k body s) p.params n.sD [] st) fun own s'=>expI ts es f own p.body true s'):XR (Nd×Int)) = .ok ((n',z),g))
  (x:exam (mkCk ts m) s inn n = .ok ko):Out (ckF ts) es s' inn n n' ko st.last g.last:=by
 have hc:okCk (mkCk ts m):=vu h hm;rw[yI,if_neg (show ¬n.op=1 by omega),if_pos h47]at x;split at x
 .cases x
 rename_i I;split at x
 .cases l:zl (mkCk ts m) n.name with
  |none=>grind
  |some i =>
   obtain⟨U,t⟩:=Qz hc l;have U:i<m:=U;have t:i<ts.sT.length:=t;rw[l]at x;simp only at x;have x:((match ts.sT[i]? with|none=>Except.error (45,n.pos)|some C=>if C.params.length=n.sD.length then zO (mkCk ts m) s n.pos C.params n.sD else .error (45,n.pos)):Res) = .ok ko:=x;rw[qB t]at x;simp only at x;have a0:(ts.sT.find? fun p=>decide (p.name=n.name))=some ts.sT[i]:=by
    unfold zl at l;rw[List.findIdx?_eq_some_iff_getElem]at l;obtain⟨hi,a1,a2⟩:=l;rw[List.find?_eq_some_iff_getElem];refine⟨?_,i,t,rfl,fun j hj=>?_⟩
    .have:=a1
     simp only[List.getElem_take]at this;exact this
    .have:=a2 j hj
     simp only[List.getElem_take]at this;have h3:¬decide (ts.sT[j].name=n.name)=true:=this
     grind
   rw[a0]at e;simp only at e;obtain⟨⟨kb,hb⟩,a5,a6,ae,af⟩:=hP i t;have ag:=h.pl _ (qt t);generalize ah:ts.sT[i]=C at *
   by_cases R:C.params.length=n.sD.length
   .rw [if_pos R]at x
    obtain⟨own,s1,h1,e⟩:=uh e;have a7:=K9 hw h47;have a8:∀ k,k∈n.sD->∀ st n' z g,StOk (qm ts es) st->expI ts es f env k body st = .ok ((n',z),g)->StOk (qm ts es) g:=fun k J st n' z g o e=>(jJ ts a4 f o T e).ok o
    obtain⟨g1,g2⟩:=qc1 (c:=mkCk ts m) (c0:=ckF ts) (ns:=ts.sS.length) (F:=qm ts es) (body:=body) (s:=s) (s':=s') (env:=env) (sc:=[]) (own:=[])
     (fun k J st n' z g ko o hr e x=>⟨ih env k body st n' z g s s' true m ko hm (hw.kid J) (ht.kid J) (ho.kid J) hs o T hr e x,a8 k J st n' z g o e⟩)
     a7 (fun k J a hx=>by
      obtain⟨q,e1,e2⟩:=jA hc (szN k) k s true _ (qj _) (hw.kid J) hs hx (a7 k J);cases e1;exact e2)
     o hr (fun v=>trivial) R x h1
    obtain⟨a9,ai⟩:=Kz (F:=qm ts es) (fun k n' z s s' _ hs hE=>jJ ts a4 f hs T hE) o .nil h1;have aa:=ai.ok o;have aj:Rl (ckF ts) es s1.last true (zz C.params) s' own:=⟨hr.mean,fun v hv=>by
     have:=g2 v;have:OwnV (ckF ts) es s1.last s' (lookS v (zz C.params)) (getK v own):=this;generalize lookS v (zz C.params)=lk at *
     generalize getK v own=iv at *
     match lk,iv with
     |none,none=>trivial
     |some k,some ⟨some a,_,_⟩=>exact this
     |none,some _=>exact this.elim
     |some k,none=>exact this.elim
     |some k,some ⟨none,_,_⟩=>exact this.elim,fun ak=>by cases ak⟩
    have ab:ScOk ts.sS.length (zz C.params):=J2 ⟨zOm,ag.2⟩;have al:exam (mkCk ts i) (zz C.params) inn C.body = .ok kb:=by
     cases ad:inn with
     |false=>exact hb
     |true =>
      rw[<-hb];refine qcV _ (szN C.body) C.body _ _ _ (qj _) ?_;rw[ad]at I;have a3:zX (mkCk ts m) n.op n.name=false:=by simpa using I
      unfold zX at a3;rw[l,h47]at a3;have:=U7 ts i m U hm t;rw[ah]at this;rw[<-this];have ao:(yw 47||(decide ((47:Int)=47)&&(tmsL ts m).getD i false))=false:=a3
      grind
    have out:=ih own C.body true s1 n' z g (zz C.params) s' inn i kb zOm a6 ae af ab aa a9 aj e al;obtain⟨an,x1,_⟩:=out.ex;refine⟨⟨an,x1,fun J=>?_⟩,out.good,?_,zW1 out.le⟩
    .rw [h47]at J;exact absurd J zDe
    .rw [out.kd,K8 a6 a5,h47];rfl
   grind
 .cases x
theorem qc2{n}(i:WfN n)(h:n.op=5\/n.op=11\/n.op=12\/n.op=13):(n.sD.map fun k=>kd k.op)=[101]:=by
 have g:=i.shape;unfold shp at g;rw[zIn,if_pos zOm]at g
 grind
theorem qoR{n}(i:WfN n)(h:n.op=6\/n.op=14\/n.op=7\/n.op=8\/n.op=32\/n.op=33\/n.op=9\/n.op=10):(n.sD.map fun k=>kd k.op)=[101,101]:=by
 have g:=i.shape;unfold shp at g;rw[zIn,zIn,if_pos zOm]at g
 grind
theorem Wb{n}(i:WfN n)(h:n.op=15\/n.op=45\/n.op=46):∃ a f,n.sD=[a,f]/\kd a.op=101:=by
 have g:=i.shape;unfold shp at g;rw[zIn,zIn,zIn,if_pos zOm]at g;simp only[qo]at g
 match j:n.sD,g with
 | [a,f],g =>
  grind
 | [],g=>simp at g
 | [_],g=>simp at g
 |_ :: _ :: _ :: _,g=>simp at g
theorem qoS(ts)(h:okTS ts)(es)(a2:Free ts es)(f)(ih:IHx ts es f)(env n body st R t z o s s' inn m ko)
  (hm:m<=ts.sT.length) (J:WfN n) (ht:Tk es n) (ho:OwnT n) (hs:ScOk ts.sS.length s) (j:StOk (qm ts es) st) (T:zm env) (hr:Rl (ckF ts) es st.last body s s' env) (h47:n.op≠47) (h1:n.op≠1) (hb:¬(n.op=15\/n.op=45\/n.op=46))
  (e:zE (fun env k s=>expI ts es f env k body s) (fun env nm s=>renI ts es env nm body s) (binB n.op) 0 env n.name n.sD st = .ok ((R,t,z),o))
  (x:exam (mkCk ts m) s inn n = .ok ko):Out (ckF ts) es s' inn n (.mk n.op R n.n t n.pos) ko st.last o.last:=by
 have hc:okCk (mkCk ts m):=vu h hm;have a3:binB n.op=false:=by
  simp_all[binB,not_or]
 rw[a3]at e;rw[yI,YR h47,if_neg h1,if_neg h47,if_neg hb]at x;split at x
 .cases x
 rename_i a4;have p:=x;clear x;generalize hB:(inn||decide (n.op=12)||decide (n.op=13))=B at p;cases hl:qL (mkCk ts m) s B n.sD with
 |error er=>grind
 |ok l =>
  rw[hl]at p;simp only at p;obtain⟨rfl,a5,l',a7,C⟩:=qcY (c:=mkCk ts m) (c0:=ckF ts) (F:=qm ts es) (body:=body) (s:=s) (s':=s') (env:=env)
   (fun k hk st n' z o ko j hr e x=>⟨ih env k body st n' z o s s' B m ko hm (J.kid hk) (ht.kid hk) (ho.kid hk) hs j T hr e x,(jJ ts a2 f j T e).ok j⟩) j hr e hl
  obtain⟨U,I⟩:=C.spec;have a0:=ZK hl;obtain⟨a6,y1,y2⟩:=qoE (ns:=ts.sS.length) h.ns (op:=n.op) (num:=n.n) (pos:=n.pos) (l:=l) (l':=l') h1 (fun e=>hb (.inl e)) (fun g=>by
    obtain⟨a,a',rfl,rfl,e3⟩:=C.one (qc2 J g);refine⟨a,a',rfl,rfl,e3,?_⟩;have i:=qc2 J g
    match a1:n.sD,i with
    | [k],i =>
     rw[a1]at a0;have hx:=a0.2 0 k (some a) rfl rfl;obtain⟨q,e1,e2⟩:=jA hc (szN k) k s B _ (qj _) (J.kid (by rw[a1];simp)) hs hx (zUs i);cases e1;exact e2
    | [],i=>simp at i
    |_ :: _ :: _,i=>simp at i)
   (fun g=>C.two (qoR J g)) p
  refine⟨⟨a6,?_,y2⟩,cZ J U I h47 (ho n (vV n)) (.inl ⟨rfl,ht n (vV n)⟩),rfl,a5⟩;rw[yI];show (if (inn&&zX (ckF ts) n.op n.name)=true then _ else if n.op=1 then _ else if n.op=47 then _ else if n.op=15\/n.op=45\/n.op=46 then _ else match qL (ckF ts) s' (inn||decide (n.op=12)||decide (n.op=13)) t with | .error e=>_ | .ok l=>zy ts.sS.length n.op n.n n.pos l)=_;simp_all[YR,if_neg]
theorem qoT(ts)(h:okTS ts)(es)(hF:qm ts es<=200000)(o:Free ts es)(f)(ih:IHx ts es f)(env n body st l a1 z P s s' inn m ko)
  (hm:m<=ts.sT.length) (hw:WfN n) (ht:Tk es n) (ho:OwnT n) (hs:ScOk ts.sS.length s) (R:StOk (qm ts es) st) (ah:(qm ts es:Nat)<=pot (qm ts es) st) (t:zm env) (hr:Rl (ckF ts) es st.last body s s' env) (hb:n.op=15\/n.op=45\/n.op=46)
  (e:zE (fun env k s=>expI ts es f env k body s) (fun env nm s=>renI ts es env nm body s) (binB n.op) 0 env n.name n.sD st = .ok ((l,a1,z),P))
  (x:exam (mkCk ts m) s inn n = .ok ko):Out (ckF ts) es s' inn n (.mk n.op l n.n a1 n.pos) ko st.last P.last:=by
 have hc:okCk (mkCk ts m):=vu h hm;have a8:binB n.op=true:=by
  grind [binB]
 have h47:n.op≠47:=zOm;have h1:n.op≠1:=zOm;rw[a8]at e;rw[yI,YR h47,if_neg h1,if_neg h47,if_pos hb]at x;split at x
 .cases x
 rename_i T;obtain⟨a,g,C,a2⟩:=Wb hw hb;have ma:a∈n.sD:=by rw[C];simp
 have mg:g∈n.sD:=by rw[C];simp
 rw[C]at e x;generalize hB:(inn||decide (n.op=15))=B at x;simp only[z7,qL]at x;simp only[zE,Nat.zero_add,true_and,Nat.zero_ne_one,if_false,if_true]at e;cases U:exam (mkCk ts m) s B a with
 |error er=>grind
 |ok ka =>
  cases ka with
  |none=>grind
  |some k =>
   rw[U]at x;simp only at x;by_cases a0:k.ar=1
   .rw [if_pos a0]at x
    split at e
    .cases e
    .rename_i a' m1 s1 e1
     have out:=ih env a body st a' m1 s1 s s' B m _ hm (hw.kid ma) (ht.kid ma) (ho.kid ma) hs R t hr e1 U;have a3:=jJ ts o f R t e1;have i:=a3.ok R;obtain⟨aj,x1,x2⟩:=out.ex;obtain⟨q,k',y1,y2,y3⟩:=x2 a2;cases y1;subst y2;obtain⟨q,y4,a9⟩:=jA hc (szN a) a s B _ (qj _) (hw.kid ma) hs U a2;cases y4;have I:=Va o (env:=env) (nm:=n.name) (body:=body) i.l0;have a4:=J9 (ts:=ts) (es:=es) (nm:=n.name) (body:=body) (s:=s1) t;have aa:=i.last;obtain⟨w1,w2,J⟩:=Rl.bind (c0:=ckF ts) (st:=s1) (nm:=n.name) (k:=k) (k':=k') o t.nd (hr.mono out.le) i.l0 (by show s1.last+(qm ts es:Nat)<_;omega) (ht n (vV n)) y3;have w1:Rl (ckF ts) es (renI ts es env n.name body s1).2.last body ((n.name,k) :: s) (((renI ts es env n.name body s1).1.2,k') :: s') (renI ts es env n.name body s1).1.1:=w1;have w2:s1.last<=(renI ts es env n.name body s1).2.last:=w2;have J:tkn es (renI ts es env n.name body s1).1.2\/vLe es (renI ts es env n.name body s1).2.last (renI ts es env n.name body s1).1.2:=J;have w4:(renI ts es env n.name body s1).1.2=n.name\/vLe es (renI ts es env n.name body s1).2.last (renI ts es env n.name body s1).1.2:=by
      rcases J with J|J
      .left
       unfold renI at J⊢;split
       .rename_i ab
        rw[if_pos ab]at J;exfalso;have ad:=o s1.last i.l0;have ae:=K5 ad;simp_all[yD,qD,decide_eq_true_eq]
       .rfl
      grind
     generalize ai:renI ts es env n.name body s1=af at *
     obtain⟨⟨a5,ak⟩,s2⟩:=af;simp only at I a4 w1 w2 J w4 e;have a6:StOk (qm ts es) s2:=⟨I.1,by rw[I.2.2];exact i.c0,by rw[I.2.2];exact i.c1,by
      have:=a3.p
      grind [pot]⟩
     split at e
     .cases e
     .rename_i al an m3 s3 e3
      split at e3
      .cases e3
      .rename_i g' m2 s4 e2
       cases e3;cases e;cases a7:exam (mkCk ts m) ((n.name,k) :: s) B g with
       |error er=>grind
       |ok kg =>
        rw[a7]at x;cases x;have ag:ScOk ts.sS.length ((n.name,k) :: s):=fun v hv=>by
         rcases qy.1 hv with rfl|hv
         .exact ⟨a9,a0⟩
         .exact hs v hv
        have j:=ih a5 g body s2 g' m2 P ((n.name,k) :: s) ((l,k') :: s') B m _ hm (hw.kid mg) (ht.kid mg) (ho.kid mg) ag a6 a4 w1 e2 a7;obtain⟨ao,z1,_⟩:=j.ex;refine⟨⟨some k',?_,fun _=>⟨k,k',rfl,rfl,y3⟩⟩,?_,rfl,zW2 out.le j.le⟩
        .rw [yI]
         show (if (inn&&zX (ckF ts) n.op l)=true then _ else if n.op=1 then _ else if n.op=47 then _ else if n.op=15\/n.op=45\/n.op=46 then z7 (ckF ts) s' (inn||decide (n.op=15)) l n.pos [a',g'] else _)=_;rw[YR h47,if_neg T,if_neg h1,if_neg h47,if_pos hb,hB];simp only[z7,qL];rw[x1];simp only;rw[if_pos (by rw[y3.1];exact a0),z1]
        .refine cZ hw (by rw[C];simp[out.kd,j.kd]) (fun y hy=>?_) h47 (ho n (vV n)) ?_
         .rcases qy.1 hy with rfl|hy
          .exact out.good.mono (zW1 j.le)
          .rw [qS]at hy;subst hy;exact j.good
         .rcases w4 with w4|w4
          .exact .inl ⟨w4,by rw[w4];exact ht n (vV n)⟩
          .exact .inr ⟨w4.mono j.le,qc0 (ho n (vV n)) (by unfold wt;rcases hb with h|h|h<;>simp[h])⟩
   grind
theorem qc3(ts)(h:okTS ts)(es)(hP:K7 ts es)(P:qm ts es<=200000)(i:Free ts es):∀ f,IHx ts es f
 | 0=>fun env n body st n' z j s s' inn m R _ _ _ _ _ _ _ _ e _=>by cases e
 |f+1=>fun env n body st n' z j s s' inn m R hm T U ho hs g t hr e x=>by
  have ih:=qc3 ts h es hP P i f;simp only[expI]at e;split at e
  .rename_i hc
   have hp:=Qd g (n:=1) zOm hc;have l:=hp.ok g;have o:Rl (ckF ts) es (payS 1 st).last body s s' env:=hr;have C:st.last=(payS 1 st).last:=rfl;rw[C];split at e
   .rename_i h1
    exact qoO (c:=mkCk ts m) (c0:=ckF ts) rfl h1 T (U n (vV n)) (ho n (vV n)) o e x
   .rename_i h1
    split at e
    .grind [qoQ,payS]
    .rename_i h47
     obtain⟨⟨I,J,z'⟩,s1,e1,e2⟩:=uh e;cases e2;by_cases hb:n.op=15\/n.op=45\/n.op=46
     .refine qoT ts h es P i f ih env n body (payS 1 st) I J z' j s s' inn m R hm T U ho hs l ?_ t o hb e1 x
      rw[ZR];have:=g.p;omega
     grind [qoS,payS]
  .cases e
end
end PE
namespace PG
open Y1 Y2 P1 P2 Y9 YZ
theorem qoU{ns op n pos l e}(h:zy ns op n pos l = .error e):40<=e.1:=by
 unfold zy at h
 repeat' split at h
 all_goals first
  | (cases h;done)
  | (cases h;simp)
theorem qoV{c s nm pos e}(h:yH c s nm pos = .error e):40<=e.1:=by
 unfold yH at h
 repeat' split at h
 all_goals first
  | (cases h;done)
  | (cases h;simp)
section
variable {c:Ck}
theorem Ys{inn}:∀{ks s e},(∀ k,k∈ks->∀ s e,exam c s inn k = .error e->40<=e.1)->qL c s inn ks = .error e->40<=e.1
 | [],s,e,_,h=>by simp only[qL]at h;cases h
 |k :: ks,s,e,i,h=>by
  simp only[qL]at h;split at h
  .rename_i j g
   cases h;exact i k (qZ ..) s _ g
  .split at h
   .rename_i j g
    cases h;exact Ys (fun k l=>i k (qN _ l)) g
   .cases h
theorem UE{pos}:∀{ks ps s e},(∀ k,k∈ks->∀ s e,exam c s true k = .error e->40<=e.1)->zO c s pos ps ks = .error e->40<=e.1
 | [],ps,s,e,_,h=>by cases ps<;>(simp only[zO]at h;cases h)
 |k :: ks,[],s,e,_,h=>by simp only[zO]at h;cases h
 |k :: ks,p :: ps,s,e,g,h=>by
  simp only[zO]at h;split at h
  .rename_i l i
   cases h;exact g k (qZ ..) s _ i
  .cases h;simp
  .split at h
   .split at h
    .exact UE (fun k j=>g k (qN _ j)) h
    .cases h;simp
   .cases h;simp
theorem qoW{inn nm pos}:∀{ks s e},(∀ k,k∈ks->∀ s e,exam c s inn k = .error e->40<=e.1)->z7 c s inn nm pos ks = .error e->40<=e.1
 | [],s,e,_,h=>by simp only[z7]at h;cases h
 |k :: ks,s,e,i,h=>by
  simp only[z7]at h;split at h
  .rename_i j g
   cases h;exact i k (qZ ..) s _ g
  .cases h;simp
  .split at h
   .split at h
    .rename_i j g
     cases h;exact Ys (fun k l=>i k (qN _ l)) g
    .cases h
   .cases h;simp
theorem w7(c):∀ m n s inn e,szN n<=m->exam c s inn n = .error e->40<=e.1
 | 0,n,_,_,_,j,_=>by obtain⟨op,nm,i,ks,p⟩:=n;simp[szN]at j
 |m+1,n,s,inn,e,j,h=>by
  have g:∀ inn k,k∈n.sD->∀ s e,exam c s inn k = .error e->40<=e.1:=fun inn k l s e h=>w7 c m k s inn e (zW1 (zf l)) h
  rw[yI]at h;split at h
  .cases h;simp
  split at h
  .exact qoV h
  split at h
  .split at h
   .split at h
    .cases h;simp
    .split at h
     .cases h;simp
     .split at h
      .exact UE (g true) h
      .cases h;simp
   .cases h;simp
  split at h
  .exact qoW (g _) h
  .split at h
   .rename_i t o
    cases h;exact Ys (g _) o
   .exact qoU h
end
theorem qc4{ks k}(h:k∈ks):depN k<=yq ks:=by
 induction ks with
 |nil=>simp at h
 |cons a l g =>
  simp only[yq];rcases qy.1 h with rfl|h
  .omega
  .have:=g h;omega
theorem qc5(n):1<=depN n:=by
 rw[Zg];have:∀ ks:List Nd,0<=yq ks:=by
  intro ks;induction ks with
  |nil=>simp[yq]
  |cons a l g=>simp only[yq];omega
 have:=this n.sD;omega
end PG
namespace PF
open P1 P2 Y1 Y2 Y9 Y16 YZ YB YC YE YG Q2 Q4 Q6 PC PE PG
mutual
theorem kc:∀(n:Nd)(left:Int),cntT n<=left->cntN n left=cntT n
 | .mk op nm i ks p,left,h=>by
  simp only[cntT,cntN]at h⊢;exact qc6 ks left 1 h
theorem qc6:∀(ks:List Nd)(left sum:Int),sum+yS ks<=left->yy ks left sum=sum+yS ks
 | [],left,sum,h=>by simp only[yS,yy];omega
 |k :: ks,left,sum,h=>by
  simp only[yS,yy]at h⊢;have g:=UZ k;have i:=U0 ks;rw[if_pos zOm,kc k (left-sum) zOm,qc6 ks left _ zOm];omega
end
mutual
theorem qc7:∀(n:Nd)(left:Int),cntN n left<=left->cntT n<=left
 | .mk op nm i ks p,left,h=>by
  simp only[cntT,cntN]at h⊢;exact qc8 ks left 1 h
theorem qc8:∀(ks:List Nd)(left sum:Int),yy ks left sum<=left->sum+yS ks<=left
 | [],left,sum,h=>by simp only[yS,yy]at h⊢;omega
 |k :: ks,left,sum,h=>by
  simp only[yS,yy]at h⊢;split at h
  .have i:=(X9 ks left (sum+cntN k (left-sum))).1
   have g:cntN k (left-sum)<=left-sum:=zOm;have j:=kc k (left-sum) (qc7 k _ g);have l:=qc8 ks left _ h;omega
  .omega
end
section
variable {c:Ck}
theorem qoX{ks d}(g:0<=d)(h:∀ k,k∈ks->depN k<=d):yq ks<=d:=by
 induction ks with
 |nil=>grind [yq]
 |cons a l i =>
  grind [yq,qZ,qN]
theorem qoY{ks g}(h:∀ k,k∈ks->forN k g=true):uF ks g=true:=by
 induction ks with
 |nil=>rfl
 |cons a l i =>
  simp_all[uF,qD,qZ,qN]
theorem qc9:∀ m n g,szN n<=m->WfN n->OwnT n->depN n<=g->forN n g=true
 | 0,n,_,l,_,_,_=>by obtain⟨op,nm,i,ks,p⟩:=n;simp[szN]at l
 |m+1,n,g,l,o,t,C=>by
  have I:=qc5 n;rw[UH,zIn,t n (vV n),Bool.true_and,qD];refine⟨?_,qoY fun k j=>qc9 m k (g-1) (zW1 (zf j)) (o.kid j) (t.kid j) ?_⟩
  .unfold fitB
   rw[decide_eq_true_eq];exact o.shape
  .have:=qc4 j
   rw[Zg]at C;omega
theorem qdA:∀ m n l,szN n<=m->forN n l=true->OwnT n/\depN n<=l
 | 0,n,_,o,_=>by obtain⟨op,nm,i,ks,p⟩:=n;simp[szN]at o
 |m+1,n,l,o,h=>by
  rw[UH]at h;split at h
  .cases h
  .rename_i J
   simp only[qD]at h;obtain⟨C,P,I⟩:=h;have t:=fun k (g:k∈n.sD)=>qdA m k (l-1) (zW1 (zf g)) (qaW I k g)
   refine⟨fun x j=>?_,?_⟩
   .rw [wv]at j
    rcases qy.1 j with rfl|j
    .exact C
    .obtain ⟨k,g,j⟩:=U8 j
     exact(t k g).1 x j
   .rw [Zg]
    have:=qoX (ks:=n.sD) (d:=l-1) zOm fun k g=>(t k g).2
    omega
theorem uI{n}:qT n=true↔WfN n/\OwnT n/\cntT n<=400/\depN n<=24:=by
 constructor
 .intro h
  have l:=jr h;simp only[qT,qD,decide_eq_true_eq]at h;obtain⟨a,b⟩:=qdA (szN n) n 24 (qj _) h.2;simp_all[qc7]
 .rintro ⟨g,i,o,j⟩
  simp only[qT,qD,decide_eq_true_eq];exact⟨by grind [kc],qc9 (szN n) n 24 (qj _) g i j⟩
theorem qdB{nm i}(h:zl c nm=some i)(g):(c.ts.sT.find? fun p=>decide (p.name=nm))=some c.ts.sT[i]:=by
 unfold zl at h;rw[List.findIdx?_eq_some_iff_getElem]at h;obtain⟨l,o,t⟩:=h;rw[List.find?_eq_some_iff_getElem];refine⟨?_,i,g,rfl,fun j C=>?_⟩
 .grind
 grind
theorem qdC{s pos}:∀{ks ps l},ps.length=ks.length->zO c s pos ps ks = .ok l->∀ k,k∈ks->∃ a,exam c s true k = .ok a
 | [],_,_,_,_,k,g=>absurd g qK
 |k :: ks,[],_,i,_,_,_=>by simp at i
 |k :: ks,p :: ps,l,i,h,x,j=>by
  simp only[zO]at h;split at h
  .cases h
  .cases h
  .rename_i a g
   split at h
   .split at h
    .rcases qy.1 j with rfl|j
     .exact ⟨_,g⟩
     .exact qdC (zUs i) h x j
    .cases h
   .cases h
theorem Wc{s inn}:∀{ks l},qL c s inn ks = .ok l->∀ k,k∈ks->∃ a,exam c s inn k = .ok a
 | [],_,_,k,g=>absurd g qK
 |k :: ks,l,h,x,i=>by
  simp only[qL]at h;split at h
  .cases h
  .rename_i a g
   split at h
   .cases h
   .rename_i o j
    rcases qy.1 i with rfl|i
    .exact ⟨_,g⟩
    .exact Wc j x i
theorem kf(hc:okCk c):∀ m n s inn o,szN n<=m->exam c s inn n = .ok o->WfN n->yK c.ts n
 | 0,n,_,_,_,hm,_,_=>by obtain⟨op,nm,i,ks,p⟩:=n;simp[szN]at hm
 |m+1,n,s,inn,o,hm,h,hw=>fun x j ho=>by
  have ih:∀ k,k∈n.sD->∀ s inn o,exam c s inn k = .ok o->yK c.ts k:=fun k C s inn o h=>kf hc m k s inn o (zW1 (zf C)) h (hw.kid C)
  rw[yI]at h;rw[wv]at j;split at h
  .cases h
  by_cases h1:n.op=1
  .rw [K6 hw h1]at j
   rcases qy.1 j with rfl|j
   .omega
   .simp [zo]at j
  rw[if_neg h1]at h;have I:∀(s:Nd->Scp)(inn:Nd->Bool),(∀ k,k∈n.sD->∃ o,exam c (s k) (inn k) k = .ok o)->x∈zo n.sD->∃ p,(c.ts.sT.find? fun p=>decide (p.name=x.name))=some p/\p.params.length=x.sD.length:=fun s inn C j=>by
   obtain⟨k,J,j⟩:=U8 j;obtain⟨o,a0⟩:=C k J;exact ih k J _ _ _ a0 x j ho
  by_cases h47:n.op=47
  .rw [if_pos h47]at h
   split at h
   .split at h
    .cases h
    .rename_i i P
     obtain⟨_,a1⟩:=Qz hc P;rw[qB a1]at h;simp only at h;split at h
     .rename_i R
      rcases qy.1 j with rfl|j
      .grind [qdB]
      .exact I (fun _=>s) (fun _=>true) (qdC R h) j
     .cases h
   .cases h
  rw[if_neg h47]at h;have j:x∈zo n.sD:=by
   rcases qy.1 j with rfl|j
   .omega
   .exact j
  by_cases T:n.op=15\/n.op=45\/n.op=46
  .rw [if_pos T]at h
   obtain⟨a,g,t,_⟩:=Wb hw T;rw[t]at h;simp only[z7]at h;split at h
   .cases h
   .cases h
   .rename_i k C
    split at h
    .split at h
     .cases h
     .rename_i l hl
      obtain⟨y,U,j⟩:=U8 j;rw[t]at U;rcases qy.1 U with rfl|U
      .exact ih y (by rw[t];simp) _ _ _ C x j ho
      .rw [qS]at U
       subst U;obtain⟨b,T⟩:=Wc hl y zSp;exact ih y (by rw[t];simp) _ _ _ T x j ho
    .cases h
  .rw [if_neg T]at h
   split at h
   .cases h
   .rename_i l hl
    exact I (fun _=>s) (fun _=>_) (fun k C=>Wc hl k C) j
theorem Ve{env n}(h:(jp c env n).1=0):30<=n.op/\∃ g,exam c (zz env) false n = .ok g:=by
 unfold jp at h;split at h
 .rename_i i
  refine⟨i,?_⟩;cases j:exam c (zz env) false n with
  |ok g=>exact⟨g,rfl⟩
  |error e =>
   rw[j]at h;have:=PG.w7 c (szN n) n _ _ e (qj _) j;have h:e.1=0:=h;omega
 omega
theorem qdD{ts}(h:yY ts=[])(i g):(jp (mkCk ts i) ts.sT[i].params ts.sT[i].body).1=0:=by
 simp_all[yY,List.append_eq_nil_iff,List.flatMap_eq_nil_iff,ye,vR,qB,rp]
theorem kh(l):∀ es nm,(getK nm es=some true\/∃ x,x∈l/\x.name=nm)->getK nm (putN es l)=some true:=by
 induction l with
 |nil =>
  intro es nm h;rcases h with h|⟨x,g,_⟩
  .exact h
  .exact absurd g qK
 |cons a l i =>
  intro es nm h;refine i _ nm ?_;rw[jy];by_cases e:nm=a.name
  .rw [if_pos e];exact .inl rfl
  .rw [if_neg e]
   rcases h with h|⟨x,g,j⟩
   .exact .inl h
   .rcases qy.1 g with rfl|g
    .grind
    grind
theorem qoZ(ts n):Tk (yT ts n) n/\∀ p,p∈ts.sT->Tk (yT ts n) p.body:=by
 have j:∀(l:List Pd)(C:List (tZ×Bool))(nm:tZ),(getK nm C=some true\/∃ p,p∈l/\∃ x,x∈preN p.body/\x.name=nm)->getK nm (l.foldl (fun C p=>putN C (preN p.body)) C)=some true:=by
  intro l;induction l with
  |nil =>
   simp
  |cons a l o =>
   intro C nm h;refine o _ nm ?_;rcases h with h|⟨p,g,i⟩
   .grind [kh]
   .rcases qy.1 g with rfl|g
    .grind [kh]
    grind
 refine⟨fun x i=>j _ _ _ (.inl (kh _ _ _ (.inr ⟨x,i,rfl⟩))),fun p g x i=>j _ _ _ (.inr ⟨p,g,x,i,rfl⟩)⟩
theorem qdE(l):∀ es,(putN es l).length<=es.length+l.length:=by
 have i:∀(es:List (tZ×Bool))(k:tZ),(setK k true es).length<=es.length+1:=by
  intro es k;induction es with
  |nil=>simp[setK]
  |cons a es g=>grind [setK]
 induction l with
 |nil=>grind [putN]
 |cons a l g =>
  grind [setK,putN,yh]
mutual
theorem Vf:∀ n:Nd,((preN n).length:Int)=cntT n
 | .mk op nm i ks p=>by simp only[preN,cntT,yh];have:=qdF ks;omega
theorem qdF:∀ ks:List Nd,((zo ks).length:Int)=yS ks
 | []=>rfl
 |k :: ks=>by simp only[zo,yS,zh];have:=Vf k;have:=qdF ks;omega
end
end
theorem ki{ts}(h:okTS ts)(g:∀ p,p∈ts.sT->qT p.body=true){n}(i:qT n=true):qm ts (yT ts n)<=200000:=by
 have j:∀(l:List Pd)(C:List (tZ×Bool)),(∀ p,p∈l->qT p.body=true)->(l.foldl (fun C p=>putN C (preN p.body)) C).length<=C.length+400*l.length:=by
  intro l;induction l with
  |nil=>intro C _;simp
  |cons a l o =>
   grind [putN,preN,qN,qdE,Vf,uI,qZ]
 have t:=j ts.sT (putN [] (preN n)) g;have I:=qdE (preN n) [];have J:=Vf n;have P:=(uI.1 i).2.2.1;have:=h.np;have:=h.nf;have:=h.ns
 grind [qm,yT,List.length_nil]
theorem qdG{ts}(h:okTS ts)(hb:∀ p,p∈ts.sT->qT p.body=true)(hk:yY ts=[]){n x}(T:qT n=true)(hc:(zQ ts [] n).1=0)(o:anyN (fun n=>decide (n.op=47)) n=true)(l:qU ts n=(x,0)) :
  qT x=true/\anyN (fun n=>decide (n.op=47)) x=false/\zQ ts [] x=(0,0)/\qU ts x=(x,0):=by
 have U:=jr T;have a0:=(uI.1 T).2.1;have hF:=ki h hb T;obtain⟨t1,t2⟩:=qoZ ts n;generalize a1:yT ts n=C at *
 have hP:K7 ts C:=fun i l=>by
  have hm:=qt l;obtain⟨a,b⟩:=Ve (qdD hk i l)
  grind [jr,uI]
 unfold qU at l;rw[if_neg (zUs hc),if_neg (by simp[o]),a1]at l;unfold outI at l;split at l
 .rename_i d hd
  exfalso;have h1:=U2 hd
  grind
 .rename_i j g
  have e:j=x:=congrArg Prod.fst l;subst e;split at g
  .cases g
  .rename_i n2 z a2 P
   split at g
   .rename_i hz
    cases g;obtain⟨a3,ko,I⟩:=Ve (c:=mkCk ts ts.sT.length) (env:=[]) hc;have a4:StOk (qm ts C) ⟨0,0⟩:=⟨zSp,zSp,zSp,by simp[pot]⟩;have out:=qc3 ts h C hP hF (KW ts C) 4001 [] n false ⟨0,0⟩ j z a2 [] [] false ts.sT.length ko (qj _) U t1 a0 (fun v R=>absurd R qK) a4 .nil
     ⟨fun v R=>absurd R qK,fun v _=>trivial,fun _ v iv e=>by cases e⟩ P I
    obtain⟨a7,a8⟩:=YN ts (fun p hp=>jr (hb p hp)) C 4001 (env:=[]) (fun e P=>absurd P qK) U P;have R:qT j=true:=uI.2 ⟨out.good.wf,fun x I=>(out.good.all x I).own,zOm,hz.2⟩;have a9:anyN (fun n=>decide (n.op=47)) j=false:=by
     rw[YO _ (szN j) j (qj _),List.any_eq_false];intro x I;have:=(out.good.all x I).nc
     grind
    have a6:kd j.op=102:=by rw[out.kd];exact K8 U a3
    have J:30<=j.op:=by
     grind [kd]
    obtain⟨a5,t,_⟩:=out.ex;have aa:zQ ts [] j=(0,0):=by
     unfold zQ jp;rw[if_pos J];have t:exam (mkCk ts ts.sT.length) (zz []) false j = .ok a5:=t;rw[t];rfl
    simp_all[qU,if_neg,if_pos]
   .cases g
end PF
namespace KG
open Y1 Y9 Y10 P1 P2 PF PE KA KB KE KF
section
variable {c:Ck}
def Fm(c:Ck)(n:Nd):Prop:=WfN n/\kd n.op=102/\∃ b g,exam c [] b n = .ok g
theorem kj{op}(h:kd op=102):30<=op/\op<=51:=by
 unfold kd at h;split at h
 .omega
 split at h
 .omega
 split at h
 .omega
 .omega
theorem kl{n}(h:Fm c n)(p:n.op≠45/\n.op≠46/\n.op≠47):∃ b l i,qL c [] b n.sD = .ok l/\zy c.ts.sS.length n.op n.n n.pos l = .ok i:=by
 obtain⟨t,o,b,i,g⟩:=h;have C:=kj o;rw[yI]at g;split at g
 .cases g
 rw[zIn,zIn,zIn]at g;cases j:qL c [] (b||decide (n.op=12)||decide (n.op=13)) n.sD with
 |error e=>rw[j]at g;cases g
 |ok l=>rw[j]at g;exact⟨_,l,i,j,g⟩
theorem Vg{n}(h:Fm c n)(i:n.op≠45/\n.op≠46/\n.op≠47){k}(g:k∈n.sD)(j:kd k.op=102):Fm c k:=by
 obtain⟨b,l,t,o,_⟩:=kl h i;obtain⟨a,p⟩:=Wc o k g;exact⟨h.1.kid g,j,b,a,p⟩
theorem qdH(i:okCk c){n}(h:Fm c n):TyK (arS c []) n:=by
 have j:ScOk c.ts.sS.length []:=fun v hv=>absurd hv qK
 refine⟨fun o=>?_,fun o=>?_⟩
 .obtain ⟨b,l,ko,t,_⟩:=kl h zOm
  obtain⟨k,g,C⟩:=J5 (a:=101) h.1 (by unfold shp;rw[zIn,if_pos zOm]);rw[g]at t;obtain⟨q,rfl,I⟩:=exL1 t;have J:=h.1.kid (k:=k) (by rw[g];simp);obtain⟨a,rfl,_⟩:=jA i _ k [] b q (qj _) J j I C;exact⟨k,a.ar,g,UK i _ k [] b a (qj _) J j I C⟩
 .obtain ⟨b,l,ko,t,p⟩:=kl h zOm
  obtain⟨k,U,g,C,P⟩:=UJ (a:=101) (b:=101) h.1 (by unfold shp;rw[zIn,zIn,if_pos zOm]);rw[g]at t;obtain⟨q,q',rfl,I,R⟩:=exL2 t;have J:=h.1.kid (k:=k) (by rw[g];simp);have T:=h.1.kid (k:=U) (by rw[g];simp);obtain⟨a,rfl,_⟩:=jA i _ k [] b q (qj _) J j I C;obtain⟨a',rfl,_⟩:=jA i _ U [] b q' (qj _) T j R P;have e:a.ar=a'.ar:=by
   unfold zy at p;rw[zIn,zIn,zIn]at p;simp only at p;rw[if_pos zOm]at p;split at p
   .assumption
   .cases p
  exact⟨k,U,a.ar,g,UK i _ k [] b a (qj _) J j I C,by rw[e];exact UK i _ U [] b a' (qj _) T j R P⟩
theorem qdI(g:okCk c){n}(h:Fm c n):TyC (arS c []) n:=by
 refine⟨qdH g h,fun o=>?_⟩;obtain⟨m,i,km⟩:=J5 (a:=102) h.1 (by unfold shp;rw[zIn,zIn,zIn,zIn,zIn,if_pos zOm]);exact⟨m,i,qdH g (Vg h zOm (by rw[i];simp) km)⟩
theorem kn:∀ m n g,szN n<=m->Fm c n->Fm c (ya n g).1/\(ya n g).1.op≠48
 | 0,n,g,l,_=>by obtain⟨op,nm,i,ks,p⟩:=n;simp[szN]at l
 |m+1,n,g,l,h=>by
  by_cases o:n.op=48
  .obtain ⟨k,j,t⟩:=J5 (a:=102) h.1 (by unfold shp;rw[zIn,zIn,zIn,zIn,zIn,if_pos zOm])
   have e:ya n g=ya k true:=by
    obtain⟨op,nm,i,ks,p⟩:=n;simp only[Nd.op,Nd.sD]at o j;rw[ya,if_pos o,j,Yv]
   rw[e];have:=zf (n:=n) (k:=k) (by rw[j];simp);exact kn m k true zOm (Vg h zOm (by rw[j];simp) t)
  .have e:ya n g=(n,g):=by
    obtain⟨op,nm,i,ks,p⟩:=n;simp only[Nd.op]at o;rw[ya,if_neg o]
   rw[e];exact⟨h,o⟩
theorem YT(n):conj n=if n.op=41 then (n.sD.map conj).getD 0 []++(n.sD.map conj).getD 1 [] else if n.op=48 then ((n.sD.map conj).getD 0 []).map (vf n.pos) else [n]:=by
 obtain⟨op,nm,i,ks,p⟩:=n;have:∀ ks:List Nd,uG ks=ks.map conj:=fun ks=>by
  induction ks with
  |nil=>rfl
  |cons k ks g=>rw[uG,g];rfl
 rw[conj,this];rfl
def FmA(c:Ck)(n:Nd):Prop:=Fm c n\/(n.op=48/\∃ k,n.sD=[k]/\Fm c k)
theorem qo0(j:okCk c){n}(h:FmA c n)(g):TyC (arS c []) (ya n g).1:=by
 rcases h with h|⟨o,k,l,h⟩
 .exact qdI j (kn _ n g (qj _) h).1
 .have e:ya n g=ya k true:=by
   obtain⟨op,nm,i,ks,p⟩:=n;simp only[Nd.op,Nd.sD]at o l;rw[ya,if_pos o,l,Yv]
  rw[e];exact qdI j (kn _ k true (qj _) h).1
theorem Wd:∀ m n,szN n<=m->Fm c n->∀ x,x∈conj n->FmA c x
 | 0,n,t,_=>by obtain⟨op,nm,i,ks,p⟩:=n;simp[szN]at t
 |m+1,n,t,h=>fun x g=>by
  rw[YT]at g;split at g
  .rename_i o
   obtain⟨a,b,j,l,C⟩:=UJ (a:=102) (b:=102) h.1 (by unfold shp;rw[zIn,zIn,zIn,zIn,zIn,zIn,if_pos zOm]);rw[j]at g;have I:=zf (n:=n) (k:=a) (by rw[j];simp);have T:=zf (n:=n) (k:=b) (by rw[j];simp);simp only[za,List.map_nil,Jn,List.getD_cons_succ]at g;rcases qO.1 g with g|g
   .exact Wd m a zOm (Vg h zOm (by rw[j];simp) l) x g
   .exact Wd m b zOm (Vg h zOm (by rw[j];simp) C) x g
  split at g
  .rename_i o
   obtain⟨a,j,l⟩:=J5 (a:=102) h.1 (by unfold shp;rw[zIn,zIn,zIn,zIn,zIn,if_pos zOm]);rw[j]at g;have I:=zf (n:=n) (k:=a) (by rw[j];simp);simp only[za,List.map_nil,Jn]at g;obtain⟨y,J,rfl⟩:=qn.1 g;have hf:=Wd m a zOm (Vg h zOm (by rw[j];simp) l) y J;unfold vf;split
   .exact hf
   .rename_i P
    rcases hf with hf|⟨R,_⟩
    .exact .inr ⟨rfl,y,rfl,hf⟩
    .exact absurd R P
  .simp at g;subst g;exact .inl h
theorem qo1{ts}(h:okTS ts){n}(l:WfN n)(o:(zQ ts [] n).1=0):TyL (arT ts) (conj n):=fun x p g=>by
 have i:okCk (mkCk ts ts.sT.length):=vu h (qj _);obtain⟨j,t,C⟩:=Ve o;exact qo0 i (Wd _ n (qj _) ⟨l,K8 l j,false,t,C⟩ x p) g
end
end KG
namespace KT
end KT
namespace KH
end KH
namespace KI
open E3
variable {x:Mo} {N:Nat}
end KI
namespace KJ
open E3
variable {x:Mo} {N:Nat}
end KJ
namespace KL
open E3
variable {x:Mo} {N:Nat}
end KL
namespace KM
open Y1 P1 PA YX YC KA KB KE
mutual
def nz:Nd->Nd
 | .mk op nm i ks p=>if binB op=true then .mk op ⟨#[]⟩ i (nzH ks) 0 else .mk op nm i (nzs ks) 0
def nzs:List Nd->List Nd
 | []=>[]
 |k :: ks=>nz k :: nzs ks
def nzH:List Nd->List Nd
 | []=>[]
 |k :: _=>[nz k]
end
section
variable {e:IEnv}{R:IEnv->tZ->ISt->(IEnv×tZ)×ISt}{E:IEnv->Nd->ISt->XR (Nd×Int)}
theorem qdJ:∀ ks,nzs ks=ks.map nz
 | []=>rfl
 |k :: ks=>by rw[nzs,qdJ ks];rfl
theorem nz_b{op nm i k ks p}(h:binB op=true):nz (.mk op nm i (k :: ks) p) = .mk op ⟨#[]⟩ i [nz k] 0:=by rw[nz,if_pos h,nzH]
theorem nz_o{op nm i ks p}(h:binB op=false):nz (.mk op nm i ks p) = .mk op nm i (ks.map nz) 0:=by rw[nz,h,if_neg zSp,qdJ]
theorem qY(n):(nz n).op=n.op:=by
 obtain⟨op,nm,i,ks,p⟩:=n;rw[nz];split<;>rfl
theorem qo2{op}(h:op≠15)(g:op≠45)(i:op≠46):binB op=false:=by simp[binB,h,g,i]
theorem Qe{n}(h:n.op≠15)(g:n.op≠45)(j:n.op≠46):(nz n).sD=n.sD.map nz/\(nz n).name=n.name/\(nz n).n=n.n:=by
 obtain⟨op,nm,i,ks,p⟩:=n;have e:=nz_o (op:=op) (nm:=nm) (i:=i) (ks:=ks) (p:=p) (qo2 h g j);rw[e];exact⟨rfl,rfl,rfl⟩
theorem jL{A}(σ env){n a}(h:ArN A n a):ivl σ env (nz n)=ivl σ env n:=by
 have key:∀{n:Nd}{ks:List Nd},n.op≠15->n.op≠45->n.op≠46->n.sD=ks->(ks.map fun k=>ivl σ env (nz k))=ks.map (ivl σ env)->ivl σ env (nz n)=ivl σ env n:=by
  intro n ks o U o2 j hi;obtain⟨P,I,J⟩:=Qe o U o2;rw[zj,zj σ env n,qY,P,I,J,j,List.map_map,<-hi];rfl
 induction h with
 |name g h =>
  rename_i n a;obtain⟨P,I,J⟩:=Qe (n:=n) zOm zOm zOm;rw[zj,zj σ env n,qY,I,g];rfl
 |none g h =>
  rename_i n;obtain⟨P,I,J⟩:=Qe (n:=n) zOm zOm zOm;rw[zj,zj σ env n,qY,J,g];rfl
 |univ g=>rw[zj,zj σ env,qY,g];rfl
 |iden g=>rw[zj,zj σ env,qY,g];rfl
 |prime g j h C=>exact key zOm zOm zOm j (zP1 C)
 |bin g j h C=>exact key zOm zOm zOm j (zP1 C)
 |alike g j R T l t=>exact key zOm zOm zOm j (by simp[l,t])
 |join g j R T h l t=>exact key zOm zOm zOm j (by simp[l,t])
 |prod g j R T h l t=>exact key zOm zOm zOm j (by simp[l,t])
 |compr g j R C =>
  rename_i n x f;obtain⟨op,nm,i,ks,p⟩:=n;simp only[Nd.op,Nd.sD]at g j;subst g;subst j;rw[nz_b (by simp[binB]),zj,zj σ env (.mk 15 _ _ _ _)];simp[opI,Nd.op,Nd.sD,C]
variable {ts:TS} {sc:Sc} {A:tZ->Option Int}
theorem kq(g){n a}(h:ArN A n a):∀ p q bs c,narN ts sc g (nz n) p q bs c=narN ts sc g n p q bs c:=by
 induction h with
 |name i h =>
  rename_i n a;intro p q bs c;obtain⟨P,R,U⟩:=Qe (n:=n) zOm zOm zOm;rw[vB,vB g n,jL _ _ (.name i h),qY,R,i];rfl
 |none i h=>intro p q bs c;rw[jj g (by rw[qY];omega) (by rw[qY];omega) (by rw[qY];omega) (by rw[qY];omega) (by rw[qY];omega),jj g zOm zOm zOm zOm zOm,jL _ _ (.none (A:=A) i h)]
 |univ i=>intro p q bs c;rw[jj g (by rw[qY];omega) (by rw[qY];omega) (by rw[qY];omega) (by rw[qY];omega) (by rw[qY];omega),jj g zOm zOm zOm zOm zOm,jL _ _ (.univ (A:=A) i)]
 |iden i=>intro p q bs c;rw[jj g (by rw[qY];omega) (by rw[qY];omega) (by rw[qY];omega) (by rw[qY];omega) (by rw[qY];omega),jj g zOm zOm zOm zOm zOm,jL _ _ (.iden (A:=A) i)]
 |prime i j h T=>intro p q bs c;rw[jj g (by rw[qY];omega) (by rw[qY];omega) (by rw[qY];omega) (by rw[qY];omega) (by rw[qY];omega),jj g zOm zOm zOm zOm zOm,jL _ _ (.prime i j h)]
 |bin i j h T =>
  rename_i n x;intro p q bs c;by_cases o:n.op=11
  .obtain ⟨P,R,U⟩:=Qe (n:=n) zOm zOm zOm
   rw[vB,vB g n,jL _ _ (.bin i j h),qY,P,j,o];simp[narT,T]
  .rw [jj g (by rw[qY];omega) (by rw[qY];omega) (by rw[qY];omega) (by rw[qY];omega) (by rw[qY];omega),jj g zOm zOm zOm zOm zOm,jL _ _ (.bin i j h)]
 |alike i j C I l t =>
  rename_i n x y a;intro p q bs c;by_cases o:n.op=14
  .rw [jj g (by rw[qY];omega) (by rw[qY];omega) (by rw[qY];omega) (by rw[qY];omega) (by rw[qY];omega),jj g zOm zOm zOm zOm zOm,jL _ _ (.alike i j C I)]
  .obtain ⟨P,R,U⟩:=Qe (n:=n) zOm zOm zOm
   rw[vB,vB g n,jL _ _ (.alike i j C I),qY,P,j];rcases i with J|J|J|J
   .simp [J,narU,l,t,jL _ _ C,jL _ _ I]
   .simp [J,narU,l,t]
   .simp [J,narD,l,t]
   .exact absurd J o
 |join i j C I h l t=>intro p q bs c;rw[jj g (by rw[qY];omega) (by rw[qY];omega) (by rw[qY];omega) (by rw[qY];omega) (by rw[qY];omega),jj g zOm zOm zOm zOm zOm,jL _ _ (.join i j C I h)]
 |prod i j C I h l t=>intro p q bs c;rw[jj g (by rw[qY];omega) (by rw[qY];omega) (by rw[qY];omega) (by rw[qY];omega) (by rw[qY];omega),jj g zOm zOm zOm zOm zOm,jL _ _ (.prod i j C I h)]
 |compr i j C T=>intro p q bs c;rw[jj g (by rw[qY];omega) (by rw[qY];omega) (by rw[qY];omega) (by rw[qY];omega) (by rw[qY];omega),jj g zOm zOm zOm zOm zOm,jL _ _ (.compr i j C)]
theorem qo3(g){n a}(h:ArN A n a)(bs c):jh ts sc g (nz n) bs c=jh ts sc g n bs c/\ji ts sc g (nz n) bs c=ji ts sc g n bs c/\noN ts sc g (nz n) bs c=noN ts sc g n bs c:=by
 simp[jh,ji,noN,jL _ _ h,kq g h]
def EnvS(e f:IEnv):Prop:=∀ k,(getK k e=none/\getK k f=none)\/∃ v w a b,getK k e=some v/\getK k f=some w/\v.arg=some a/\w.arg=some b/\nz a=nz b
theorem EnvS.nil:EnvS [] []:=fun k => .inl ⟨rfl,rfl⟩
theorem EnvS.set{f}(h:EnvS e f){k a b i j}(g:nz a=nz b):EnvS (setK k ⟨some a,i,⟨#[]⟩⟩ e) (setK k ⟨some b,j,⟨#[]⟩⟩ f):=fun x=>by
 rw[jy,jy];split
 .exact .inr ⟨_,_,a,b,rfl,rfl,rfl,rfl,g⟩
 .exact h x
def Two(E1 E2:Nd->ISt->XR (Nd×Int))(k:Nd):Prop:=∀{s t g l a b i j},E1 k s = .ok ((a,i),g)->E2 k t = .ok ((b,j),l)->nz a=nz b
theorem qdK{E1 E2}:∀ ps ks,(∀ k,k∈ks->Two E1 E2 k)->∀{e f},EnvS e f->∀{s t s' J o C},yE E1 ps ks e s = .ok (o,s')->yE E2 ps ks f t = .ok (C,J)->EnvS o C
 | [],_,_,e,f,I,s,t,s',J,o,C,g,l=>by
  simp only[yE]at g l;cases g;cases l;exact I
 |p :: ps,[],_,e,f,I,s,t,s',J,o,C,g,l=>by
  simp only[yE]at g l;cases g;cases l;exact I
 |p :: ps,k :: ks,R,e,f,I,s,t,s',J,o,C,g,l=>by
  simp only[yE]at g l;cases c1:E1 k s with
  |error d=>rw[c1]at g;cases g
  |ok r =>
   cases c2:E2 k t with
   |error d=>rw[c2]at l;cases l
   |ok q =>
    rw[c1]at g;rw[c2]at l;obtain⟨⟨a,i⟩,u⟩:=r;obtain⟨⟨b,j⟩,v⟩:=q;exact qdK ps ks (fun k P=>R k (qN _ P)) (I.set (R k (qZ ..) c1 c2)) g l
theorem qdL{E1 E2 T U f nm}:∀ ks x y,(∀ k,k∈ks->Two (E1 e) (E2 f) k)->∀{s t s' I o p C l2 J P},zE E1 T false x e nm ks s = .ok ((o,C,J),s')->zE E2 U false y f nm ks t = .ok ((p,l2,P),I)->o=nm/\p=nm/\C.map nz=l2.map nz
 | [],x,y,_,s,t,s',I,o,p,C,l2,J,P,g,l=>by
  simp only[zE]at g l;cases g;cases l;exact⟨rfl,rfl,rfl⟩
 |k :: ks,x,y,hk,s,t,s',I,o,p,C,l2,J,P,g,l=>by
  simp only[zE,Bool.false_eq_true,false_and,if_false]at g l;cases c1:E1 e k s with
  |error d=>rw[c1]at g;cases g
  |ok r =>
   cases c2:E2 f k t with
   |error d=>rw[c2]at l;cases l
   |ok q =>
    rw[c1]at g;rw[c2]at l;obtain⟨⟨a,i⟩,u⟩:=r;obtain⟨⟨b,j⟩,v⟩:=q;simp only at g l;cases d1:zE E1 T false (x+1) e nm ks u with
    |error d=>rw[d1]at g;cases g
    |ok r' =>
     cases d2:zE E2 U false (y+1) f nm ks v with
     |error d=>rw[d2]at l;cases l
     |ok q' =>
      rw[d1]at g;rw[d2]at l;obtain⟨⟨a1,a2,a3⟩,u'⟩:=r';obtain⟨⟨b1,b2,b3⟩,v'⟩:=q';obtain⟨g1,g2,g3⟩:=qdL ks (x+1) (y+1) (fun k R=>hk k (qN _ R)) d1 d2;cases g;cases l;exact⟨g1,g2,by rw[za,za,hk k (qZ ..) c1 c2,g3]⟩
theorem ku{nm k ks s s' j g o}(h:zE E R true 0 e nm (k :: ks) s = .ok ((j,g,o),s')):∃ k' l i u,g=k' :: l/\E e k s = .ok ((k',i),u):=by
 simp only[zE]at h;rw[if_neg zSp]at h;cases c:E e k s with
 |error d=>simp only[c]at h;cases h
 |ok r =>
  obtain⟨⟨a,i⟩,u⟩:=r;simp only[c]at h;split at h
  .cases h
  .cases h;exact⟨a,_,i,u,rfl,rfl⟩
theorem kv{b x nm s s' i g j}(h:zE E R b x e nm [] s = .ok ((i,g,j),s')):g=[]:=by
 simp only[zE]at h;cases h;rfl
theorem Vh{ts es I}:∀(f j){e t}(n){b b'},EnvS e t->Two (fun k s=>expI ts es f e k b s) (fun k s=>expI ts I j t k b' s) n
 | 0,j,e,t,n,b,b',o=>fun g i=>by simp only[expI]at g;cases g
 |f+1,0,e,t,n,b,b',o=>fun g i=>by simp only[expI]at i;cases i
 |f+1,j+1,e,t,n,b,b',o=>fun g i=>by
  simp only[expI]at g i;split at g
  .split at i
   .by_cases J:n.op=1
    .rw [if_pos J]at g i
     unfold ve at g i;rcases o n.name with ⟨g1,C⟩|⟨v,w,x,y,g1,C,U,g4,g5⟩
     .rw [g1]at g
      rw[C]at i;cases g;cases i;rfl
     .rw [g1]at g
      rw[C]at i;simp only[U]at g;simp only[g4]at i;split at g
      .split at i
       .cases g;cases i;exact g5
       .cases i
      .cases g
    rw[if_neg J]at g i;by_cases P:n.op=47
    .rw [if_pos P]at g i
     cases R:ts.sT.find? fun p=>decide (p.name=n.name) with
     |none=>rw[R]at g;cases g
     |some p =>
      rw[R]at g i;obtain⟨u1,v1,c1,d1⟩:=uh g;obtain⟨u2,v2,c2,d2⟩:=uh i;exact Vh f j p.body (qdK _ _ (fun k _=>Vh f j k o) EnvS.nil c1 c2) d1 d2
    rw[if_neg P]at g i;obtain⟨⟨u1,l1,m1⟩,v1,c1,d1⟩:=uh g;obtain⟨⟨u2,l2,m2⟩,v2,c2,d2⟩:=uh i;cases d1;cases d2;cases l:binB n.op with
    |true =>
     rw[l]at c1 c2;cases T:n.sD with
     |nil =>
      rw[T]at c1 c2;rw[kv c1,kv c2];simp only[nz,l,nzH,if_true]
     |cons k ks =>
      rw[T]at c1 c2;obtain⟨k1,r1,i1,w1,rfl,g1⟩:=ku c1;obtain⟨k2,r2,i2,w2,rfl,C⟩:=ku c2;rw[nz_b l,nz_b l,Vh f j k o g1 C]
    |false =>
     rw[l]at c1 c2;obtain⟨e1,e2,e3⟩:=qdL n.sD 0 0 (fun k _=>Vh f j k o) c1 c2;rw[nz_o l,nz_o l,e1,e2,e3]
   .cases i
  .cases g
end
end KM
namespace KN
open Y1 Y9 P1 PA YX YZ YB YC KA KF KG KM
variable {ts:TS} {sc:Sc} {A:tZ->Option Int}
theorem kw{n k ks}(g:n.sD=k :: ks):kidN (nz n) 0=nz k:=by
 obtain⟨op,nm,i,l,p⟩:=n;simp only[Nd.sD]at g;subst g;cases h:binB op with
 |true=>rw[nz_b h];rfl
 |false=>rw[nz_o h];rfl
theorem qo4(g){n}(h:TyC A n)(bs c):vg ts sc g (nz n) bs c=vg ts sc g n bs c:=by
 obtain⟨⟨J,P⟩,R⟩:=h
 have key:∀ m:Nd,TyK A m->∀(no:Bool),(let k:=kidN (nz m) 0
   (if (no=true/\(nz m).op=34)\/(no=false/\(nz m).op=35) then noN ts sc g k bs c
 else if (no=true/\(nz m).op=35)\/(no=false/\(nz m).op=34) then jh ts sc g k bs c
 else if no=true then some (bs,c)
 else if (nz m).op=31 then none
 else if (nz m).op=36 then brB (jh ts sc g k bs c) fun bs c=>ji ts sc g k bs c
 else if (nz m).op=37 then ji ts sc g k bs c
 else if (nz m).op=32\/(nz m).op=33 then
  let x:=ivl ⟨ts,sc,bs⟩ [] k
  let y:=ivl ⟨ts,sc,bs⟩ [] (kidN (nz m) 1)
  let all:=allN (sumI sc.sC) x.lo.ar
  let t:=if (nz m).op=32 then all else x.up
  let yl:=if (nz m).op=32 then ⟨all.ar,[]⟩ else y.lo
  brB (narN ts sc g k yl y.up bs c) fun bs c=>narN ts sc g (kidN (nz m) 1) x.lo t bs c
 else some (bs,c)))=(let k:=kidN m 0
   (if (no=true/\m.op=34)\/(no=false/\m.op=35) then noN ts sc g k bs c
 else if (no=true/\m.op=35)\/(no=false/\m.op=34) then jh ts sc g k bs c
 else if no=true then some (bs,c)
 else if m.op=31 then none
 else if m.op=36 then brB (jh ts sc g k bs c) fun bs c=>ji ts sc g k bs c
 else if m.op=37 then ji ts sc g k bs c
 else if m.op=32\/m.op=33 then
  let x:=ivl ⟨ts,sc,bs⟩ [] k
  let y:=ivl ⟨ts,sc,bs⟩ [] (kidN m 1)
  let all:=allN (sumI sc.sC) x.lo.ar
  let t:=if m.op=32 then all else x.up
  let yl:=if m.op=32 then ⟨all.ar,[]⟩ else y.lo
  brB (narN ts sc g k yl y.up bs c) fun bs c=>narN ts sc g (kidN m 1) x.lo t bs c
 else some (bs,c))):=by
  intro m l no;rw[qY];by_cases o:m.op=34\/m.op=35\/m.op=36\/m.op=37
  .obtain ⟨k,a,i,p⟩:=l.1 o
   have e:kidN m 0=k:=by simp[kidN,i]
   rw[kw i,e];have:=fun bs c=>qo3 (ts:=ts) (sc:=sc) g p bs c
   simp only[(this _ _).1,(this _ _).2.1,(this _ _).2.2];simp only[show ¬(m.op=32\/m.op=33) by omega,if_false]
  .by_cases C:m.op=32\/m.op=33
   .obtain ⟨k,I,a,i,p,j⟩:=l.2 C
    have e:kidN m 0=k:=by simp[kidN,i]
    have T:kidN m 1=I:=by simp[kidN,i]
    have U:kidN (nz m) 1=nz I:=by rw[kidN,(Qe zOm zOm zOm).1,i];rfl
    rw[kw i,e,T,U];simp only[show m.op≠34 by omega,show m.op≠35 by omega,show m.op≠36 by omega,show m.op≠37 by omega,and_false,or_false,if_false];simp only[jL _ _ p,jL _ _ j,kq g p,kq g j]
   .simp only[show m.op≠34 by omega,show m.op≠35 by omega,show m.op≠36 by omega,show m.op≠37 by omega,C,and_false,or_false,if_false]
 unfold vg;rw[qY];by_cases o:n.op=40
 .obtain ⟨m,i,l⟩:=R o
  have e:kidN n 0=m:=by simp[kidN,i]
  rw[if_pos o,if_pos o,kw i,e];exact key m l _
 .rw [if_neg o,if_neg o]
  exact key n ⟨J,P⟩ _
theorem qdM:∀ m n g,szN n<=m->ya (nz n) g=(nz (ya n g).1,(ya n g).2)
 | 0,n,g,j=>by obtain⟨op,nm,i,ks,p⟩:=n;simp[szN]at j
 |m+1,n,g,j=>by
  obtain⟨op,nm,i,ks,p⟩:=n;by_cases o:op=48
  .subst o
   rw[nz_o (by simp[binB]),ya,ya,if_pos rfl,if_pos rfl];cases ks with
   |nil=>rfl
   |cons k ks =>
    rw[za,Yv,Yv];exact qdM m k true (by have:=zf (n := .mk 48 nm i (k :: ks) p) (k:=k) (by simp[Nd.sD]);omega)
  .rw [ya.eq_def (.mk op nm i ks p)]
   simp only[if_neg o];cases h:nz (.mk op nm i ks p) with
   |mk l t I C J =>
    have:=qY (.mk op nm i ks p);rw[h]at this;simp only[Nd.op]at this;rw[ya,zIn]
theorem kz:∀ l,TyL A l->∀ bs c,yp ts sc (l.map nz) bs c=yp ts sc l bs c
 | [],_,_,_=>rfl
 |n :: l,h,bs,c=>by
  rw[za,yp,yp,qdM _ n _ (qj _)];simp only;rw[qo4 _ (h n (qZ ..) _)];congr 1;funext bs c;exact kz l (fun x g=>h x (qN _ g)) bs c
theorem qo5(p k):vf 0 (nz k)=nz (vf p k):=by
 unfold vf;rw[qY];split
 .rfl
 .rw [nz_o (by simp[binB])];rfl
theorem We:∀ m n,szN n<=m->conj (nz n)=(conj n).map nz
 | 0,n,l=>by obtain⟨op,nm,i,ks,p⟩:=n;simp[szN]at l
 |m+1,n,l=>by
  rw[YT,YT n,qY];by_cases o:n.op=41
  .rw [if_pos o,if_pos o,(Qe zOm zOm zOm).1,zx,List.map_map]
   have:∀ i,(n.sD.map (conj ∘ nz)).getD i []=((n.sD.map conj).getD i []).map nz:=fun i=>by
    rw[zT,zT,zB,zB];cases j:n.sD[i]? with
    |none=>rfl
    |some k =>
     have:=zf (qQ j);exact We m k zOm
   rw[this,this]
  rw[if_neg o,if_neg o];by_cases g:n.op=48
  .rw [if_pos g,if_pos g,(Qe zOm zOm zOm).1,List.map_map]
   have t:(nz n).pos=0:=by
    obtain⟨op,nm,i,ks,p⟩:=n;rw[nz];split<;>rfl
   rw[t,zT,zT,zB,zB];cases j:n.sD[0]? with
   |none=>rfl
   |some k =>
    have:=zf (qQ j);simp only[zd,Option.getD_some,Function.comp_apply];rw[We m k zOm,List.map_map,List.map_map];refine List.map_congr_left fun x _=>qo5 n.pos x
  .rw [if_neg g,if_neg g];rfl
theorem kA{n n'}(e:nz n=nz n'):(conj n).map nz=(conj n').map nz:=by rw[<-We _ n (qj _),e,We _ n' (qj _)]
def NoE(e:IEnv):Prop:=∀ k,getK k e=none
theorem Wf{es}:∀(f){e}(n){b},NoE e->(∀ x,x∈preN n->x.op≠47)->∀{s s' a i},expI ts es f e n b s = .ok ((a,i),s')->nz a=nz n
 | 0,e,n,b,t,J,s,s',a,i,h=>by simp only[expI]at h;cases h
 |f+1,e,n,b,t,J,s,s',a,i,h=>by
  simp only[expI]at h;split at h
  .by_cases T:n.op=1
   .rw [if_pos T]at h
    unfold ve at h;rw[t n.name]at h;cases h;rfl
   rw[if_neg T,if_neg (J n (vV n))]at h;obtain⟨⟨u1,o,C⟩,v1,c1,d1⟩:=uh h;cases d1;have j:∀ k,k∈n.sD->∀ x,x∈preN k->x.op≠47:=fun k j x U=>J x (YL j U)
   obtain⟨op,nm,i,ks,p⟩:=n;simp only[Nd.op,Nd.sD,Nd.name,Nd.n,Nd.pos]at *
   cases l:binB op with
   |true =>
    rw[l]at c1;cases ks with
    |nil=>rw[kv c1];simp only[nz,l,nzH,if_true]
    |cons k ks =>
     obtain⟨k1,r1,i1,w1,rfl,g1⟩:=ku c1;rw[nz_b l,nz_b l,Wf f k t (j k (qZ ..)) g1]
   |false =>
    rw[l]at c1;have P:∀(ks:List Nd)(x:Nat),(∀ k,k∈ks->∀ x,x∈preN k->x.op≠47)->∀{s s' I o C},zE (fun env k s=>expI ts es f env k b s) (fun env nm s=>renI ts es env nm b s) false x e nm ks s = .ok ((I,o,C),s')->I=nm/\o.map nz=ks.map nz:=by
     intro ks;induction ks with
     |nil=>intro x _ s s' I o C h;simp only[zE]at h;cases h;exact⟨rfl,rfl⟩
     |cons k ks P =>
      intro x j s s' I o C h;simp only[zE,Bool.false_eq_true,false_and,if_false]at h;cases c:expI ts es f e k b s with
      |error d=>simp only[c]at h;cases h
      |ok r =>
       obtain⟨⟨a,i⟩,u⟩:=r;simp only[c]at h;split at h
       .cases h
       .rename_i n2 l2 m2 s2 g
        obtain⟨g1,g2⟩:=P (x+1) (fun k R=>j k (qN _ R)) g;cases h;exact⟨g1,by rw[za,za,Wf f k t (j k (qZ ..)) c,g2]⟩
    obtain⟨e1,e2⟩:=P ks 0 j c1;rw[nz_o l,nz_o l,e1,e2]
  .cases h
end KN
namespace KO
open Y1 P1 PA YX YZ YC YE YG KA KG KM KN
section
variable {a b:Nd}{ts:TS}
def Ex(ts:TS)(n n':Nd):Prop:=(n'=n/\∀ x,x∈preN n->x.op≠47)\/∃ C f s g i,expI ts C f [] n false s = .ok ((n',i),g)
theorem kB{n}(g:Ex ts n a)(l:Ex ts n b):nz a=nz b:=by
 rcases g with ⟨rfl,p⟩|⟨C,f,s,P,i,g⟩<;>rcases l with ⟨rfl,I⟩|⟨J,o,t,R,j,l⟩
 .rfl
 .exact (Wf o a (fun k=>rfl) p l).symm
 .exact Wf f b (fun k=>rfl) I g
 .exact Vh f o n EnvS.nil g l
theorem Vi{n n'}(h:qU ts n=(n',0)):Ex ts n n':=by
 unfold qU at h;split at h
 .rename_i i
  exact absurd (congrArg Prod.snd h) i
 split at h
 .rename_i l
  cases h;rw[YO _ _ n (qj _),List.any_eq_false]at l;exact .inl ⟨rfl,fun x j e=>by simpa[e] using l x j⟩
 split at h
 .rename_i d o
  have:=U2 o;have e:=congrArg Prod.snd h;simp only at e;omega
 .rename_i m g
  cases h;unfold outI at g;split at g
  .cases g
  .rename_i p z t j
   split at g
   .cases g;exact .inr ⟨_,_,_,_,_,j⟩
   .cases g
theorem qdN{w m}(h:Ex ts w m)(I:binB w.op=false)(J:w.op≠1)(P:w.op≠47)(g:w.sD=[a,b]):∃ l b',m.op=w.op/\m.pos=w.pos/\m.sD=[l,b']/\Ex ts a l/\Ex ts b b':=by
 rcases h with ⟨rfl,t⟩|⟨C,f,s,R,i,h⟩
 .exact ⟨a,b,rfl,rfl,g,.inl ⟨rfl,fun x o=>t x (YL (by rw[g];simp) o)⟩,.inl ⟨rfl,fun x o=>t x (YL (by rw[g];simp) o)⟩⟩
 cases f with
 |zero=>simp only[expI]at h;cases h
 |succ f =>
  simp only[expI]at h;split at h
  .obtain ⟨⟨T,U,m1⟩,v1,c1,d1⟩:=uh h
   cases d1;rw[I,g]at c1;simp only[zE,Bool.false_eq_true,false_and,if_false]at c1;cases c:expI ts C f [] a false (payS 1 s) with
   |error d=>simp only[c]at c1;cases c1
   |ok r =>
    obtain⟨⟨l,i⟩,u⟩:=r;simp only[c]at c1;cases p:expI ts C f [] b false u with
    |error d=>simp only[p]at c1;cases c1
    |ok r =>
     obtain⟨⟨b',j⟩,v⟩:=r;simp only[p]at c1;cases c1;exact⟨l,b',rfl,rfl,rfl,.inr ⟨_,_,_,_,_,c⟩,.inr ⟨_,_,_,_,_,p⟩⟩
  .cases h
theorem Wg{w m g b'}(i:w.op=41)(j:w.sD=[a,b])(h:qU ts w=(m,0))(l:qU ts a=(g,0))(o:qU ts b=(b',0)):(conj m).map nz=(conj g++conj b').map nz:=by
 obtain⟨x,y,I,J,p,t,C⟩:=qdN (Vi h) (by simp[binB,i]) zOm zOm j;rw[YT,if_pos zOm,p];simp only[za,List.map_nil,Jn,List.getD_cons_succ];rw[zx,zx,kA (kB t (Vi l)),kA (kB C (Vi o))]
theorem qo6{w m g}(j:w.op=41)(o:w.sD=[a,b])(h:qU ts w=(m,0))(p:qU ts a=(g,0)):∃ l,(conj m).map nz=(conj g).map nz++l.map nz/\conj m=(conj m).take (conj g).length++l:=by
 obtain⟨x,y,C,I,i,t,J⟩:=qdN (Vi h) (by simp[binB,j]) zOm zOm o;have e:=kA (kB t (Vi p));have el:(conj x).length=(conj g).length:=by simpa using congrArg List.length e
 refine⟨conj y,?_,?_⟩
 .rw [YT,if_pos zOm,i]
  simp only[za,List.map_nil,Jn,List.getD_cons_succ];rw[zx,e]
 .rw [YT m,if_pos zOm,i]
  simp only[za,List.map_nil,Jn,List.getD_cons_succ];rw[<-el,List.take_left]
end
end KO
namespace KR
open Y1 Y9 P1 PF YZ YG KA KD KE KF KG KM KN KO Y16 Q4 Q6
section
variable {bs x:List Bd}{ts:TS}
def zM(ts:TS):List Nd->Except Int (List Nd)
 | [] => .ok []
 |n :: l=>if (qU ts n).2=0 then (match zM ts l with
   | .ok r => .ok (conj (qU ts n).1++r)
   | .error e => .error e) else .error (qU ts n).2
def fixL(ts:TS)(sc:Sc)(bs:List Bd)(n:Nd):Except Int (List Bd):=match zM ts (ts.sP.map Prod.snd++[n]) with
 | .error e => .error e
 | .ok l=>match fixN ts sc l (gapL bs+1) bs with
  |none => .error 100
  |some x => .ok x
structure FitK (ts:TS) (sc:Sc) (bs:List Bd):Prop where
 h:okTS ts
 v:∀ p,p∈ts.sT->qT p.body=true
 f:∀ p,p∈ts.sP->qT p.2=true
 k:yY ts=[]
 w:NwS ts sc
 b:BdS ts (sumI sc.sC) bs
theorem qdO(h:okTS ts)(C:∀ p,p∈ts.sT->qT p.body=true)(I:yY ts=[]){n x}(o:qT n=true)(g:qU ts n=(x,0)):qT x=true/\(zQ ts [] x).1=0/\∀ y,y∈preN x->y.op≠47:=by
 have l:(zQ ts [] n).1=0:=by
  unfold qU at g;split at g
  .rename_i i
   exact absurd (congrArg Prod.snd g) i
  .rename_i i;simpa using i
 have t:∀{x:Nd},anyN (fun n=>decide (n.op=47)) x=false->∀ y,y∈preN x->y.op≠47:=fun {x} j y J e=>by
  rw[YO _ _ x (qj _),List.any_eq_false]at j;simpa[e] using j y J
 cases j:anyN (fun n=>decide (n.op=47)) n with
 |true =>
  obtain⟨a,b,c,d⟩:=qdG h C I o l j g;exact⟨a,by rw[c],t b⟩
 |false =>
  have:x=n:=by
   unfold qU at g;rw[if_neg (zUs l),if_pos j]at g;cases g;rfl
  subst this;exact⟨o,l,t j⟩
theorem Wh:∀(a b){l},zM ts (a++b) = .ok l->∃ g l2,zM ts a = .ok g/\zM ts b = .ok l2/\l=g++l2
 | [],b,l,h=>⟨[],l,rfl,h,rfl⟩
 |n :: a,b,l,h=>by
  rw[List.cons_append,zM]at h;rw[zM];split at h
  .rename_i i
   rw[if_pos i];split at h
   .rename_i r j
    cases h;obtain⟨g,l2,o,p,rfl⟩:=Wh a b j;rw[o];exact⟨_,l2,rfl,p,by rw[zG]⟩
   .cases h
  .cases h
theorem kC{n l}(h:zM ts [n] = .ok l):∃ x,qU ts n=(x,0)/\l=conj x:=by
 rw[zM,zM]at h;split at h
 .rename_i e
  cases h;exact⟨(qU ts n).1,Prod.ext rfl e,zSp⟩
 .cases h
theorem ZU(h:okTS ts)(i:∀ p,p∈ts.sT->qT p.body=true)(j:yY ts=[]):∀(a){l},(∀ n,n∈a->qT n=true)->zM ts a = .ok l->TyL (arT ts) l
 | [],l,_,e=>by cases e;exact fun n t=>absurd t qK
 |n :: a,l,o,e=>by
  rw[zM]at e;split at e
  .rename_i C
   split at e
   .rename_i r I
    cases e;have J:=ZU h i j a (fun x g=>o x (qN _ g)) I;obtain⟨P,R,_⟩:=qdO h i j (o n (qZ ..)) (Prod.ext rfl C:qU ts n=((qU ts n).1,0));have:=qo1 h (jr P) R;exact fun x g=>(qO.1 g).elim (this x) (J x)
   .cases e
  .cases e
theorem ZV{sc}(F:FitK ts sc bs){n}(i:qT n=true):∀ x,x∈ts.sP.map Prod.snd++[n]->qT x=true:=fun x g=>by
 rcases qO.1 g with g|g
 .obtain ⟨p,j,rfl⟩:=qn.1 g;exact F.f p j
 .rw [qS]at g;subst g;exact i
theorem Vj{sc n}(h:fixL ts sc bs n = .ok x):∃ l,zM ts (ts.sP.map Prod.snd++[n]) = .ok l/\fixN ts sc l (gapL bs+1) bs=some x:=by
 unfold fixL at h;split at h
 .cases h
 .rename_i l g
  split at h
  .cases h
  .rename_i y i
   cases h;exact⟨l,g,i⟩
theorem kD{sc}(F:FitK ts sc bs){n}(g:qT n=true)(h:fixL ts sc bs n = .ok x):BdS ts (sumI sc.sC) x/\TgL x bs:=by
 obtain⟨l,i,hf⟩:=Vj h;exact US F.w (ZU F.h F.v F.k _ (ZV F g) i) _ bs x F.b hf
theorem fixL_idem{sc}(F:FitK ts sc bs){n}(i:qT n=true)(h:fixL ts sc bs n = .ok x):fixL ts sc x n = .ok x:=by
 obtain⟨l,g,hf⟩:=Vj h;have j:=ZU F.h F.v F.k _ (ZV F i) g;have:=UT F.w j _ bs x F.b zOm hf;unfold fixL;rw[g];simp only;rw[fixN,this]
theorem qo7{sc bt y}(F:FitK ts sc bs)(G:BdS ts (sumI sc.sC) bt)(p:TgL bt bs){n}(t:qT n=true)(h:fixL ts sc bt n = .ok y):∃ x,fixL ts sc bs n = .ok x/\TgL y x:=by
 obtain⟨l,o,hf⟩:=Vj h;have g:=ZU F.h F.v F.k _ (ZV F t) o;have i:=UT F.w g _ bt y G zOm hf;obtain⟨C,j⟩:=US F.w g _ bt y G hf;obtain⟨x,e,I⟩:=Kt F.w g C i (gapL bs+1) bs F.b (j.trans p);refine⟨x,?_,I⟩;unfold fixL;rw[o];simp only;rw[e]
theorem qo8{sc bt n e}(h:fixL ts sc bt n = .error e):e=100\/fixL ts sc bs n = .error e:=by
 unfold fixL at h⊢;split at h
 .rename_i d g;cases h;exact .inr rfl
 .split at h
  .cases h;exact .inl rfl
  .cases h
theorem qo9{sc z}(F:FitK ts sc bs){n o w}(hw:w.op=41)(hk:w.sD=[n,o])(hn:qT n=true)(hv:qT w=true){l}(t:zM ts (ts.sP.map Prod.snd++[n]) = .ok l)(h:fixL ts sc bs w = .ok z):∃ x,fixL ts sc bs n = .ok x/\TgL z x:=by
 obtain⟨k,g,hf⟩:=Vj h;have C:=ZU F.h F.v F.k _ (ZV F hv) g;have I:=UT F.w C _ bs z F.b zOm hf;obtain⟨P,J⟩:=US F.w C _ bs z F.b hf;obtain⟨i,ln,e1,e2,rfl⟩:=Wh _ _ t;obtain⟨a0,lw,R,e4,rfl⟩:=Wh _ _ g;rw[e1]at R;cases R;obtain⟨x,hx,rfl⟩:=kC e2;obtain⟨m,hm,rfl⟩:=kC e4;obtain⟨r,c1,c2⟩:=qo6 hw hk hm hx;have T:=ZU F.h F.v F.k _ (ZV F hn) t
 have c3:((i++(conj m).take (conj x).length)).map nz=(i++conj x).map nz:=by
  rw[zx,zx];congr 1;have:(conj m).map nz=((conj m).take (conj x).length).map nz++r.map nz:=by rw[<-zx,<-c2]
  rw[this]at c1;exact List.append_cancel_right c1
 have j:TyL (arT ts) ((i++(conj m).take (conj x).length)++r):=by
  rw[zG,<-c2];exact C
 have p:yp ts sc ((i++(conj m).take (conj x).length)++r) z false=some (z,false):=by
  rw[zG,<-c2];exact I
 have U:=qmR F.w j P p;have hA:TyL (arT ts) (i++(conj m).take (conj x).length):=fun y hy=>j y (y6 _ hy)
 rw[<-kz _ hA,c3,kz _ T]at U;obtain⟨y,e,ht⟩:=Kt F.w T P U (gapL bs+1) bs F.b J;refine⟨y,?_,ht⟩;unfold fixL;rw[t];simp only;rw[e]
end
end KR
namespace GX
end GX
namespace KV
open G5 P1 E1 E2 GR GW KB KD KE
section
variable {ts:TS}
theorem qdP{sc}(F:Fit9 ts sc){f}(hf:f∈ts.sA){r:Rl}(g:r.ar=f.sS.length)(i:zq r.ts)(j:∀ t,t∈r.ts->t∈yJ sc f.sS):GR (sumI sc.sC) r:=by
 have l:=F.f1 f hf;refine⟨zOm,zOm,fun t h=>?_,i⟩;obtain⟨a,b⟩:=qbD sc _ t (j t h);rw[g,wd zOm zOm];have e:((f.sS.length:Int)).toNat=f.sS.length:=zOm;rw[e];have:0<=sumI sc.sC ^ f.sS.length:=Int.pow_nonneg (zW1 F.p);omega
theorem qpA{sc bs}(F:Fit9 ts sc)(B:BndV ts sc bs):BdS ts (sumI sc.sC) bs:=
 ⟨⟨B.len,fun i h g=>by
  obtain⟨a,b⟩:=B.lo i h g;have j:=B.so _ (qt h);have hf:=qt g;exact⟨qdP F hf a j.1 fun t l=>B.full i h g t (B.sub _ (qt h) t l),qdP F hf b j.2 (B.full i h g),a,b⟩⟩,fun x o=>B.sub x o⟩
theorem qpB{sc bs x}(B:BndV ts sc bs)(X:BdS ts (sumI sc.sC) x)(h:TgL x bs):BndV ts sc x:=
 ⟨X.b.1,fun i j l=>by have o:=X.b.2 i j l;exact⟨o.la,o.ua⟩,fun b g=>by
  obtain⟨i,p,rfl⟩:=List.getElem_of_mem g;have o:=X.b.2 i p (by rw[<-X.b.1];exact p);exact⟨o.lo.srt,o.up.srt⟩,fun b g=>X.s b g,fun i j l t C=>by
  have g:i<bs.length:=by rw[<-h.1];exact j
  exact B.full i g l t ((h.2 i j g).up t C)⟩
end
end KV
namespace GY
end GY
namespace GZ
open GF GU
theorem mem_selT(g s f t):t∈selT g s f↔((s:Int),(f:Int),t)∈g:=by
 simp only[selT,qn,y5,qD,decide_eq_true_eq];constructor
 .rintro ⟨⟨a,b,c⟩,⟨h,i,j⟩,rfl⟩
  simp only at i j;subst i j;exact h
 .intro h
  exact⟨_,⟨h,rfl,rfl⟩,rfl⟩
theorem qdQ:∀ bs k p t,(p,t)∈zt bs k↔∃(f:Nat) (h:f<bs.length),p=((k+f:Nat):Int)/\t∈Kb bs[f]
 | [],k,p,t=>by simp[zt]
 |b :: bs,k,p,t=>by
  simp only[zt,qO,Yt,qn,uR,qdQ bs (k+1)];constructor
  .rintro (⟨a,i,rfl,rfl⟩|⟨f,hf,rfl,g⟩)
   .exact ⟨0,zSp,zSp,zUs i⟩
   .exact ⟨f+1,by simpa using hf,zOm,zUs g⟩
  .rintro ⟨f,hf,rfl,g⟩
   cases f with
   |zero=>grind
   |succ f=>grind
end GZ
namespace HA
end HA
namespace HB
end HB
namespace HC
end HC
namespace HD
end HD
namespace IC
end IC
namespace KX
open GB E1 E3 GF GZ
section
variable {bs:List Bd}
def pkAt(g:List Bool)(k:Nat):Bool:=decide (0<g.length)&&g.getD (k % g.length) false
def put1(st:List Rl)(q:Int×Int):List Rl:=st.set q.1.toNat (unR (st.getD q.1.toNat noR) ⟨(st.getD q.1.toNat noR).ar,[q.2]⟩)
def yz(g:List Bool):List (Int×Int)->Nat->List Rl->List Rl
 | [],_,U=>U
 |q :: i,k,U=>yz g i (k+1) (if pkAt g k=true then put1 U q else U)
def mdS(i:List Bool)(bs:List Bd)(g:List Bool)(s:Nat):List Rl:=
 if s=0 then yz g (zt bs 0) 0 (bs.map fun b=>b.lo) else (yz g (zt bs 0) (s*(zt bs 0).length) (bs.map fun b=>b.lo)).mapIdx fun f r=>if i.getD f true=true then r else (yz g (zt bs 0) 0 (bs.map fun b=>b.lo)).getD f noR
def mdM(sc:Sc)(g:List Bool)(bs:List Bd)(i:List Bool)(lp:Int):Md:=⟨sc,(qs sc.sN.toNat).map (mdS g bs i),lp % sc.sN⟩
structure Fl (bs:List Bd) (st:List Rl):Prop where
 l:st.length=bs.length
 r:∀(i:Nat)(h:i<st.length)(h2:i<bs.length),st[i].ar=bs[i].lo.ar/\zq st[i].ts/\(∀ t,t∈bs[i].lo.ts->t∈st[i].ts)/\∀ t,t∈st[i].ts->t∈bs[i].up.ts
theorem kE(j:∀ b,b∈bs->zq b.lo.ts)(l:∀ b,b∈bs->∀ t,t∈b.lo.ts->t∈b.up.ts):Fl bs (bs.map fun b=>b.lo):=
 ⟨zSp,fun i h o=>by
  rw[List.getElem_map];have g:=qt o;exact⟨rfl,j _ g,fun t p=>p,l _ g⟩⟩
theorem qpC{st}(F:Fl bs st){q:Int×Int}(o:∃(f:Nat) (h:f<bs.length),q.1=f/\q.2∈bs[f].up.ts):Fl bs (put1 st q):=by
 obtain⟨f,hf,e,p⟩:=o;have g:f<st.length:=by rw[F.l];exact hf
 have C:q.1.toNat=f:=zOm;have I:st.getD f noR=st[f]:=by simp[zT,qB g]
 unfold put1;rw[C,I];refine⟨by rw[List.length_set];exact F.l,fun i h J=>?_⟩;rw[List.getElem_set];by_cases j:f=i
 .subst j
  rw[if_pos rfl];obtain⟨a,b,c,d⟩:=F.r f g hf;refine⟨a,(vO _).1,fun t h=>?_,fun t h=>?_⟩
  .exact ((vO _).2 t).2 (y6 _ (c t h))
  .rcases qO.1 (((vO _).2 t).1 h) with h|h
   .exact d t h
   .simp only[qS]at h;subst h;exact p
 .rw [if_neg j]
  exact F.r i (zUs h) J
theorem Wi(i):∀(g:List (Int×Int))(k){st},(∀ q,q∈g->∃(f:Nat) (h:f<bs.length),q.1=f/\q.2∈bs[f].up.ts)->Fl bs st->Fl bs (yz i g k st)
 | [],k,st,_,F=>F
 |q :: g,k,st,h,F=>by
  rw[yz];refine Wi i g (k+1) (fun x j=>h x (qN _ j)) ?_;split
  .exact qpC F (h q (qZ ..))
  .exact F
theorem kF(bs):∀ q,q∈zt bs 0->∃(f:Nat) (h:f<bs.length),q.1=f/\q.2∈bs[f].up.ts:=fun q i=>by
 obtain⟨p,t⟩:=q;obtain⟨f,hf,e,g⟩:=(qdQ bs 0 p t).1 i;refine⟨f,hf,zUs e,?_⟩;simp only[Kb,y5]at g;exact g.1
theorem qdR(p:∀ b,b∈bs->zq b.lo.ts)(C:∀ b,b∈bs->∀ t,t∈b.lo.ts->t∈b.up.ts)(P g s):Fl bs (mdS P bs g s):=by
 have j:=Wi g (zt bs 0) 0 (kF bs) (kE p C);have I:=Wi g (zt bs 0) (s*(zt bs 0).length) (kF bs) (kE p C);unfold mdS;split
 .exact j
 .refine ⟨by rw[List.length_mapIdx];exact I.l,fun i h o=>?_⟩
  rw[List.getElem_mapIdx];split
  .exact I.r i (zUs h) o
  .have J:i<(yz g (zt bs 0) 0 (bs.map fun b=>b.lo)).length:=by rw[j.l];exact o
   rw[zT,qB J];exact j.r i J o
end
end KX
namespace QC
end QC
end Go.Proofs.YtlnbdknjkmmgbaaGreatDoor
