/-
  Own library, part 4: an abstract reading of values and a calculus over it; contracts of functions; plain lemmas.
-/
import Derived.Test.YthflbhjlkgdafaaGreatDoorMc
set_option linter.unusedVariables false
set_option linter.unusedSimpArgs false
set_option maxRecDepth 100000
open Go renaming Program->qc,TypeId->qd,Operand->qh,FuncId->zV
open Go.Proofs.Tryz renaming prog->qg
open List renaming getElem?_eq_some_iff->ql,mem_map->qp,range->qu,getElem_mem->qv,getElem?_eq_getElem->qy,mem_cons->qz,getElem?_set_self->qJ,getElem?_append_left->qL,replicate->qM,mem_append->qP,mem_singleton->qX,all_eq_true->qY,mem_of_getElem?->q8,mem_cons_of_mem->q9,take_length->za,drop_eq_getElem_cons->ze,map_cons->zf,map_append->zi,length_append->zj,mem_cons_self->zo,getElem?_map->zz,append_assoc->zL,length_map->zT,take_of_length_le->zU,mem_range->zW,getElem?_append_right->zZ,append_nil->ye,drop_length->yf,cons_append->yq,length_cons->yy,getElem?_set_ne->yH,mem_filter->jg,mem_append_left->jh,getElem?_take->vf,getD_cons_zero->vh,length_take->ub,foldl_append->uI,getElem?_drop->uK,flatMap_cons->we,pairwise_cons->w7,getElem?_range->Qa,getElem_of_mem->ZD,nodup_append->ZE
open Nat renaming le_refl->qn,le_trans->zQ,zero_add->yJ,le_of_ble_eq_true->vd,zero_le->wh,lt_succ_iff_lt_or_eq->JA
open Go.IntKind renaming i64->qo
open Option.some renaming injEq->qs
open Option renaming map_some->zh,map_eq_some_iff->vX
open Except.ok renaming injEq->y9
open List.Nodup renaming length_le_of_subset->jl
open Int renaming mul_le_mul->jv,tmod_eq_emod_of_nonneg->vJ
open List.cons renaming injEq->vK
open Bool renaming eq_iff_iff->uc
namespace Go.Proofs.YthflbhjlkgdafaaGreatDoor
open Go Go.Ev Go.Proofs Tryz
namespace Y10
open Y1 Y2 Y3 P1 Y6 Y7 YF Y9
section
variable {s:AV}{K:AV->Mu->Prop}{xs:List (List AV)}{mu:Mu}
abbrev rB(b:Bool):List AV:=[aB b]
theorem Qq(l:List Bool):qV 1 (l.map rB):=fun r g=>by
 obtain⟨n,_,rfl⟩:=qp.1 g;exact⟨rfl,rfl⟩
theorem OwnF.rdB{lo av}{xs:List Bool}(h:OwnF lo mu 1 av (xs.map rB)):Rd mu av (.lst false (xs.map rB)):=
 h.1.rd (Qq xs).ok fun r g c i=>by
  obtain⟨n,_,rfl⟩:=qp.1 g
  grind [HF.sc]
theorem XF{lo sz mu' av}(h:OwnF lo mu sz av xs)(i:MuLe mu mu'):OwnF lo mu' sz av xs:=by
 obtain⟨j,l,o⟩:=h;have g:mu.length<=mu'.length:=by
  rcases Nat.eq_zero_or_pos mu.length with p|p
  .omega
  .have:=i (mu.length-1) mu[mu.length-1] (qy zOm)
   have:=(ql.1 this).1;omega
 refine⟨?_,l,zQ o g⟩;rcases j with rfl|⟨b,rfl,t⟩
 .exact .inl rfl
 .exact .inr ⟨b,rfl,i _ _ t⟩
theorem ZX(ts):∀ k,k<=ts.sT.length->(tmsL ts k).length=k
 | 0,_=>rfl
 |k+1,h=>by
  have g:k<ts.sT.length:=zOm;simp[tmsL,ZX ts k zOm,qy g]
theorem uD{ts}(h:okTS ts){k}(g:k<=ts.sT.length):okCk (mkCk ts k):=⟨h,g,Nat.le_of_eq (ZX ts k g).symm⟩
theorem mq(ts)(h:okTS ts)(hs:∀ p,p∈ts.sT->Small p.body)(n)(hn:n<=ts.sT.length):qj qg 47 [eTS ts,aI n] (eCk (mkCk ts n)):=by
 refine qSQ call47 func47 rfl { mt:=[9] } ?_;have a8:=h.np;simp[go_sem];refine aP n (fun k U=>∃ t o,U.tm 1=aI n/\U.tm 2 = .ip (cTS ts)/\U.tm 5 = .ptr 0 0/\U.mu=[.arr [lSo ts.sS,lFl ts.sA,lPd ts.sT,lFa ts.sP,aI k,t]]++o/\OwnF 1 U.mu 1 t ((tmsL ts k).map rB)) ?_ ?_
 .refine ⟨.lst true [],[],zSi,zSi,zSi,zSi,?_⟩
  exact OwnF.nil zSi
 .rintro k U hk ⟨t,o,e1,e2,T,hm,ho⟩
  have a3:Rd U.mu (.ptr 0 0) (eCk (mkCk ts k)):=by
   rw[hm];refine .ptr 0 0 _ _ rfl zSp (fun j x y g l=>?_);rw[<-hm]
   match j with
   | 0=>simp at g l;subst g;subst l;exact .hf _ (Uz _)
   | 1=>simp at g l;subst g;subst l;exact .hf _ (J4 _)
   | 2=>simp at g l;subst g;subst l;exact .hf _ (Zo _)
   | 3=>simp at g l;subst g;subst l;exact .hf _ (J3 _)
   | 4=>simp at g l;subst g;subst l;exact .zsc _
   | 5=>simp at g l;subst g;subst l;exact OwnF.rdB ho
   |j+6=>simp at g
  by_cases a0:k<n
  .have I:k<ts.sT.length:=by omega
   simp[go_sem,e1,T,hm,a0];refine tJ zKr ?_;have a1:OwnF 1 (U.mu++[.arr (cNd ts.sT[k].body)]) 1 t ((tmsL ts k).map rB):=XF ho (MuLe.push _ _);have C:=Rd.le (MuLe.push U.mu (.arr (cNd ts.sT[k].body))) a3;have a4:=nZ (mkCk ts k) (uD h zOm) _ ts.sT[k].body (qn _) (hs _ (qv I));have a5:tmsL ts (k+1)=tmsL ts k++[yY (mkCk ts k) ts.sT[k].body]:=by
    simp only[tmsL,qy I];rfl
   have hl:=ZX ts k zOm;rw[hm]at a1 C;simp[go_sem,e2,T,I];refine tJ zKr ?_;simp[go_sem,T,qi6];refine fX a4 ⟨zUs C,.hf _ (qE _),trivial⟩ (FL.sc _) ?_;simp[go_sem];refine qx.ownF (lo:=1) (e:=4) (sz:=1) (bt:=1) (zv:=aB false) (xs:=(tmsL ts k).map rB) (ys:=[rB (yY (mkCk ts k) ts.sT[k].body)]) zSi zSi zSi rfl rfl zOm zOm (zUs a1) (by simp[qA]) (Qq _) (Qq [_]) zSo ?_;intro a2 R J a6;obtain⟨P,rfl⟩:=nI (a6 0 zOm);have w1:=zWk k;simp[go_sem,T,a0,w1,OwnF.cells J,OwnF.one J];refine aM ?_;refine⟨a2,P,zS1 e1,zS1 e2,zS1 T,zSi,?_⟩;have e3:(tmsL ts k).map rB++[rB (yY (mkCk ts k) ts.sT[k].body)]=(tmsL ts (k+1)).map rB:=by rw[a5,zi];rfl
   rw[<-e3];exact OwnF.low (low:=[.arr [lSo ts.sS,lFl ts.sA,lPd ts.sT,lFa ts.sP,aI k,t]]) (low':=[.arr [lSo ts.sS,lFl ts.sA,lPd ts.sT,lFa ts.sP,aI (k+1),a2]]) J rfl
  .obtain rfl:k=n:=by omega
   simp_all[go_sem]
theorem ofU'(full l)(j:l.length<=3)(o:∀ x,x∈l->0<=x/\x<128):qj qg 164 [.lst full (l.map rI)] (eKd (kOf l)):=by
 have:=ofU l j o;refine⟨this.1,fun g w p t C=>this.2 g w p t ?_⟩;obtain⟨v,rfl,I⟩:=C.one_inv;exact⟨rfl,fun k x i=>by
  cases k with
  |zero=>simp at i;subst i;simpa using I.ro
  |succ k=>simp at i⟩
theorem mr(ns:Nat)(C:ns<=4)(env:List (dC×Int))(R:env.length<=1000000)(I:∀ p,p∈env->0<=p.2/\p.2<ns):qj qg 77 [lPm env] (aSc (zO env)):=by
 refine qSU call77 func77 rfl ?_;refine qm.up env.length (fun k U=>U.tm 3=aSc (zO (env.take k))/\U.tm 6=lPm env/\U.tm 7=aI env.length/\U.tm 8=aI k) ?_ ?_
 .simp [go_sem]
  rfl
 .rintro k U T ⟨o,t,e7,i⟩
  by_cases j:k=env.length
  .subst j
   simp[go_sem,o,e7,i];exact .hf _ (wI _)
  .have g:k<env.length:=by omega
   have J:zO (env.take (k+1))=(env[k].1,kOf [env[k].2]) :: zO (env.take k):=by
    unfold zO;rw[List.take_add_one,qy g,uI];rfl
   have l:=ofU' true [env[k].2] zSp (fun x hx=>by grind);have P:=zWk k;simp[go_sem,t,e7,i,g];refine fD ?_;refine t8 l (.zk (HF.lst fun r I c hc=>by grind [HF.sc]) .nil) ?_;simp[go_sem,o,t,e7,i,g,P];rw[J];rfl
theorem jd(a b:dC):(a.toList == b.toList)=decide (a=b):=by
 grind [j0,decide_eq_false]
theorem appK{xs k}(g:OwnF 0 mu 2 s (xs.map cKd))(l:xs.length<=100000)(o:∀ av mu',OwnF 0 mu' 2 av ((xs++[k]).map cKd)->K av mu') :
  qx qg mu #[226,226] s (.lst true [cKd k]) K:=by
 refine qx.ownF (lo:=0) (e:=139) (sz:=2) (bt:=16) (zv := .agg [aI 0,.sc (.map none)]) (xs:=xs.map cKd) (ys:=[cKd k]) zSi zSi zSi rfl rfl zOm zOm g (by simp[qA]) (Zn _) (Zn [k]) zSo ?_
 grind
theorem mv{xs k b c}(j:Own mu 2 s (xs.map cKd))(l:mu[b]?=some c)(o:∀ off len,s ≠ .sl b 2 off len)(J:xs.length<=100000)
  (g:∀ av mu',Own mu' 2 av ((xs++[k]).map cKd)->mu'[b]?=some c->(∀ off len,av ≠ .sl b 2 off len)->K av mu') :
  qx qg mu #[226,226] s (.lst true [cKd k]) K:=by
 have p:b<mu.length:=(ql.1 l).1;have t:=yK (Zn xs).ok;refine .inl ⟨_,_,139,2,16,[cKd k],rfl,zSi,zSi,⟨.agg [aI 0,.sc (.map none)],zSi,rfl,rfl⟩,zOm,zOm,by simp[qA],Zn [k],?_⟩;rcases j with rfl|⟨i,rfl,C⟩
 .refine .inl ⟨xs.map cKd,rfl,Zn xs,zSo,fun h=>by simp at h,fun _=>?_⟩
  refine g _ _ (.inr ⟨mu.length,zSp,zSp⟩) (by grind) (fun off len e=>?_)
  grind
 .refine .inr ⟨i,xs.length,_,zSp,C,by grind,zSo,?_⟩
  have I:i≠b:=fun e=>o 0 _ (by rw[e])
  refine g _ _ (.inr ⟨mu.length,zSp,?_⟩) (by grind) (fun off len e=>?_)
  .grind
  grind
theorem Vb{sz}(h:Own mu sz s xs)(c):Own (mu++[c]) sz s xs:=by
 rcases h with rfl|⟨b,rfl,g⟩
 .exact .inl rfl
 .exact .inr ⟨b,rfl,by grind⟩
theorem qj1{sz}(h:Own mu sz s xs):∀ off len,s ≠ .sl mu.length sz off len:=by
 intro off len e;rcases h with rfl|⟨b,rfl,g⟩
 .cases e
 grind
theorem qj2{fs:List Fld}{k}(g nm):z7 (fs.take (k+1)) nm=z7 (fs.take k) nm++(if fs[k].name=nm then [kOf fs[k].sS] else []):=by
 unfold z7;rw[List.take_add_one,qy g,List.filterMap_append];congr 1;simp only[Option.toList_some,List.filterMap_cons,List.filterMap_nil];split<;>rename_i h<;>split at h<;>simp_all
theorem mw(fs nm):(z7 fs nm).length<=fs.length:=List.length_filterMap_le ..
theorem my:∀{so:List (dC×Bool)}{i k}(g nm),yr i (so.take (k+1)) nm=yr i (so.take k) nm++vO (i+k) so[k] nm
 | [],_,_,h,_=>by simp at h
 |s :: so,i,0,_,nm=>by simp[yr]
 |s :: so,i,k+1,h,nm=>by
  have:=my (so:=so) (i:=i+1) (k:=k) (zUs h) nm;simp only[List.take_succ_cons,yr,List.getElem_cons_succ]at this⊢;rw[this,zL,show i+1+k=i+(k+1) by omega]
theorem qj3(i s nm):(vO i s nm).length<=3:=by
 grind [vO,zj,kOf,yP,jq]
theorem mz:∀ so i nm,(yr i so nm).length<=3*so.length
 | [],_,_=>by simp[yr]
 |s :: so,i,nm=>by
  have:=mz so (i+1) nm;have:=qj3 i s nm;simp only[yr,zj,yy];omega
theorem qj4(ts)(h:okTS ts)(nm):qj qg 220 [eTS ts,aS nm] (.lst false ((zS ts nm).map cKd)):=by
  refine qSV call220 func220 rfl ?_;have ar:=h.nf;have au:=h.ns;simp[go_sem];refine aP ts.sA.length (fun k U=>U.tm 1=aS nm/\U.tm 2 = .ip (cTS ts)/\U.tm 11=lFl ts.sA/\U.tm 12=aI ts.sA.length/\U.tm 13=aI k/\OwnF 0 U.mu 2 (U.tm 5) ((z7 (ts.sA.take k) nm).map cKd)) ?_ ?_
  · exact⟨zSi,zSi,zSi,zSi,zSi,by simp[go_sem];exact OwnF.nil (wh _)⟩
  · rintro k U hk ⟨C,e2,J,o,P,T⟩
    by_cases he:k=ts.sA.length
    · subst he
      rw[za]at T;simp[go_sem,e2,o,P];have a5:=mw ts.sA nm;refine aP ts.sS.length (fun k U=>U.tm 1=aS nm/\U.tm 29=lSo ts.sS/\U.tm 30=aI ts.sS.length/\U.tm 31=aI k/\Own U.mu 2 (U.tm 5) ((z7 ts.sA nm++yr 0 (ts.sS.take k) nm).map cKd)) ?_ ?_
      · exact⟨zS1 C,zSi,zSi,zSi,by simp[go_sem,yr];simpa using T.1⟩
      · rintro k U hk ⟨C,a6,a2,a0,T⟩
        by_cases he:k=ts.sS.length
        · subst he
          rw[za]at T;simp[go_sem,a2,a0];exact T.rd (Zn _).ok (fun r hr c hc=>by
            obtain⟨x,_,rfl⟩:=qp.1 hr;simp at hc;rcases hc with rfl|rfl
            · exact HF.sc _
            · exact JW _)
        · have g:k<ts.sS.length:=by omega
          have w1:=zWk k;have aw:=mz (ts.sS.take k) 0 nm;have ax:(ts.sS.take k).length<=4:=zSo;have a7:=ofU' true [(k:Int)] zSp (fun x hx=>by grind);have a8:=ofU' true [(k:Int),(k:Int)] zSp (fun x hx=>by grind);have ag:HF (.lst true [rI k]):=HF.lst fun r hr c hc=>by grind [HF.sc]
          have ah:HF (.lst true [rI k,rI k]):=HF.lst fun r hr c hc=>by grind [HF.sc]
          have a1:=my (i:=0) g nm;rw[yJ]at a1;have ay:=h.sl _ (qv g);generalize ai:ts.sS[k]=so at *
          obtain⟨l,sb⟩:=so;have az:(z7 ts.sA nm++yr 0 (ts.sS.take k) nm).length<=18:=by grind
          have b0:∀ x:Kd,((z7 ts.sA nm++yr 0 (ts.sS.take k) nm)++[x]).length<=19:=fun x=>by grind
          have b1:∀ x y:Kd,(((z7 ts.sA nm++yr 0 (ts.sS.take k) nm)++[x])++[y]).length<=20:=fun x y=>by grind
          generalize hX:z7 ts.sA nm++yr 0 (ts.sS.take k) nm=X at *
          have j:∀(s:AV)(I:Mu)(Y:List Kd),Y=X++vO k (l,sb) nm->Own I 2 s (Y.map cKd)->Own I 2 s ((z7 ts.sA nm++yr 0 (ts.sS.take (k+1)) nm).map cKd):=by
            grind
          have b2:∀ b:dC,l++yP=b->(l++yP).toList == b.toList:=fun b h=>by rw[h];simp
          have a3:=fun c=>Vb T c
          have aq:=qj1 T;have aj:(l++yP=nm)=(l++(⟨#[95,102,105,114,115,116]⟩:dC)=nm):=rfl;have ak:(l++jq=nm)=(l++(⟨#[95,110,101,120,116]⟩:dC)=nm):=rfl;simp only[vO,aj,ak]at j;have a9:l.size<=9223372036854775801:=by grind
          have aa:l.size<=9223372036854775802:=zOm;simp only[zi]at j;obtain⟨d1,al⟩:∃ d,decide (l=nm)=d:=⟨_,rfl⟩;obtain⟨d2,ab⟩:∃ d,decide (l++(⟨#[95,102,105,114,115,116]⟩:dC)=nm)=d:=⟨_,rfl⟩;obtain⟨d3,ad⟩:∃ d,decide (l++(⟨#[95,110,101,120,116]⟩:dC)=nm)=d:=⟨_,rfl⟩;have p1:(l=nm)=(d1=true):=by grind
          have p2:(l++(⟨#[95,102,105,114,115,116]⟩:dC)=nm)=(d2=true):=by grind
          have p3:(l++(⟨#[95,110,101,120,116]⟩:dC)=nm)=(d3=true):=by grind
          simp only[p1,p2,p3]at j;cases d1<;>cases d2<;>cases d3<;>cases sb
          all_goals simp only[if_true,if_false,ye,List.nil_append,and_false,and_true,reduceCtorEq]at j
          all_goals simp[go_sem,jd,C,a6,a2,a0,g,ai,al,ab,ad,w1,a9,aa]
          all_goals repeat' (first
            | (refine t8 a7 (.zk ag .nil) ?_
               simp[go_sem];refine mv (b:=U.mu.length) (by first|exact a3 _|assumption) (by first|assumption|exact List.getElem?_concat_length) (by assumption) (by first | (simp only[zj,List.length_singleton];omega)|omega) ?_;rintro t R a4 ae an;simp[go_sem,jd,C,a0,g,ab,ad,w1,a9,aa,ae])
            | (refine t8 a8 (.zk ah .nil) ?_
               simp[go_sem];refine mv (b:=U.mu.length) (by first|exact a3 _|assumption) (by first|assumption|exact List.getElem?_concat_length) (by assumption) (by first | (simp only[zj,List.length_singleton];omega)|omega) ?_;rintro t R a4 ae an;simp[go_sem,a0,g,w1]))
          all_goals
            refine aM ?_;refine⟨zS1 C,zS1 a6,zS1 a2,zSi,?_⟩;simp only[nq,qK];simp;refine j _ _ _ ?_ (by first|assumption|exact a3 _);simp
    · have g:k<ts.sA.length:=by omega
      have af:=h.fl _ (qv g);have w1:=zWk k;have ao:=ofU' false ts.sA[k].sS af.2.1 (fun x hx=>zW1 (af.2.2 x hx));have a1:=qj2 g nm;have a5:=mw (ts.sA.take k) nm;by_cases hn:ts.sA[k].name=nm
      · simp[go_sem,C,J,o,P,g,hn]
        refine fW ao (.zk (zy _) .nil) ?_;refine appK (xs:=z7 (ts.sA.take k) nm) (XF T (MuLe.push _ _)) (by simp at a5⊢;omega) ?_;intro t R a4;simp[go_sem,P,g,w1];refine aM ?_;refine⟨zS1 C,zS1 e2,zS1 J,zS1 o,zSi,?_⟩;rw[a1,if_pos hn];simpa[go_sem] using a4
      · simp[go_sem,C,J,o,P,g,j0 hn,w1]
        refine aM ?_;refine⟨zS1 C,zS1 e2,zS1 J,zS1 o,zSi,?_⟩;rw[a1,if_neg hn,ye];simpa[go_sem] using XF T (MuLe.push _ _)
end
end Y10
namespace Y11
open Y1 Y2 Y3 P1 Y7 YS YF Y9 Y10
def cKo:Option Kd->List AV
 |some k=>cKd k
 |none=>[aI 0,.sc (.map none)]
@[go_sem] theorem cKo_some(k):cKo (some k)=cKd k:=rfl
@[go_sem] theorem cKo_none:cKo none=[aI 0,.sc (.map none)]:=rfl
theorem mA(k):∀ c,c∈cKo k->HF c:=by
 intro c g;cases k with
 |none=>simp[cKo]at g;rcases g with rfl|rfl<;>exact HF.sc _
 |some k=>simp[cKo]at g;rcases g with rfl|rfl;exact HF.sc _;exact JW _
theorem qj5(k):HF (.agg (cKo k)):=HF.agg (mA k)
theorem XG(k):(cKo k).length=2/\(cKo k).all AV.one=true:=by cases k<;>exact⟨rfl,rfl⟩
def endK:Res->AEnd
 | .ok k => .ret (.agg (cKo k))
 | .error e => .pan (vM e.1 e.2)
@[go_sem] theorem endK_ok(k):endK (.ok k) = .ret (.agg (cKo k)):=rfl
@[go_sem] theorem qwA(e):endK (.error e) = .pan (vM e.1 e.2):=rfl
theorem wO(c)(g:okCk c)(s:Scp)(n):qR qg 161 [eCk c,aSc s,eNd n] (endK (yQ c s n.name n.pos)):=by
 refine zd.of_sound ?_;refine qSW call161 func161 rfl {} ?_;simp[go_sem];refine t8 (findU s n.name) (.zk (wI s) (.zs .nil)) ?_;unfold yQ;cases hf:zK n.name s with
 |cons v r =>
  simp[go_sem,aSc];exact .hf _ (yg v.2)
 |nil =>
  simp[go_sem,aSc];refine fD ?_;refine t8 (qj4 c.ts g.ts n.name) (.zk (zB c.ts) (.zs .nil)) ?_;have i:=yp;cases j:zS c.ts n.name with
  |nil =>
   simp[go_sem];refine aC (yp false 40 n) (.zs (.zs (.zk (qE n) .nil))) ?_;simp[go_sem];exact .hf _ (yO _ _)
  |cons k ks =>
   simp[go_sem];refine t8 (yp true 40 n).toP (.zs (.zs (.zk (qE n) .nil))) ?_;cases ks with
   |nil =>
    simp[go_sem];refine fW (yp true 44 n).toP (.zs (.zs (.zk (qE n) .nil))) ?_;exact .hf _ (yg k)
   |cons l ks =>
    simp[go_sem];refine aC (yp false 44 n) (.zs (.zs (.zk (qE n) .nil))) ?_;simp[go_sem];exact .hf _ (yO _ _)
theorem qj6(k g)(I:1<=g)(U:g<=3):kSum (zA k g) (kOf (qM g (k:Int)))=zA (k+1) g:=by
 have o:∀ k,((qu k).map fun (i:Nat)=>pad (qM g (i:Int))).Nodup:=by
  intro k;refine List.pairwise_map.2 ((List.pairwise_iff_getElem.2 fun i j hi hj J=>?_));simp only[List.getElem_range];obtain⟨a,rfl⟩:∃ a,g=a+1:=⟨g-1,zOm⟩;intro e;simp[pad,List.replicate_succ]at e;omega
 have P:∀ l:List Tp,l.Nodup->uni [] l=l:=by
  intro l R;have:∀(b a:List Tp),(a++b).Nodup->uni a b=a++b:=by
   intro b;induction b with
   |nil=>intro a _;simp[uni]
   |cons x b T =>
    intro a h;have p:x ∉ a:=fun t=>(ZE.1 h).2.2 x t x zSp rfl
    show uni (ins a x) b=_;rw[show ins a x=a++[x] by unfold ins;rw[if_neg p],T (a++[x]) (zUs h)];simp
  simpa using this l [] (zUs R)
 unfold kSum zA kOf;simp only;rw[P _ (o k)];have C:=o (k+1);rw[List.range_succ,zi,List.map_singleton]at C⊢;have p:pad (qM g (k:Int)) ∉ (qu k).map fun (i:Nat)=>pad (qM g (i:Int)):=fun t=>(ZE.1 C).2.2 _ t _ zSp rfl
 congr 1;show ins _ _=_;unfold ins;rw[if_neg p]
theorem XH(c)(I:okCk c)(g:Nat)(h1:1<=g)(h3:g<=3):qj qg 224 [eCk c,aI g] (eKd (zA c.ts.sS.length g)):=by
 refine qSV call224 func224 rfl ?_;have a0:=I.ts.ns;simp[go_sem];refine fW (nD g) (.zs .nil) ?_;refine qm.up c.ts.sS.length (fun k U=>U.tm 1=aI g/\U.tm 4 = .ptr 0 0/\U.tm 5 = .ptr 1 0/\U.tm 13=lSo c.ts.sS/\U.tm 14=aI c.ts.sS.length/\U.tm 15=aI k/\U.mu=[.arr [aI 0,.sc (.map none)],.arr (cKd (zA k g))]) ?_ ?_
 .simp [go_sem,zA]
 .rintro k U hk ⟨e1,e4,P,R,l,o,hm⟩
  by_cases he:k=c.ts.sS.length
  .subst he
   simp[go_sem,e4,P,l,o,hm];exact .hf _ (yg _)
  .have p:k<c.ts.sS.length:=by omega
   have w1:=zWk k;have J:=qjP k g zOm;have T:=ofU' false (qM g (k:Int)) (zUs h3) (fun x hx=>by rw[List.eq_of_mem_replicate hx];omega);have C:=sumU true (zA k g) (kOf (qM g (k:Int))) (fun t j=>by
    have j:t∈(qu k).map fun (i:Nat)=>pad (qM g (i:Int)):=j
    obtain⟨i,_,rfl⟩:=qp.1 j;rfl) (fun t j=>by
    have j:t∈[pad (qM g (k:Int))]:=j;simp at j;subst j;rfl)
   rw[qj6 k g h1 h3]at C;simp[go_sem,l,o,hm,p];refine tJ zKr ?_;simp[go_sem,e1,P];refine fW J (.cons (WK.lst fun r J c I=>by simp at J;subst J;simp at I;subst I;exact HF.sc _) (.zs .nil)) ?_;refine fW T (.zk (zy _) .nil) ?_;refine t8 C (.zk (yg _) (.zk (J1 _ [_]) .nil)) ?_;simp[go_sem,e1,e4,P,R,l,o,p,w1]
end Y11
namespace Y12
open Y1 Y2 Y3 P1 YM Y5 Y6 Y7 Y8 Y9 Y11
def trF(t:Tp):Tp:=[t.getD 1 0,t.getD 0 0,0]
theorem mB{a:List Tp}{t}:t∈uni [] (a.map fun t=>[t.getD 1 0,t.getD 0 0,0])↔∃ x,x∈a/\trF x=t:=by
 rw[um];simp[trF]
theorem qj7(ns)(h:ns<=4):ok2 (zA ns 2):=by
 have g:((qu ns).map fun (i:Nat)=>pad (qM 2 (i:Int))).Nodup:=by
  refine List.pairwise_map.2 (List.pairwise_iff_getElem.2 fun i j o C p=>?_);simp only[List.getElem_range];intro e;simp[pad,List.replicate_succ]at e;omega
 refine⟨rfl,g,fun t l=>?_⟩;have l:t∈(qu ns).map fun (i:Nat)=>pad (qM 2 (i:Int)):=l
 obtain⟨i,o,rfl⟩:=qp.1 l;rw[zW]at o;exact⟨i,i,rfl,zOm,zOm,zOm,zOm⟩
theorem qj8{a}(h:ok2 a):ok2 (kClo a):=by
 have:∀(f n:Nat)(a:Kd),ok2 a->ok2 (cloN f n a):=by
  intro f;induction f with
  |zero=>intro n a h;exact h
  |succ f g =>
   intro n a h;unfold cloN;split
   .exact g _ _ (h.sum h.join)
   .exact h
 exact this 70 0 a h
theorem qj9(c)(hc:okCk c)(op a)(R:ok2 a)(a0:op=11\/op=12\/op=13):qj qg 228 [eCk c,aI op,eKd a] (eKd (binK c.ts.sS.length op a)):=by
 refine qSV call228 func228 rfl ?_;have C:=hc.ts.ns;unfold binK;rcases a0 with rfl|rfl|rfl
 .simp [go_sem]
  refine aA (J0 _ _) ?_ (by rintro r m ⟨e,_⟩;cases e);rintro r m ⟨e,c,rfl⟩;cases e;simp[go_sem];refine qm.seen a.ts.length (fun seen U=>U.tm 5 = .ip (cKd a)/\U.tm 6 = .ptr 0 0/\U.tm 7 = .ptr 3 0/\U.tm 25 = .ptr 4 0 /\
   ColS 2 (.arr [aI 0,.sc (.map none)]) c (.it (eT a.ts) seen) (fun t=>∃ x,(∃ i,i∈seen/\a.ts[i]?=some x)/\trF x=t) U.mu) ?_ ?_
  .exact ⟨zSi,zSi,zSi,zSi,[],rfl,rfl,rfl,rfl,rfl,zSp,zSp,zSp⟩
  .rintro seen U a5 a6 ⟨e5,e6,e7,I,l,k0,k1,k2,k3,k4,h1,h2,h3⟩
   simp[go_sem,I];refine⟨4,eT a.ts,seen,rfl,k4,fun i e hi C=>?_,fun p=>?_⟩
   .obtain ⟨x,hx,rfl⟩:=Zj hi
    have a1:okT x:=R.okK.len x (q8 hx);have a2:i<a.ts.length:=(ql.1 hx).1;have a3:x.length=3:=a1;have o:4<U.mu.length:=(ql.1 k4).1;have g:∀(c:Cell)(l:List Cell)(j:Nat),j<4->((U.mu.set 4 c)++l)[j]?=U.mu[j]?:=fun c l j hj=>by
     rw[qL zSo,zGl]
    have q2:=fun c l=>(g c l 2 zOm).trans k2
    have q3:=fun c l=>(g c l 3 zOm).trans k3
    obtain⟨J,P,T,rfl⟩:∃ J P T,x=[J,P,T]:=by
     match x,a3 with
     | [J,P,T],_=>exact⟨_,_,_,rfl⟩
    simp[go_sem,e7,I,hi,o,q3];refine t7 _ (updT (t:=[P,J,0]) (q2 _ _) rfl h2) ?_;simp[go_sem];refine⟨i,a2,C,zS1 e5,zS1 e6,by simp[go_sem,e7],zS1 I,ins l [P,J,0],?_,?_,?_,?_,?_,Yw h1,fun t ht=>?_,fun t=>?_⟩
    .simp only[qK]
     rw[zGl,g _ _ 0 zOm,k0]
    .simp only[qK]
     rw[zGl,g _ _ 1 zOm,k1]
    .simp only[qK]
     rw[qJ zSo]
    .simp only[qK]
     rw[zGl,g _ _ 3 zOm,k3]
    .simp only[qK]
     rw[zGl,qL (zUs o),qJ o]
    .rcases uS.1 ht with h|rfl
     .exact h2 t h
     .rfl
    .simp only[uS,h3,Xu hx]
     constructor
     .rintro (⟨y,h,e⟩|rfl)
      .exact ⟨y,.inl h,e⟩
      .exact ⟨[J,P,T],.inr rfl,rfl⟩
     .rintro ⟨y,h|rfl,e⟩
      .exact .inl ⟨y,h,e⟩
      .exact .inr e.symm
   .obtain ⟨a4,hm⟩:=four k0 k1 k2 k3
    simp[go_sem,e6,e7,hm];refine Rd.aggs ⟨.hf _ (HF.sc _),Rd.setT (k:=(kTr a).ts) rfl h1 (wJ zSp) (fun t=>?_),trivial⟩;refine(h3 t).trans (Iff.trans ?_ mB.symm);constructor
    .rintro ⟨y,h,e⟩;exact⟨y,(Xv (zUs p)).1 h,e⟩
    .rintro ⟨y,h,e⟩;exact⟨y,(Xv (zUs p)).2 h,e⟩
 .simp [go_sem]
  refine fW (Uy a R) (.zk (yg _) .nil) ?_;exact .hf _ (yg _)
 .simp [go_sem]
  refine fW (Uy a R) (.zk (yg _) .nil) ?_;refine fW (XH c hc 2 zOm zOm) (.zk (jr _) (.zs .nil)) ?_;refine fW (sumU true (kClo a) (zA c.ts.sS.length 2) (qj8 R).okK.len (qj7 _ C).okK.len) (.zk (yg _) (.zk (J1 _ [_]) .nil)) ?_;exact .hf _ (yg _)
theorem hfK2(n)(ts:List Tp):HF (.agg [aI n,mKd ts]):=yg ⟨n,ts⟩
theorem hfKn:HF (.agg [aI 0,.sc (.map none)]):=qj5 none
theorem wkR(n b e):WKs [aB b,aI e,eNd n] [aB b,aI e,eNd n] := .zs (.zs (.zk (qE n) .nil))
structure ApOk (op:Int) (l:List (Option Kd)):Prop where
 one:op=5->∃ a,l=[a]
 bin:op=11\/op=12\/op=13->∃ a,l=[some a]/\okK a/\(a.ar=2->ok2 a)
 two:op=6\/op=14\/op=7\/op=8\/op=32\/op=33\/op=9\/op=10->∃ a b,l=[some a,some b]/\okK a/\okK b
theorem XI{ns op n pos l}(i:op≠2)(j:op≠3)(o:op≠4)(p:op≠5)(t:op≠11)(C:op≠12)(I:op≠13)(t1:op≠6)(t2:op≠14)(t3:op≠7)(t4:op≠8)(t5:op≠32)(t6:op≠33)(J:op≠9)(g:op≠10):zE ns op n pos l = .ok none:=by
 unfold zE;rw[if_neg i,if_neg j,if_neg o];split
 .simp only[p,t,C,I,or_self,if_false]
  split<;>rfl
 .simp only[t1,t2,t3,t4,t5,t6,J,g,or_self,if_false]
 .rfl
theorem qkA(c)(hc:okCk c)(full n l)(R:ApOk n.op l):qR qg 163 [eCk c,eNd n,.lst full (l.map cKo)] (endK (zE c.ts.sS.length n.op n.n n.pos l)):=by
 refine zd.of_sound ?_;refine qSW call163 func163 rfl {} ?_;by_cases ho:n.op=2\/n.op=3\/n.op=4\/n.op=5\/n.op=11\/n.op=12\/n.op=13\/n.op=6\/n.op=14\/n.op=7\/n.op=8\/n.op=32\/n.op=33\/n.op=9\/n.op=10
 case neg =>
  simp only[not_or]at ho;obtain⟨U,h3,h4,I,b1,b2,b3,t1,t2,t3,t4,t5,t6,h9,p⟩:=ho;rw[XI U h3 h4 I b1 b2 b3 t1 t2 t3 t4 t5 t6 h9 p];simp[go_sem,U,h3,h4,I,b1,b2,b3,t1,t2,t3,t4,t5,t6,h9,p];exact .hf _ hfKn
 unfold zE;by_cases U:n.op=2
 .simp [go_sem,U]
  refine fW (nD n.n) (.zs .nil) ?_;exact .hf _ (hfK2 _ _)
 by_cases h3:n.op=3
 .simp [go_sem,h3]
  refine fW (XH c hc 1 zOm zOm) (.zk (jr _) (.zs .nil)) ?_;exact .hf _ (yg _)
 by_cases h4:n.op=4
 .simp [go_sem,h4]
  refine fW (XH c hc 2 zOm zOm) (.zk (jr _) (.zs .nil)) ?_;exact .hf _ (yg _)
 by_cases I:n.op=5
 .obtain ⟨a,rfl⟩:=R.one I
  cases a with
  |none=>simp[go_sem,I];exact .hf _ hfKn
  |some a=>simp[go_sem,I];exact .hf _ (hfK2 _ _)
 by_cases J:n.op=11\/n.op=12\/n.op=13
 .obtain ⟨a,rfl,o,a0⟩:=R.bin J
  have t:=fun h=>qj9 c hc n.op a (a0 h) J
  by_cases i:a.ar=2
  .have t:=t i
   rcases J with h|h|h<;>rw[h]at t
   all_goals
    simp[go_sem,h,i];refine tJ zKr ?_;simp[go_sem,i];refine fW (yp true 42 n).toP (wkR n true 42) ?_;refine tJ zKr ?_;simp[go_sem,h];refine fW t (.zk (jr _) (.zs (.zk (yg _) .nil))) ?_;exact .hf _ (yg _)
  .rcases J with h|h|h
   all_goals
    simp[go_sem,h,i];refine qk.tail 6 zKr ?_;simp[go_sem,i];refine aC (yp false 42 n) (wkR n false 42) ?_;simp[go_sem];exact .hf _ (yO _ _)
 by_cases ht:n.op=6\/n.op=14\/n.op=7\/n.op=8\/n.op=32\/n.op=33
 .obtain ⟨a,b,rfl,o,g⟩:=R.two zOm
  have T:=qjJ n.op a b o g;simp only[not_or]at J;by_cases i:a.ar=b.ar
  .rcases ht with h|h|h|h|h|h<;>rw[h]at T
   all_goals
    simp[go_sem,h,i];refine tJ zKr ?_;simp[go_sem,i];refine fW (yp true 42 n).toP (wkR n true 42) ?_;refine tJ zKr ?_;simp[go_sem,h];refine fW T (.zs (.zk (yg _) (.zk (yg _) .nil))) ?_;exact .hf _ (yg _)
  .rcases ht with h|h|h|h|h|h
   all_goals
    simp[go_sem,h,i];refine qk.tail 10 zKr ?_;simp[go_sem,i];refine aC (yp false 42 n) (wkR n false 42) ?_;simp[go_sem];exact .hf _ (yO _ _)
 simp only[not_or]at J ht;by_cases h9:n.op=9
 .obtain ⟨a,b,rfl,o,g⟩:=R.two zOm
  have hj:=uU a b o g;have P:qo.wrap (a.ar+b.ar)=a.ar+b.ar:=yh (zW2 o.ar g.ar) (zW2 o.ar g.ar);have w2:qo.wrap (a.ar+b.ar-2)=a.ar+b.ar-2:=yh (zW2 o.ar g.ar) (zW2 o.ar g.ar);simp[go_sem,h9];refine tJ zKr ?_;by_cases C:1<=a.ar+b.ar-2
  .by_cases j:a.ar+b.ar-2<=3
   .simp [go_sem,P,w2,C,j]
    refine fW (yp true 42 n).toP (wkR n true 42) ?_;refine fD ?_;refine fW hj (.zk (yg _) (.zk (yg _) .nil)) ?_;exact .hf _ (yg _)
   .simp [go_sem,P,w2,C,j]
    refine aC (yp false 42 n) (wkR n false 42) ?_;simp[go_sem];exact .hf _ (yO _ _)
  .simp [go_sem,P,w2,C]
   refine aC (yp false 42 n) (wkR n false 42) ?_;simp[go_sem];exact .hf _ (yO _ _)
 by_cases p:n.op=10
 .obtain ⟨a,b,rfl,o,g⟩:=R.two zOm
  have P:qo.wrap (a.ar+b.ar)=a.ar+b.ar:=yh (zW2 o.ar g.ar) (zW2 o.ar g.ar);by_cases j:a.ar+b.ar<=3
  .have hj:=Ux a b o g j
   simp[go_sem,p];refine tJ zKr ?_;simp[go_sem,P,j];refine fW (yp true 42 n).toP (wkR n true 42) ?_;refine fD ?_;refine fW hj (.zk (yg _) (.zk (yg _) .nil)) ?_;exact .hf _ (yg _)
  .simp [go_sem,p]
   refine qk.tail 11 zKr ?_;simp[go_sem,P,j];refine aC (yp false 42 n) (wkR n false 42) ?_;simp[go_sem];exact .hf _ (yO _ _)
 exact absurd ho zOm
end Y12
namespace P2
open Y1 Y2 Y3 P1 Y6 Y8 Y9 Y12
section
variable {a b k:Kd}{l:List Int}{ns:Nat}
def kd(op:Int):Int:=if 1<=op/\op<=15 then 101 else if 20<=op/\op<=23 then 105 else if 30<=op/\op<=51 then 102 else 0
def shp(op:Int)(nk:Nat):Option (List Int):=
 if op=1\/op=2\/op=3\/op=4\/op=20\/op=30\/op=31 then some []
 else if op=5\/op=11\/op=12\/op=13\/op=21\/op=34\/op=35\/op=36\/op=37 then some [101]
 else if op=6\/op=7\/op=8\/op=9\/op=10\/op=14\/op=32\/op=33 then some [101,101]
 else if op=15\/op=45\/op=46 then some [101,102]
 else if op=22\/op=23\/op=38\/op=39 then some [105,105]
 else if op=40\/op=48\/op=49\/op=50 then some [102]
 else if op=41\/op=42\/op=43\/op=44\/op=51 then some [102,102]
 else if op=47 then some (qM (min nk 401) 101)
 else none
inductive WfN:Nd->Prop where
 |mk (n:Nd) (h:shp n.op n.sD.length=some (n.sD.map fun k=>kd k.op)) (hn:n.op=2->1<=n.n/\n.n<=3) (hk:∀ k,k∈n.sD->WfN k):WfN n
theorem WfN.shape{n}(h:WfN n):shp n.op n.sD.length=some (n.sD.map fun k=>kd k.op):=by cases h;assumption
theorem WfN.num{n}(h:WfN n):n.op=2->1<=n.n/\n.n<=3:=by cases h;assumption
theorem WfN.kid{n k}(h:WfN n)(g:k∈n.sD):WfN k:=by
 cases h with
 |mk _ _ _ h=>exact h k g
theorem mC{op nk}(h:shp op nk=some l):l.length<=401:=by
 grind [shp]
theorem WfN.len{n}(h:WfN n):n.sD.length<=401:=by
 have:=mC h.shape;simpa using this
theorem WfN.small{n}(h:WfN n):Small n:=by
 induction h with
 |mk n g j l i=>exact .mk n (by have:=mC g;simp at this;omega) i
structure okKd (ns:Nat) (k:Kd):Prop where
 ar:1<=k.ar/\k.ar<=3
 nd:k.ts.Nodup
 ts:∀ t,t∈k.ts->∃ l,t=pad l/\(l.length:Int)=k.ar/\∀ x,x∈l->0<=x/\x<ns
theorem okKd.okK(h:okKd ns k):okK k:=⟨h.ar,fun t g=>by obtain⟨l,rfl,_⟩:=h.ts t g;rfl,h.nd⟩
theorem okKd.ok2(h:okKd ns k)(o:ns<=4)(g:k.ar=2):ok2 k:=⟨g,h.nd,fun t p=>by
 obtain⟨l,rfl,i,j⟩:=h.ts t p;rw[g]at i
 match l,i with
 | [x,y],_ =>
  have C:=j x zSp;have g:=j y zSp;exact⟨x,y,rfl,zOm,zOm,zOm,zOm⟩⟩
theorem aX(i:k.ar=2)(g:k.ts.Nodup)(h:∀ t,t∈k.ts->∃ x y,t=[x,y,0]/\0<=x/\x<ns/\0<=y/\y<ns):okKd ns k:=⟨zOm,g,fun t j=>by
 obtain⟨x,y,rfl,o,p,C,I⟩:=h t j;exact⟨[x,y],rfl,by rw[i];rfl,fun z l=>by simp at l;omega⟩⟩
theorem okKd.pairs(h:okKd ns k)(g:k.ar=2):∀ t,t∈k.ts->∃ x y,t=[x,y,0]/\0<=x/\x<ns/\0<=y/\y<ns:=fun t p=>by
 obtain⟨l,rfl,i,j⟩:=h.ts t p;rw[g]at i
 match l,i with
 | [x,y],_ =>
  have o:=j x zSp;have g:=j y zSp;exact⟨x,y,rfl,o.1,o.2,g.1,g.2⟩
theorem XJ(j:1<=l.length)(o:l.length<=3)(i:∀ x,x∈l->0<=x/\x<ns):okKd ns (kOf l):=
 ⟨by grind [kOf],by simp[kOf],fun t g=>by
  have g:t∈[pad l]:=g;rw[qX]at g;exact⟨l,g,rfl,i⟩⟩
theorem qkB{n}(h:1<=n/\n<=3):okKd ns ⟨n,[]⟩:=⟨h,zSp,fun t g=>by simp at g⟩
theorem XK(ns g)(I:1<=g)(J:g<=3):okKd ns (zA ns g):=by
 refine⟨by grind [zA],?_,fun t l=>?_⟩
 .refine List.pairwise_map.2 ((List.pairwise_iff_getElem.2 fun i j o P p=>?_))
  simp only[List.getElem_range];obtain⟨a,rfl⟩:∃ a,g=a+1:=⟨g-1,zOm⟩
  grind [pad]
 .have l:t∈(qu ns).map fun (i:Nat)=>pad (qM g (i:Int)):=l
  obtain⟨i,o,rfl⟩:=qp.1 l;rw[zW]at o;exact⟨_,rfl,by simp[zA],fun x C=>by rw[List.eq_of_mem_replicate C];omega⟩
theorem Vc(i:okKd ns a)(j:okKd ns b)(h:a.ar=b.ar):okKd ns (kSum a b):=by
 refine⟨i.ar,wJ (wJ zSp),fun t g=>?_⟩;have g:t∈uni (uni [] a.ts) b.ts:=g;simp only[um,List.not_mem_nil,false_or]at g;rcases g with g|g
 .exact i.ts t g
 .obtain ⟨l,e,o,p⟩:=j.ts t g
  exact⟨l,e,by rw[o,<-h];rfl,p⟩
theorem qkC(g:okKd ns a):okKd ns (JY a b):=
 ⟨g.ar,g.nd.filter _,fun t i=>g.ts t (jg.1 i).1⟩
theorem qkD{op}(g:okKd ns a)(i:okKd ns b)(h:a.ar=b.ar):okKd ns (un op a b):=by
 grind [un,Vc,qkC]
theorem ZY(h:l.length<=3)(k)(g:k<=l.length):(pad l).take k=l.take k:=by
 match l,h with
 | [],_=>grind
 | [a],_=>match k,g with
  | 0,_=>rfl
  | 1,_=>rfl
 | [a,b],_=>match k,g with
  | 0,_=>rfl
  | 1,_=>rfl
  | 2,_=>rfl
 | [a,b,c],_=>match k,g with
  | 0,_=>rfl
  | 1,_=>rfl
  | 2,_=>rfl
  | 3,_=>rfl
theorem Vd{g i}(j:g.length<=3)(l:i.length<=3)(s):conc (pad g) g.length (pad i) i.length s=pad (g.take (g.length-s)++i.drop s):=by
 simp_all[conc,ZY,qn,za]
theorem Ve(i:okKd ns a)(j:okKd ns b)(o:1<=a.ar+b.ar-2)(p:a.ar+b.ar-2<=3):okKd ns (zM a b):=by
 refine⟨⟨o,p⟩,Xt,fun t C=>?_⟩;obtain⟨x,y,⟨I,J⟩,hf⟩:=Zm.1 C;obtain⟨g,rfl,P,R⟩:=i.ts x I;obtain⟨l,rfl,T,U⟩:=j.ts y J;have a0:=i.ar;have a1:=j.ar;unfold ZU at hf;split at hf
 .simp only[qs]at hf
  rw[show a.ar.toNat=g.length by omega,show b.ar.toNat=l.length by omega,Vd zOm zOm]at hf;refine⟨_,hf.symm,?_,fun z hz=>?_⟩
  .show ((g.take (g.length-1)++l.drop 1).length:Int)=a.ar+b.ar-2
   simp only[zj,ub,List.length_drop];omega
  grind
 grind
theorem qkE(i:okKd ns a)(j:okKd ns b)(o:a.ar+b.ar<=3):okKd ns (Zi a b):=by
 have p:=i.ar;have C:=j.ar;refine⟨⟨by grind [Zi],o⟩,nN,fun t I=>?_⟩;obtain⟨x,y,⟨J,P⟩,hf⟩:=Uw.1 I;obtain⟨g,rfl,R,T⟩:=i.ts x J;obtain⟨l,rfl,U,a0⟩:=j.ts y P;unfold Ql at hf;simp only[qs]at hf;rw[show a.ar.toNat=g.length by omega,show b.ar.toNat=l.length by omega,Vd zOm zOm]at hf;refine⟨_,hf.symm,?_,fun z hz=>?_⟩
 .show ((g.take (g.length-0)++l.drop 0).length:Int)=a.ar+b.ar
  simp only[zj,ub,List.length_drop];omega
 grind
theorem qkF(g:okKd ns a)(i:a.ar=2):okKd ns (kTr a):=by
 refine aX rfl (wJ zSp) (fun t j=>?_);obtain⟨x,l,rfl⟩:=mB.1 j;obtain⟨p,q,rfl,o,C,I,J⟩:=g.pairs i x l;exact⟨q,p,rfl,I,J,o,C⟩
theorem YK(i:okKd ns a)(g:a.ar=2):okKd ns (kClo a)/\(kClo a).ar=2:=by
 have:∀(f n:Nat)(a:Kd),okKd ns a->a.ar=2->okKd ns (cloN f n a)/\(cloN f n a).ar=2:=by
  intro f;induction f with
  |zero=>intro n a h g;exact⟨h,g⟩
  |succ f j =>
   intro n a h g;unfold cloN;split
   .exact j _ _ (Vc h (Ve h h zOm zOm) (by grind [zM])) g
   grind
 exact this 70 0 a i g
theorem qkG{op}(g:okKd ns a)(i:a.ar=2):okKd ns (binK ns op a):=by
 unfold binK;split
 .grind [YK]
 .split
  .exact Vc (YK g i).1 (XK ns 2 zOm zOm) (by rw[(YK g i).2];rfl)
  .exact qkF g i
def ScOk(ns:Nat)(s:Scp):Prop:=∀ v,v∈s->okKd ns v.2/\v.2.ar=1
theorem mD{nm}:∀{s:Scp}{v}{r:Scp},zK nm s=v :: r->v∈s
 | [],v,r,h=>by simp[zK]at h
 |w :: s,v,r,h=>by
  unfold zK at h;split at h
  .cases h;exact zo
  .exact q9 _ (mD h)
theorem qkH{ts}(h:okTS ts){nm k}(g:k∈zS ts nm):okKd ts.sS.length k:=by
 unfold zS at g;rcases qP.1 g with g|g
 .unfold z7 at g
  obtain⟨f,hf,e⟩:=List.mem_filterMap.1 g;split at e
  .cases e
   have:=h.fl f hf
   grind [XJ]
  grind
 .have:∀(j:List (dC×Bool))(i:Nat),i+j.length<=ts.sS.length->∀ k,k∈yr i j nm->okKd ts.sS.length k:=by
   intro j;induction j with
   |nil=>grind [yr]
   |cons s j l =>
    grind [yy,kOf,XJ,yr,vO]
  grind
theorem vy(c s inn n):exam c s inn n =
  if (inn&&jc c n.op n.name)=true then .error (46,n.pos)
  else if n.op=1 then yQ c s n.name n.pos
  else if n.op=47 then
   if (c.ts.sT.any fun p=>decide (p.name=n.name))=true then
    match zC c n.name with
    |none => .error (45,n.pos)
    |some p=>match c.ts.sT[p]? with
     |none => .error (45,n.pos)
     |some g=>if g.params.length=n.sD.length then yC c s n.pos g.params n.sD else .error (45,n.pos)
   else .error (40,n.pos)
  else if n.op=15\/n.op=45\/n.op=46 then jj c s (inn||decide (n.op=15)) n.name n.pos n.sD
  else match zq c s (inn||decide (n.op=12)||decide (n.op=13)) n.sD with
   | .error e => .error e
   | .ok l=>zE c.ts.sS.length n.op n.n n.pos l:=by
 obtain⟨op,nm,k,ks,pos⟩:=n;simp only[exam,Nd.op,Nd.name,Nd.n,Nd.sD,Nd.pos];rfl
theorem YL{c s inn}:∀{ks l},zq c s inn ks = .ok l->l.length=ks.length/\∀(i:Nat) k a,ks[i]?=some k->l[i]?=some a->exam c s inn k = .ok a
 | [],l,h=>by grind [zq,y9]
 |k :: ks,l,h=>by
  simp only[zq]at h;cases g:exam c s inn k with
  |error e=>rw[g]at h;exact absurd h zSp
  |ok a =>
   rw[g]at h;simp only at h;cases j:zq c s inn ks with
   |error e=>rw[j]at h;exact absurd h zSp
   |ok r =>
    rw[j]at h;simp only[y9]at h;subst h;obtain⟨t,C⟩:=YL j;refine⟨zP1 t,fun i I J o p=>?_⟩;cases i with
    |zero=>simp at o p;subst o;subst p;exact g
    |succ i=>exact C i I J (zUs o) (zUs p)
theorem qkI{op}(h:1<=op/\op<=15):kd op=101:=by unfold kd;rw[if_pos h]
theorem YN{op}(h:kd op=101):1<=op/\op<=15:=by
 grind [kd,absurd]
theorem XL(I:ns<=4){n}(T:WfN n){l}(p:l.length=n.sD.length)(h:∀(i:Nat) k a,n.sD[i]?=some k->l[i]?=some a->kd k.op=101->∃ q,a=some q/\okKd ns q) :
  ApOk n.op l/\(n.op=5->∃ a,l=[some a]/\okKd ns a)/\(n.op=11\/n.op=12\/n.op=13->∃ a,l=[some a]/\okKd ns a)/\(n.op=6\/n.op=14\/n.op=7\/n.op=8\/n.op=32\/n.op=33\/n.op=9\/n.op=10->∃ a b,l=[some a,some b]/\okKd ns a/\okKd ns b):=by
 have g:=T.shape;have t:n.op=5\/n.op=11\/n.op=12\/n.op=13->∃ a,l=[some a]/\okKd ns a:=by
  intro j;have e:shp n.op n.sD.length=some [101]:=by
   unfold shp;rw[zIn,if_pos zOm]
  rw[e]at g;simp only[qs]at g
  match o:n.sD,g with
  | [k],g =>
   simp at g;rw[o]at p
   match l,p with
   | [a],_ =>
    obtain⟨q,rfl,P⟩:=h 0 k a (by rw[o];rfl) rfl g.symm
    grind
  | [],g=>simp at g
  |_ :: _ :: _,g=>simp at g
 have R:n.op=6\/n.op=14\/n.op=7\/n.op=8\/n.op=32\/n.op=33\/n.op=9\/n.op=10->∃ a b,l=[some a,some b]/\okKd ns a/\okKd ns b:=by
  intro j;have e:shp n.op n.sD.length=some [101,101]:=by
   unfold shp;rw[zIn,zIn,if_pos zOm]
  rw[e]at g;simp only[qs]at g
  match o:n.sD,g with
  | [k,U],g =>
   simp at g;rw[o]at p
   match l,p with
   | [a,b],_ =>
    obtain⟨q,rfl,P⟩:=h 0 k a (by rw[o];rfl) rfl g.1.symm;obtain⟨q',rfl,J⟩:=h 1 U b (by rw[o];rfl) rfl g.2.symm;exact⟨q,q',rfl,P,J⟩
  | [],g=>simp at g
  | [_],g=>simp at g
  |_ :: _ :: _ :: _,g=>simp at g
 refine⟨⟨fun j=>?_,fun j=>?_,fun j=>?_⟩,fun j=>t (.inl j),fun j=>t (.inr j),R⟩
 .obtain ⟨a,rfl,_⟩:=t (.inl j);exact⟨_,rfl⟩
 .obtain ⟨a,rfl,C⟩:=t (.inr j);exact⟨a,rfl,C.okK,C.ok2 I⟩
 .obtain ⟨a,b,rfl,C,hb⟩:=R j;exact⟨a,b,rfl,C.okK,hb.okK⟩
theorem jH{c}(I:okCk c):∀ m n s inn R,szN n<=m->WfN n->ScOk c.ts.sS.length s->exam c s inn n = .ok R->kd n.op=101->∃ k,R=some k/\okKd c.ts.sS.length k
 | 0,n,_,_,_,hm,_,_,_,_=>by obtain⟨op,nm,i,ks,p⟩:=n;simp[szN]at hm
 |m+1,n,s,inn,R,hm,o,T,h,U=>by
  have ho:=YN U;have a0:=I.ts.ns;rw[vy]at h;split at h
  .grind
  split at h
  .unfold yQ at h
   split at h
   .rename_i v r hf
    simp only[y9]at h;exact⟨v.2,h.symm,(T v (mD hf)).1⟩
   .split at h
    .grind
    .rename_i k t
     simp only[y9]at h;exact⟨k,h.symm,qkH I.ts (by rw[t];simp)⟩
    grind
  split at h
  .omega
  split at h
  .rename_i hb
   have g:=o.shape;have e:shp n.op n.sD.length=some [101,102]:=by
    unfold shp;rw[zIn,zIn,zIn,if_pos zOm]
   rw[e]at g;simp only[qs]at g
   match t:n.sD,g with
   | [a,f],g =>
    simp at g;rw[t]at h;simp only[jj]at h;cases hq:exam c s (inn||decide (n.op=15)) a with
    |error e=>grind
    |ok q =>
     obtain⟨k,rfl,a6⟩:=jH I m a s _ q (by have:=zl (n:=n) (k:=a) (by rw[t];simp);omega) (o.kid (by rw[t];simp)) T hq g.1.symm
     grind
   | [],g=>simp at g
   | [_],g=>simp at g
   |_ :: _ :: _ :: _,g=>simp at g
  .rename_i n1 a7 nb
   cases hl:zq c s (inn||decide (n.op=12)||decide (n.op=13)) n.sD with
   |error e=>grind
   |ok l =>
    rw[hl]at h;simp only at h;obtain⟨C,a3⟩:=YL hl;obtain⟨_,a5,a1,a2⟩:=XL (ns:=c.ts.sS.length) a0 o C (fun i k a hi J a4=>jH I m k s _ a (zW1 (zl (n:=n) (q8 hi))) (o.kid (q8 hi)) T (a3 i k a hi J) a4);unfold zE at h;split at h
    .rename_i h2
     simp only[y9]at h;exact⟨_,h.symm,qkB (o.num h2)⟩
    split at h
    .grind [y9,XK]
    split at h
    .grind [y9,XK]
    have j:n.op=5\/(n.op=11\/n.op=12\/n.op=13)\/(n.op=6\/n.op=14\/n.op=7\/n.op=8\/n.op=32\/n.op=33\/n.op=9\/n.op=10):=zOm;rcases j with h5|h1|h2
    .obtain ⟨a,rfl,J⟩:=a5 h5
     simp only[if_pos h5,y9]at h
     grind
    .obtain ⟨a,rfl,J⟩:=a1 h1
     have n5:n.op≠5:=zOm;simp only[if_neg n5,if_pos h1]at h
     grind [y9,qkG,absurd]
    .obtain ⟨a,b,rfl,J,hb⟩:=a2 h2
     simp only at h;split at h
     .grind [y9,qkD,absurd]
     grind [y9,Ve,absurd,qkE]
end
end P2
namespace EA
open Y1 Y9 P2 E1 E2 E3 E7
section
variable {ds:List Den}{x:Mo}{N:Nat}{p:Pl}
structure OkM (x:Mo) (N:Nat):Prop extends OkX x N where
 n0:0<=x.n
 n12:x.n<=12
 st:∀ s,s<N->(x.m.sK.getD s []).length=x.ts.sA.length/\∀ r,r∈x.m.sK.getD s []->GR x.n r
 at0:∀ i,i<x.ts.sS.length->0<=gI x.m.sc.sC i/\0<=sumI (x.m.sc.sC.take i)/\sumI (x.m.sc.sC.take i)+gI x.m.sc.sC i<=x.n
structure OkP (x:Mo) (N:Nat) (p:Pl):Prop where
 st:p.st<N
 env:∀ e,e∈p.env->0<=e.2/\e.2<x.n
theorem OkP.nx(h:OkM x N)(k:OkP x N p):OkP x N ⟨x.nx p.st,p.env⟩:=⟨h.nx _ k.st,k.env⟩
theorem OkP.bind(k:OkP x N p){nm a}(i:0<=a/\a<x.n):OkP x N ⟨p.st,p.env++[(nm,a)]⟩:=⟨k.st,fun e g=>by
 rcases qP.1 g with g|g
 .exact k.env e g
 grind⟩
theorem yz{C i q}{g:C->XE i}{r}(h:bX q g = .ok r):∃ a,q = .ok a/\g a = .ok r:=by
 cases q with
 |error e=>cases h
 |ok a=>exact⟨a,rfl,h⟩
theorem mE{nm a}:∀{env:List (dC×Int)}{r},env.foldl (fun r e=>if e.1=nm then some e.2 else r) r=some a->r=some a\/∃ e,e∈env/\e.2=a
 | [],r,h => .inl h
 |e :: env,r,h=>by
  rw[List.foldl_cons]at h;rcases mE h with h|⟨g,i,j⟩
  .split at h
   .grind
   grind
  grind
theorem qkJ{fs rs nm r}(h:r∈yU fs rs nm):r∈rs:=by
 unfold yU at h;obtain⟨e,i,g⟩:=List.mem_filterMap.1 h;split at g
 .cases g;exact(List.of_mem_zip (a:=e.1) (b:=e.2) i).2
 .cases g
theorem mF(h:OkM x N)(nm):∀ so i,i+so.length<=x.ts.sS.length->∀ r,r∈yu x nm i so->GR x.n r
 | [],i,_,r,g=>by cases g
 |s :: so,i,l,r,g=>by
  simp only[yy]at l;obtain⟨C,o,I⟩:=h.at0 i zOm;rw[yu]at g;simp only[qP]at g;have j:GR x.n ⟨1,zt x i⟩:=GR.run _ o zOm;rcases g with g|g|g|g
  .grind
  .split at g
   .rw [qX]at g;subst g
    exact⟨j.ar1,j.ar3,fun t p=>j.val t (List.mem_of_mem_take p),List.Pairwise.sublist (List.take_sublist _ _) j.srt⟩
   .cases g
  .grind [qX,gI,Qo,GR.nil,GR.sN]
  .exact mF h nm so (i+1) zOm r g
theorem qkK{l r}(h:J8 l = .ok r):r∈l:=by
 match l,h with
 | [q],h=>cases h;exact zo ..
theorem qkL(h:OkM x N){p}(k:OkP x N p){nm r}(e:wN x p nm = .ok r):GR x.n r:=by
 unfold wN at e;cases i:vQ nm p.env with
 |some a =>
  rw[i]at e;cases e;rcases mE i with g|⟨b,j,rfl⟩
  .cases g
  .exact GR.one (k.env b j).1 (k.env b j).2
 |none =>
  rw[i]at e;rcases qP.1 (qkK e) with g|g
  .exact (h.st _ k.st).2 r (qkJ g)
  .exact mF h nm _ 0 zOm r g
theorem XM{C}{g:Int->XE C}:∀{ts l},mapX (fun a=>bX (g a) fun b => .ok (a,b)) ts = .ok l->l.map Prod.fst=ts
 | [],l,h=>by cases h;rfl
 |t :: ts,l,h=>by
  rw[mapX]at h;obtain⟨b,i,j⟩:=yz h;obtain⟨c,J,o⟩:=yz i;cases o;obtain⟨r,p,I⟩:=yz j;cases I;rw[zf,XM p]
theorem XN{nm l}(h:jS ds nm p = .ok l):∃ d,(kD ds 0).E p = .ok d/\d.ar=1/\l.map Prod.fst=d.ts:=by
 unfold jS at h;obtain⟨d,i,g⟩:=yz h;split at g
 .rename_i j;exact⟨d,i,j,XM g⟩
 .cases g
theorem uW{q}(h:yv ds p = .ok q):(kD ds 0).E p = .ok q.1/\(kD ds 1).E p = .ok q.2/\q.1.ar=q.2.ar:=by
 unfold yv at h;obtain⟨a,i,g⟩:=yz h;obtain⟨b,j,l⟩:=yz g
 grind
theorem ZZ{a}(h:binE ds p = .ok a):(kD ds 0).E p = .ok a/\a.ar=2:=by
 unfold binE at h;obtain⟨b,i,g⟩:=yz h;split at g
 .grind
 .cases g
theorem qkM(h:OkM x N){op nm i ds}(hi:op=2->1<=i/\i<=3)(I:∀ j p r,OkP x N p->(kD ds j).E p = .ok r->GR x.n r){p}(k:OkP x N p){r}(e:opE x op nm i ds p = .ok r):GR x.n r:=by
 have n0:=h.n0;unfold opE at e;by_cases o1:op=1
 .rw [if_pos o1]at e
  exact qkL h k e
 rw[if_neg o1]at e;by_cases o2:op=2
 .rw [if_pos o2]at e
  grind [GR.nil]
 rw[if_neg o2]at e;by_cases o3:op=3
 .rw [if_pos o3]at e
  cases e;have:=GR.run (n:=x.n) (a:=0) x.n.toNat zOm zOm
  grind
 rw[if_neg o3]at e;by_cases o4:op=4
 .rw [if_pos o4]at e
  cases e;exact GR.iden n0
 rw[if_neg o4]at e;by_cases o5:op=5
 .rw [if_pos o5]at e
  exact I 0 _ r (k.nx h) e
 rw[if_neg o5]at e;by_cases o6:op=6
 .rw [if_pos o6]at e
  obtain⟨q,g,o⟩:=yz e;obtain⟨g1,C,J⟩:=uW g
  grind [aG]
 rw[if_neg o6]at e;by_cases o7:op=7
 .rw [if_pos o7]at e
  obtain⟨q,g,o⟩:=yz e;obtain⟨g1,C,J⟩:=uW g;cases o;exact GR.filter (I 0 p _ k g1) _
 rw[if_neg o7]at e;by_cases o8:op=8
 .rw [if_pos o8]at e
  obtain⟨q,g,o⟩:=yz e;obtain⟨g1,C,J⟩:=uW g;cases o;exact GR.filter (I 0 p _ k g1) _
 rw[if_neg o8]at e;by_cases o9:op=9
 .rw [if_pos o9]at e
  obtain⟨a,g,o⟩:=yz e;obtain⟨b,h3,h4⟩:=yz o
  grind [js,GR.join]
 rw[if_neg o9]at e;by_cases P:op=10
 .rw [if_pos P]at e
  obtain⟨a,g,o⟩:=yz e;obtain⟨b,h3,h4⟩:=yz o
  grind [jG,GR.prod]
 rw[if_neg P]at e;by_cases R:op=11
 .rw [if_pos R]at e
  obtain⟨a,g,o⟩:=yz e;obtain⟨g1,C⟩:=ZZ g
  grind [GR.trans]
 rw[if_neg R]at e;by_cases T:op=12
 .rw [if_pos T]at e
  obtain⟨a,g,o⟩:=yz e;obtain⟨g1,C⟩:=ZZ g
  grind [aR]
 rw[if_neg T]at e;by_cases U:op=13
 .rw [if_pos U]at e
  obtain⟨a,g,o⟩:=yz e;obtain⟨g1,C⟩:=ZZ g;obtain⟨c1,c2⟩:=aR n0 200 (I 0 p _ k g1) C;cases o;exact aG c1 (GR.iden n0) c2
 rw[if_neg U]at e;by_cases a0:op=14
 .rw [if_pos a0]at e
  obtain⟨q,g,o⟩:=yz e;obtain⟨g1,C,J⟩:=uW g
  grind [aW]
 rw[if_neg a0]at e;by_cases a1:op=15
 .rw [if_pos a1]at e
  obtain⟨l,g,o⟩:=yz e;obtain⟨d,g1,C,J⟩:=XN g;cases o;have gd:=I 0 p d k g1;have hs:List.Sublist ((l.filter fun e=>e.2).map fun e=>e.1) d.ts:=by rw[<-J];exact List.Sublist.map _ List.filter_sublist
  refine⟨by grind,by grind,fun t ht=>?_,List.Pairwise.sublist hs gd.srt⟩;have:=gd.val t (hs.subset ht)
  grind
 rw[if_neg a1]at e;cases e
theorem YO(h:OkM x N):∀ m n,szN n<=m->WfN n->∀ p r,OkP x N p->(den x n).E p = .ok r->GR x.n r
 | 0,n,o,_,_,_,_,_=>by obtain⟨op,nm,i,ks,p⟩:=n;simp[szN]at o
 |m+1,n,o,t,p,r,k,e=>by
  rw[vw]at e;refine qkM h t.num (fun j p r k e=>?_) k e;unfold kD at e;by_cases g:j<n.sD.length
  .have l:(n.sD.map (den x)).getD j noD=den x n.sD[j]:=by simp[List.getD,g]
   rw[l]at e;exact YO h m n.sD[j] (zW1 (zl (qv g))) (t.kid (qv g)) p r k e
  .have l:(n.sD.map (den x)).getD j noD=noD:=by simp[List.getD,g]
   rw[l]at e;cases e
end
end EA
namespace GA
theorem qkN{a:List Int}(h:a.Pairwise (·<·)):a.Nodup:=h.imp fun h=>by omega
theorem mG:∀{a b:List Int},a.Pairwise (·<·)->b.Pairwise (·<·)->(∀ x,x∈a↔x∈b)->a=b
 | [],[],_,_,_=>rfl
 | [],y :: b,_,_,h=>absurd ((h y).2 zSp) zSp
 |x :: a,[],_,_,h=>absurd ((h x).1 zSp) zSp
 |x :: a,y :: b,j,l,h=>by
  rw[w7]at j l;have e:x=y:=by
   have o:=(h x).1 zSp;have p:=(h y).2 zSp;rcases qz.1 o with e|o
   .exact e
   .rcases qz.1 p with e|p
    .exact e.symm
    .have:=l.1 x o;have:=j.1 y p;omega
  subst e;congr 1;refine mG j.2 l.2 fun z=>?_
  have C:=h z;constructor
  .intro g
   rcases qz.1 (C.1 (q9 _ g)) with e|t
   .subst e;have:=j.1 z g;omega
   .exact t
  .intro i
   rcases qz.1 (C.2 (q9 _ i)) with e|t
   .subst e;have:=l.1 z i;omega
   .exact t
section
variable {α:Type} {f:α->α->Int} {P:α->Prop}
end
end GA
namespace GB
structure Ed where
 kind:Int
 state:Int
 field:Int
 tup:Int
def noR:Rl:=⟨0,[]⟩
end GB
namespace GC
end GC
namespace EL
open E1 E3
theorem XP(x:Mo)(t:0<=x.m.loop)(C:x.m.sK.length<=1000000)(s)(I:s<x.m.sK.length):qj qg 129 [eMd x.m,aI s] (aI (x.nx s:Nat)):=by
 have wl:qo.wrap ((x.m.sK.length:Int)-1)=(x.m.sK.length:Int)-1:=zWr;have j:=zWk s;unfold Mo.nx;refine qSV call129 func129 rfl ?_;by_cases g:s+1<x.m.sK.length
 .rw [if_pos g]
  have i:(s:Int)<(x.m.sK.length:Int)-1:=zOm;simp[go_sem,wl,j,i];exact .zsc _
 .rw [if_neg g]
  have i:¬(s:Int)<(x.m.sK.length:Int)-1:=zOm;have l:(s:Int)=(x.m.sK.length:Int)-1:=zOm;have o:((x.m.loop.toNat:Nat):Int)=x.m.loop:=zOm;have p:(1:Int)<=x.m.sK.length:=zOm;rw[o];simp[go_sem,wl,l,p];exact .zsc _
theorem qkO(n)(t:0<=n)(C:n<=20)(k:Nat)(R:k<=3):qj qg 134 [aI n,aI k] (aI (n ^ k)):=by
 refine qSU call134 func134 rfl ?_;refine qm.up k (fun i U=>U.tm 0=aI n/\U.tm 5=aI (n ^ i)/\U.tm 6=aI k/\U.tm 7=aI i/\U.mu=[]) ?_ ?_
 .simp [go_sem]
 rintro i U T ⟨I,l,o,e7,p⟩;by_cases g:i<k
 .have J:=YI t C (i+1) zOm
  have P:=zWk i;rw[Int.pow_succ]at J;have w2:qo.wrap (n ^ i*n)=n ^ i*n:=zWr;simp[go_sem,I,l,o,e7,p,g,P,w2];rw[Int.pow_succ]
 .have j:i=k:=by omega
  subst j;simp[go_sem,l,o,e7,p];exact .zsc _
theorem idenU(n:Nat)(hn:n<=20):qj qg 87 [aI n] (eRel (idR n)):=by
 refine qSU call87 func87 rfl ?_;refine dS (fun m U=>∃ k t g,m=n-k/\k<=n/\U.tm 0=aI n/\U.tm 2 = .ptr 0 0/\U.tm 3 = .ptr 1 0/\U.tm 6=aI n/\U.tm 7=aI (k:Nat)/\U.mu=[.arr [aI 0,.lst true []],.arr [aI 2,t]]++g/\OwnF 2 ([.dead,.dead]++g) 1 t (((qu k).map fun x:Nat=>(x:Int)*n+x).map rI)) n ?_ ?_
 .exact ⟨0,.lst true [],[],zOm,zOm,zSi,zSi,zSi,zSi,zSi,zSi,by simpa using OwnF.nil zSp⟩
 rintro m U ⟨k,t,g,rfl,hk,e0,e2,I,J,e7,hm,C⟩;have C:=C.low (low:=[.dead,.dead]) (low':=[.arr [aI 0,.lst true []],.arr [aI 2,t]]) rfl;by_cases P:k<n
 .have hp:0<=(k:Int)*n/\(k:Int)*n<=400:=⟨Int.mul_nonneg zOm zOm,by have:(k:Int)*n<=20*20:=jv zOm zOm zOm zOm;omega⟩
  have w1:qo.wrap ((k:Int)*n)=(k:Int)*n:=zWr;have w2:qo.wrap ((k:Int)*n+k)=(k:Int)*n+k:=zWr;have w3:=zWk k;simp[go_sem,e0,I,J,e7,P,hm,w1,w2];refine fJ (low:=[.arr [aI 0,.lst true []],.arr [aI 2,t]]) (e:=3) (bt:=8) (z:=0) (xs:=(qu k).map fun x:Nat=>(x:Int)*n+x) (ys:=[(k:Int)*n+k]) zSi zSi zSi zOm C (by simp[qA]) zSo ?_;intro R l o;simp[go_sem,I,e7,w3,o.cells,o.one];refine Keep.loop (n-(k+1)) zOm ⟨k+1,R,l,rfl,zOm,zS1 e0,zS1 e2,zS1 I,zS1 J,zSi,zSi,?_⟩;rw[List.range_succ,zi];simpa using o.low (low':=[.dead,.dead]) rfl
 .have T:k=n:=by omega
  subst T;simp[go_sem,e2,I,J,e7,hm,C.one];exact Rd.rel (r:=idR k) (C.low (low:=[.arr [aI 0,.lst true []],.arr [aI 2,t]]) (low':=[.arr [aI 2,t],.arr [aI 2,t]]) rfl).rdI
end EL
namespace EJ
open E1
section
variable {g:Type}
def j6(p:g->g->Bool):g->List g->List g
 |_,[]=>[]
 |x,y :: l=>if p y x=true then j6 p y l else y :: j6 p y l
def cmpc(p:g->g->Bool):List g->List g
 | []=>[]
 |x :: l=>x :: j6 p x l
theorem mH(p):∀(l)(x y:g),j6 p x (l++[y])=j6 p x l++(if p y ((x :: l).getLast zSp)=true then [] else [y])
 | [],x,y=>by
  by_cases i:p y x=true<;>simp[j6,i]
 |z :: l,x,y=>by
  have j:=mH p l z y;have e:(x :: z :: l).getLast zSp=(z :: l).getLast zSp:=List.getLast_cons zSp;simp only[yq,j6,e,j];split
  .rfl
  .rfl
theorem mI{j}(p)(l:List j)(k)(I:1<=k)(C):cmpc p (l.take (k+1))=cmpc p (l.take k)++(if p l[k] (l[k-1]' zOm)=true then [] else [l[k]]):=by
 have o:l.take (k+1)=l.take k++[l[k]]:=by rw[List.take_add_one,qy C];rfl
 have g:∀(q:l.take k≠[]),(l.take k).getLast q=l[k-1]' zOm:=by
  intro q;rw[List.getLast_eq_getElem,List.getElem_take];congr 1;simp;omega
 rw[o];cases t:l.take k with
 |nil =>
  have i:=congrArg List.length t;rw[ub,List.length_nil]at i;omega
 |cons x r =>
  have:=g (by rw[t];simp);simp only[t]at this;simp only[yq,cmpc,mH,this]
abbrev eqI:Int->Int->Bool:=fun y x=>decide (y=x)
theorem XQ:∀ l x,(x :: l).Pairwise (·<=·)->zp (x :: j6 eqI x l)/\∀ t,t∈x :: j6 eqI x l↔t∈x :: l
 | [],x,_=>⟨List.pairwise_singleton _ _,fun t=>Iff.rfl⟩
 |y :: l,x,h=>by
  obtain⟨C,g⟩:=w7.1 h;have I:=C y (zo ..);by_cases e:y=x
  .have j:j6 eqI x (y :: l)=j6 eqI y l:=by simp[j6,e]
   rw[j,e];have J:(x :: l).Pairwise (·<=·):=by rw[e]at g;exact g
   obtain⟨o,i⟩:=XQ l x J;refine⟨o,fun t=>?_⟩;rw[i];simp
  .have j:j6 eqI x (y :: l)=y :: j6 eqI y l:=by simp[j6,e]
   rw[j];obtain⟨o,i⟩:=XQ l y g;refine⟨w7.2 ⟨fun t p=>?_,o⟩,fun t=>?_⟩
   .rcases qz.1 ((i t).1 p) with rfl|p
    .omega
    .have:=(w7.1 g).1 t p;omega
   .rw [qz,i,qz (l:=y :: l)]
theorem qkP(l)(h:l.Pairwise (·<=·)):zp (cmpc eqI l)/\∀ t,t∈cmpc eqI l↔t∈l:=by
 cases l with
 |nil=>exact⟨List.Pairwise.nil,fun t=>Iff.rfl⟩
 |cons x l=>exact XQ l x h
theorem qkQ(l):(srtI l).Pairwise (·<=·):=by
 have:=List.pairwise_mergeSort (le:=fun x y:Int=>decide (x<=y)) (fun a b c g i=>by simp at *;omega) (fun a b=>zSo) l;exact this.imp fun h=>zUs h
theorem qkR(l t):t∈srtI l↔t∈l:=(List.mergeSort_perm l _).mem_iff
theorem qkS(l):cmpc eqI (srtI l)=ofL l:=by
 obtain⟨g,i⟩:=qkP _ (qkQ l);obtain⟨j,o⟩:=uV l;exact UB g j fun t=>by rw[i,o,qkR]
end
end EJ
namespace EM
theorem sortE{mu b zs}(i:mu[b]?=some (.arr (zs.map aI)))(p:zs.length<=1000000000) :
  qC qg 240 [.sl b 1 0 zs.length] mu fun e m=>e = .ret (.tup [])/\m=mu.set b (.arr ((srtI zs).map aI)):=by
 have:=qjL (P:=qg) call240 (fun g off cap zs w j l o=>Tryz.slices_Sort_int g off cap zs w j l o) (mu:=mu) (b:=b) (off:=0) (cells:=zs.map aI) (zs:=zs) i
  (fun k n h=>by rw[yJ,zz,h];rfl) zOm zSp
 have e:putCells (zs.map aI) 0 ((srtI zs).map fun n => .sc (.int .i64 n))=(srtI zs).map aI:=by
  rw[jm _ _ _ (by simp[J2])];simp[J2]
 rw[e]at this;exact this
end EM
end Go.Proofs.YthflbhjlkgdafaaGreatDoor
namespace Go.Ev
open Go Go.RowKit
@[go_sem ↓] theorem qwB(P pl det i ev mu K j l g):qH P pl det i (.call ⟨.builtin .clear,l.toArray,g⟩) ev mu K j=Zf P mu .clear g (evs ev l) K:=eqS rfl
theorem qkT{P mu K t e sz bt b off len cells zv}(o:qF P t=some (e,sz,bt))(p:qB P e=some zv)(g:zv.cells.length=sz)(j:zv.cells.all AV.one=true)(l:sz≠0)
  (C:mu[b]?=some (.arr cells)) (I:off+len*sz<=cells.length) (J:0<len) (k:K (.tup []) (mu.set b (.arr (putCells cells off ((qu (len*sz)).map fun i=>zv.cells.getD (i % sz) .any))))):Zf P mu .clear #[t] [.sl b sz off len] K:=
 ⟨_,_,.clear o p g j l C I J,k⟩
end Go.Ev
namespace Go.Proofs.YthflbhjlkgdafaaGreatDoor
open Go Go.Ev Go.Proofs Tryz
namespace EN
open EJ
theorem XS{mu:Mu}{b c}(h:mu[b]?=some c):mu.set b c=mu:=by
 obtain⟨i,g⟩:=ql.1 h;rw[<-g];simp
theorem UD(l:List Int)(i h):List.take 1 (List.drop i (l.map aI))=[aI l[i]]:=by
 grind [ze]
theorem qkU(mu b g)(hl:g.length<=1000000)(hb:mu[b]?=some (.arr (g.map aI))) :
  qC qg 241 [.sl b 1 0 g.length] mu fun e m=>∃ cells,e = .ret (.sl b 1 0 (cmpc eqI g).length)/\m=mu.set b (.arr cells)/\cells.length=g.length/\cells.take (cmpc eqI g).length=(cmpc eqI g).map aI:=by
 refine qSW call241 func241 rfl {} ?_;simp[go_sem];by_cases h2:g.length<2
 .have hc:cmpc eqI g=g:=by
   match g,h2 with
   | [],_=>rfl
   | [x],_=>rfl
   |_ :: _ :: _,h=>grind
  simp[go_sem,show (g.length:Int)<2 by omega];rw[hc];exact⟨rfl,g.map aI,(XS hb).symm,zSp,by rw[zU zSp]⟩
 simp[go_sem,show ¬(g.length:Int)<2 by omega];refine dS (fun m U=>∃ k,m=g.length-k/\1<=k/\k<=g.length/\U.tm 0 = .sl b 1 0 g.length/\U.tm 3=aI (k:Nat)/\U.mu=mu/\cmpc eqI (g.take k)=g.take k) (g.length-1) ?_ ?_
 .refine ⟨1,zOm,zOm,zOm,zSi,zSi,zSi,?_⟩
  match g,h2 with
  | [],h=>simp at h
  |x :: l,_=>simp[cmpc,j6]
 rintro m U ⟨k,rfl,a6,hk,e0,e3,hm,hi⟩;by_cases p:k<g.length
 .have hw:qo.wrap ((k:Int)-1)=((k-1:Nat):Int):=by grind [yh]
  have C:k-1<g.length:=zOm;have r1:=UD g k p;have r2:=UD g (k-1) C;have g1:k+1<=g.length:=p;have g2:k-1+1<=g.length:=C;have o:=mI eqI g k a6 p;rw[hi]at o;simp[go_sem,e0,e3,hm,p];refine tJ zKr ?_;by_cases hp:g[k]=g[k-1]
  .simp [go_sem,e0,e3,p,hb,hw,C,hp,r1,r2,g1,g2]
   rw[if_pos (zUs hp),ye]at o;simp[go_sem,hk];refine dS (fun m2 st2=>∃(j i:Nat) (cur:List Int),m2=g.length-(k+j)/\1<=j/\k+j<=g.length/\st2.tm 0 = .sl b 1 0 g.length/\st2.tm 3=aI (i:Nat)/\st2.tm 4 = .sl b 1 k (g.length-k)/\st2.tm 5=aI (j:Nat)/\cur.length=g.length/\st2.mu=mu.set b (.arr (cur.map aI))/\i=(cmpc eqI (g.take (k+j))).length/\i<=k+j-1/\cur.take i=cmpc eqI (g.take (k+j))/\cur.drop (k+j-1)=g.drop (k+j-1)) (g.length-(k+1)) ?_ ?_
   .refine ⟨1,k,g,zOm,zOm,zOm,zS1 e0,zS1 e3,zSi,zSi,rfl,?_,?_,zOm,?_,rfl⟩
    .simp_all [go_sem,XS]
    .grind
    grind
   rintro m2 st2 ⟨j,i,cur,rfl,ag,hj,f0,f3,f4,f5,a1,a2,I,ah,J,T⟩;have a0:b<mu.length:=(ql.1 hb).1;by_cases P:j<g.length-k
   .have a7:k+j<g.length:=by omega
    have c1:cur[k+j]' zOm=g[k+j]:=by
     have:=congrArg (fun l=>l[1]?) T
     grind
    have c2:cur[k+j-1]' zOm=g[k+j-1]:=by
     have:=congrArg (fun l=>l[0]?) T;simp only[uK,Nat.add_zero]at this
     grind
    have r1:=UD cur (k+j) zOm;have r2:List.take 1 (List.drop (k+(j-1)) (cur.map aI))=[aI (g[k+j-1]' zOm)]:=by rw[show k+(j-1)=k+j-1 by omega,UD cur (k+j-1) zOm,c2]
    rw[c1]at r1;have a3:qo.wrap ((j:Int)-1)=((j-1:Nat):Int):=by rw[zWr];omega
    have a4:qo.wrap ((j:Int)+1)=((j+1:Nat):Int):=by rw[zWr];omega
    have g3:j-1<g.length-k:=zOm;have g4:k+j+1<=cur.length:=zOm;have g5:k+(j-1)+1<=cur.length:=zOm;have t:=mI eqI g (k+j) zOm a7;have a5:cur.drop (k+j)=g.drop (k+j):=by
     have:=congrArg (List.drop 1) T;rw[List.drop_drop,List.drop_drop,show k+j-1+1=k+j by omega]at this;exact this
    simp[go_sem,f4,f5,a2,P];refine tJ zKr ?_;by_cases R:g[k+j]=g[k+j-1]
    .rw [if_pos (zUs R),ye]at t
     simp[go_sem,f4,f5,P,a0,r1,r2,a3,a4,g3,g4,g5,R];refine Keep.loop (g.length-(k+(j+1))) zOm ⟨j+1,i,cur,rfl,zOm,zOm,zS1 f0,zS1 f3,zS1 f4,zSi,a1,zSi,?_,zOm,?_,?_⟩
     .rw [show k+(j+1)=k+j+1 by omega,t];exact I
     .rw [show k+(j+1)=k+j+1 by omega,t];exact J
     .rw [show k+(j+1)-1=k+j by omega];exact a5
    .rw [if_neg (zUs R)]at t
     have a8:i<g.length:=zOm;have a9:i+1<=cur.length:=zOm;have af:i<cur.length:=zOm;have aa:qo.wrap ((i:Int)+1)=((i+1:Nat):Int):=by rw[zWr];omega
     simp[go_sem,f0,f3,f4,f5,P,a0,r1,r2,a3,a4,aa,g3,g4,g5,R,a8,a9];refine Keep.loop (g.length-(k+(j+1))) zOm ⟨j+1,i+1,cur.set i g[k+j],rfl,zOm,zOm,zS1 f0,zSi,zS1 f4,zSi,zP1 a1,?_,?_,zOm,?_,?_⟩
     .simp [go_sem,List.map_set]
     .rw [show k+(j+1)=k+j+1 by omega,t,zj];simp;omega
     .rw [show k+(j+1)=k+j+1 by omega,t,<-J,List.take_add_one,qJ zOm,List.take_set_of_le zOm];rfl
     .rw [show k+(j+1)-1=k+j by omega,List.drop_set_of_lt zOm];exact a5
   .have ab:k+j=g.length:=by omega
    rw[ab,za]at I J;simp[go_sem,f0,f3,f4,f5,a2,P,show i<g.length by omega,show i<=g.length by omega];refine qkT (e:=3) (bt:=8) (zv:=aI 0) (cells:=cur.map aI) zSi zSi rfl rfl zOm (zP1 a0) zSo zOm ?_;have hZ:∀ zs:List AV,zs.length=g.length-i->(putCells (cur.map aI) i zs).length=g.length/\(putCells (cur.map aI) i zs).take i=(cur.map aI).take i:=by
     intro zs hz;rw[jm _ _ _ zSo];refine⟨zSo,?_⟩;rw[zL,List.take_append,ub,Nat.min_eq_left zSo,Nat.sub_self,List.take_zero,ye,List.take_take,Nat.min_self]
    have hz:=hZ ((qu ((g.length-i)*1)).map fun j=>(aI 0).cells.getD (j % 1) .any) zSp;generalize putCells (cur.map aI) i _=Z at hz⊢;simp[go_sem,f0,f3,show i<=g.length by omega];refine⟨I,Z,rfl,hz.1,?_⟩;rw[<-I,hz.2,<-List.map_take,J]
  .rw [if_neg (zUs hp)]at o
   have ad:g.take (k+1)=g.take k++[g[k]]:=by rw[List.take_add_one,qy p];rfl
   simp[go_sem,e0,e3,p,hb,hw,C,hp,r1,r2,g1,g2];refine Keep.loop (g.length-(k+1)) zOm ⟨k+1,rfl,zOm,zOm,zS1 e0,?_,zSi,by rw[o,ad]⟩;simp[go_sem];exact zWr
 .have ae:k=g.length:=by omega
  subst ae;rw[za]at hi;simp[go_sem,e0,e3,hm];rw[hi];exact⟨rfl,g.map aI,(XS hb).symm,zSp,by rw[zU zSp]⟩
end EN
namespace E4
open E1
theorem qkV(n k)(J:0<=n)(P:n<=20):qj qg 152 [aI n,aI k] (aI (powI n k)):=by
 refine qSU call152 func152 rfl ?_;refine qm.up (powN k) (fun i U=>U.tm 0=aI n/\U.tm 1=aI k/\U.tm 5=aI (n ^ i)/\U.tm 6=aI i/\U.mu=[]) ?_ ?_
 .simp [go_sem]
 rintro i U hi ⟨R,o,p,t,C⟩;by_cases g:i<powN k
 .have l:(i:Int)<k:=by unfold powN at g;omega
  have I:(i:Int)<3:=by unfold powN at g;omega
  have T:=YI J P (i+1) zOm;rw[Int.pow_succ]at T;simp[go_sem,R,o,p,t,C,l,I];refine⟨g,?_,zWr⟩;rw[Int.pow_succ,zWr]
 .have j:i=powN k:=by omega
  by_cases l:(i:Int)<k
  .have I:¬(i:Int)<3:=by unfold powN at g;omega
   simp[go_sem,o,p,t,C,l,I];rw[powI,j];exact .zsc _
  .simp [go_sem,o,p,t,C,l]
   rw[powI,j];exact .zsc _
theorem mJ(n r)(hl:r.ts.length<=9223372036854775807):qj qg 71 [aI n,eRel r] (aB (jF n r)):=by
 refine qSV call71 func71 rfl ?_;by_cases R:n<0
 case pos =>
  simp[go_sem,R,jF,show ¬ 0<=n by omega];exact .zsc _
 by_cases o:12<n
 case pos =>
  simp[go_sem,R,o,jF,show ¬n<=12 by omega];exact .zsc _
 by_cases h3:r.ar<1
 case pos =>
  simp[go_sem,R,o,h3,jF,show ¬ 1<=r.ar by omega];exact .zsc _
 by_cases h4:3<r.ar
 case pos =>
  simp[go_sem,R,o,h3,h4,jF,show ¬r.ar<=3 by omega];exact .zsc _
 simp[go_sem,R,o,h3,h4];refine qm.up r.ts.length (fun k U=>U.tm 0=aI n/\U.tm 3 = .ip [aI r.ar,lI r.ts]/\U.tm 5=aI k/\U.mu=[]/\∀(i:Nat)(h:i<r.ts.length),i<k->0<=r.ts[i]/\r.ts[i]<powI n r.ar/\(0<i->r.ts[i-1]<r.ts[i])) ?_ ?_
 .simp [go_sem]
 rintro k U hk ⟨e0,I,J,hm,he⟩;by_cases g:k<r.ts.length
 .have p:¬(0<=r.ts[k]/\r.ts[k]<powI n r.ar)->jF n r=false:=by
   intro C;have:r.ts.all (fun t=>decide (0<=t)&&decide (t<powI n r.ar))=false:=by
    rw[<-Bool.not_eq_true,qY];intro j;have:=j _ (qv g);simp at this;exact C this
   simp only[jF,this,Bool.and_false,Bool.false_and]
  have T:0<k->¬(r.ts[k-1]<r.ts[k])->jF n r=false:=by
   intro hk C;have:¬zp r.ts:=fun h=>C (UA h zOm g)
   simp only[jF,this,decide_false,Bool.and_false]
  have hw:0<k->qo.wrap ((k:Int)-1)=((k-1:Nat):Int):=fun h=>by rw[zWr];omega
  have next:0<=r.ts[k]->r.ts[k]<powI n r.ar->(0<k->r.ts[k-1]<r.ts[k])->k<r.ts.length/\qo.wrap ((k:Int)+1)=(k:Int)+1/\∀(i:Nat)(h:i<r.ts.length),i<k+1->0<=r.ts[i]/\r.ts[i]<powI n r.ar/\(0<i->r.ts[i-1]<r.ts[i]):=by
   intro n1 n2 n3;refine⟨g,zWr,fun i h P=>?_⟩;rcases JA.1 P with o|o
   .exact he i h o
   .subst o;exact⟨n1,n2,n3⟩
  simp[go_sem,I,J,hm,g];refine tJ zKr ?_;simp[go_sem,I,J,g];by_cases ha:r.ts[k]<0
  .simp [go_sem,ha]
   rw[p zOm];exact .zsc _
  simp[go_sem,e0,I,J,g,ha];refine t8 (qkV n r.ar zOm zOm) (.zs (.zs .nil)) ?_;by_cases C:powI n r.ar<=r.ts[k]
  .simp [go_sem,C]
   rw[p zOm];exact .zsc _
  by_cases l:0<k
  .have hw:=hw l
   have a0:k-1<r.ts.length:=zOm;by_cases hc:r.ts[k]<=r.ts[k-1]
   .simp [go_sem,I,J,g,C,l,hw,a0,hc]
    rw[T l zOm];exact .zsc _
   .simp [go_sem,e0,I,J,g,C,l,hw,a0,hc]
    exact(next zOm zOm (fun _=>zOm)).2
  .simp [go_sem,e0,I,J,g,C,l]
   exact(next zOm zOm (fun _=>zOm)).2
 .have a1:k=r.ts.length:=by omega
  subst a1;have j:r.ts.all (fun t=>decide (0<=t)&&decide (t<powI n r.ar))=true:=by
   rw[qY];intro t ht;obtain⟨i,P,rfl⟩:=ZD ht;have:=he i P P;simp;omega
  have a2:zp r.ts:=qjV fun i P=>by simpa using (he (i+1) P P).2.2 zOm
  simp[go_sem,I,J,hm];simp only[jF,j,a2,show 0<=n by omega,show n<=12 by omega,show 1<=r.ar by omega,show r.ar<=3 by omega];exact .zsc _
theorem has06(r x)(hl:r.ts.length<=1000000000)(hs:zp r.ts):qj qg 119 [eRel r,aI x] (aB (decide (x∈r.ts))):=by
 refine qSU call119 func119 rfl ?_;refine dS (fun n U=>∃ j g:Nat,n=g-j/\U.tm 1=aI x/\U.tm 2 = .ip [aI r.ar,lI r.ts]/\U.tm 5=aI j/\U.tm 6=aI g/\U.mu=[]/\j<=g/\g<=r.ts.length/\(∀(i:Nat)(h:i<r.ts.length),i<j->r.ts[i]<x)/\(∀(i:Nat)(h:i<r.ts.length),g<=i->x<=r.ts[i])) r.ts.length ?_ ?_
 .exact ⟨0,r.ts.length,zOm,zSi,zSi,zSi,zSi,zSi,zOm,zOm,fun i h h'=>zOm,fun i h h'=>zOm⟩
 rintro n U ⟨j,g,hn,J,C,P,R,T,a4,a5,I,a0⟩;by_cases a1:j<g
 .have hw:qo.wrap (qo.wrap ((j:Int)+g) / 2)=(((j+g) / 2:Nat):Int):=by
   rw[yh (n:=(j:Int)+g) zOm zOm,zWr];omega
  have a2:(qo.wrap ((j:Int)+g)).tdiv 2=qo.wrap ((j:Int)+g) / 2:=Int.tdiv_eq_ediv_of_nonneg (by rw[zWr];omega);have l:(j+g) / 2<r.ts.length:=zOm;generalize a6:(j+g) / 2=mid at *
  by_cases hb:r.ts[mid]<x
  .simp [go_sem,J,C,P,R,T,a1,a2,hw,l,hb]
   refine Keep.loop (g-(mid+1)) zOm ⟨mid+1,g,rfl,zS1 J,zS1 C,?_,zS1 R,zSi,zOm,zOm,fun i h h'=>?_,a0⟩
   .simp [go_sem]
    exact zWr
   .rcases Nat.lt_or_ge i mid with t|t
    .exact Int.lt_trans (UA hs t l) hb
    .have:i=mid:=by omega
     subst this;exact hb
  .simp [go_sem,J,C,P,R,T,a1,a2,hw,l,hb]
   refine Keep.loop (mid-j) zOm ⟨j,mid,rfl,zS1 J,zS1 C,zS1 P,zSi,zSi,zOm,zOm,I,fun i h h'=>?_⟩;rcases Nat.lt_or_ge mid i with t|t
   .have:=UA hs t h;omega
   .have:i=mid:=by omega
    subst this;omega
 .have a3:g=j:=by omega
  subst a3;by_cases o:g<r.ts.length
  .by_cases he:r.ts[g]=x
   .simp [go_sem,J,C,P,R,T,o,he]
    have:x∈r.ts:=he ▸ qv o;simp[this];exact .zsc _
   .simp [go_sem,J,C,P,R,T,o,he]
    have:¬x∈r.ts:=fun h=>by
     obtain⟨i,p,rfl⟩:=ZD h;rcases Nat.lt_or_ge i g with t|t
     .have:=I i p t;omega
     .rcases Nat.lt_or_ge g i with h4|h4
      .have:=UA hs h4 p
       have:=a0 g o zOm;omega
      .have:i=g:=by omega
       subst this;exact he rfl
    simp[this];exact .zsc _
  .simp [go_sem,C,P,R,T,o]
   have:¬x∈r.ts:=fun h=>by
    obtain⟨i,p,rfl⟩:=ZD h;have:=I i p zOm;omega
   simp[this];exact .zsc _
theorem qkW(a b)(hl:a.ts.length<=1000000000)(a1:b.ts.length<=1000000000)(hs:zp b.ts):qj qg 46 [eRel a,eRel b] (eRel ⟨a.ar,a.ts.filter (fun t=>decide (¬t∈b.ts))⟩):=by
 refine qSU call46 func46 rfl ?_;refine dS (fun m U=>∃ k l g,m=a.ts.length-k/\k<=a.ts.length/\U.tm 2 = .ip [aI a.ar,lI a.ts]/\U.tm 3 = .ip [aI b.ar,lI b.ts]/\U.tm 4 = .ptr 0 0/\U.tm 5 = .ptr 1 0/\U.tm 6=aI (k:Nat) /\
  U.mu=[.arr [aI 0,.lst true []],.arr [aI a.ar,l]]++g/\OwnF 2 ([.dead,.dead]++g) 1 l (((a.ts.take k).filter (fun t=>decide (¬t∈b.ts))).map rI)) a.ts.length ?_ ?_
 .exact ⟨0,.lst true [],[],zOm,zOm,zSi,zSi,zSi,zSi,zSi,zSi,by simpa using OwnF.nil zSp⟩
 rintro m U ⟨k,l,g,rfl,hk,P,e3,e4,T,R,hm,C⟩;have C:=C.low (low:=[.dead,.dead]) (low':=[.arr [aI 0,.lst true []],.arr [aI a.ar,l]]) rfl;by_cases o:k<a.ts.length
 .simp [go_sem,P,R,o]
  refine tJ zKr ?_;simp[go_sem,P,e3,R,o];refine t8 (has06 b a.ts[k] a1 hs) (.zk (qr b) (.zs .nil)) ?_;have a0:a.ts.take (k+1)=a.ts.take k++[a.ts[k]]:=by rw[List.take_add_one,qy o];rfl
  by_cases hb:a.ts[k]∈b.ts
  .simp [go_sem,R,hb]
   refine Keep.loop (a.ts.length-(k+1)) zOm ⟨k+1,l,g,rfl,zOm,zS1 P,zS1 e3,zS1 e4,zS1 T,?_,zS1 hm,?_⟩
   .simp [go_sem];exact zWr
   .rw [a0,List.filter_append];simpa[go_sem,hb] using C.low (low':=[.dead,.dead]) rfl
  .simp [go_sem,hb]
   refine tJ zKr ?_;simp[go_sem,P,T,R,o,hm];refine fJ (low:=[.arr [aI 0,.lst true []],.arr [aI a.ar,l]]) (e:=3) (bt:=8) (z:=0) (xs:=(a.ts.take k).filter (fun t=>decide (¬t∈b.ts))) (ys:=[a.ts[k]]) zSi zSi zSi zOm C (by simp[qA]) ?_ ?_
   .have:=List.length_filter_le (fun t=>decide (¬t∈b.ts)) (a.ts.take k)
    have:=List.length_take_le k a.ts;have h3:[a.ts[k]].length=1:=rfl;omega
   intro a2 I J;simp[go_sem,T,R,J.cells,J.one];refine Keep.loop (a.ts.length-(k+1)) zOm ⟨k+1,a2,I,rfl,zOm,zS1 P,zS1 e3,zS1 e4,zS1 T,?_,zSi,?_⟩
   .simp [go_sem];exact zWr
   .rw [a0,List.filter_append]
    simpa[go_sem,hb] using J.low (low':=[.dead,.dead]) rfl
 .have a3:k=a.ts.length:=by omega
  subst a3;simp[go_sem,P,e4,T,R,hm,C.one];rw[za]at C;simp at C;exact Rd.rel (r:=⟨a.ar,a.ts.filter (fun t=>!decide (t∈b.ts))⟩) (C.low (low:=[.arr [aI 0,.lst true []],.arr [aI a.ar,l]]) (low':=[.arr [aI a.ar,l],.arr [aI a.ar,l]]) rfl).rdI
theorem in06(a b)(i:a.ts.length<=1000000000)(g:b.ts.length<=1000000000)(j:zp b.ts):qj qg 13 [eRel a,eRel b] (aB (inOk a b)):=by
 refine qSU call13 func13 rfl ?_;refine fW (qkW a b i g j) (.zk (qr a) (.zk (qr b) .nil)) ?_;have e:inOk a b=decide (∀ t,t∈a.ts->t∈b.ts):=by
  rw[uc];simp[inOk]
 rw[e];exact .zsc _
theorem qkX(a b)(ha:a.length<=9223372036854775807):qj qg 135 [lI a,lI b] (aB (decide (a=b))):=by
 refine qSV call135 func135 rfl ?_;by_cases p:a.length=b.length
 case neg =>
  simp[go_sem,p];rw[decide_eq_false (by rintro rfl;exact p rfl)];exact .zsc _
 simp[go_sem,p];refine qm.up a.length (fun k U=>U.tm 0=lI a/\U.tm 1=lI b/\U.tm 12=aI a.length/\U.tm 13=aI k/\U.mu=[]/\∀(i:Nat)(h:i<a.length)(t:i<b.length),i<k->a[i]=b[i]) ?_ ?_
 .simp [go_sem,p]
 rintro k U hk ⟨P,R,j,l,T,he⟩;by_cases o:k<a.length
 .have g:k<b.length:=by omega
  simp[go_sem,j,l,T,o]
  try refine tJ zKr ?_
  by_cases C:a[k]=b[k]
  .simp [go_sem,P,R,j,l,o,g,C]
   refine⟨zWr,fun i h t hi=>?_⟩;rcases JA.1 hi with I|I
   .exact he i h t I
   .subst I;exact C
  .simp [go_sem,P,R,o,g,C]
   rw[decide_eq_false (by rintro rfl;simp at C)];exact .zsc _
 .have J:k=a.length:=by omega
  subst J;simp[go_sem,j,l,T];rw[decide_eq_true (List.ext_getElem p fun i h t=>he i h t h)];exact .zsc _
theorem XT(a b)(j:a.ts.length<=9223372036854775807):qj qg 55 [eRel a,eRel b] (aB (decide (a=b))):=by
 have g:(a=b)=(a.ar=b.ar/\a.ts=b.ts):=by cases a;cases b;simp
 refine qSV call55 func55 rfl ?_;by_cases i:a.ar=b.ar
 case neg =>
  simp[go_sem,i,g];exact .zsc _
 simp[go_sem,i];refine t8 (qkX a.ts b.ts j) (.zk (zy _) (.zk (zy _) .nil)) ?_;simp[go_sem,i,g];exact .zsc _
theorem WK.ints{full}(l):WK (.lst full (l.map rI)) (lI l):=WK.lst fun r i c g=>by
 obtain⟨n,_,rfl⟩:=qp.1 i;simp at g;subst g;exact HF.sc _
theorem mK(a b)(hl:a.ts.length<=4611686018427387904):qj qg 64 [eRel a,eRel b] (aB (decide (a=b))):=by
 have o:(a=b)=(a.ar=b.ar/\a.ts=b.ts):=by cases a;cases b;simp
 refine qSV call64 func64 rfl ?_;by_cases p:a.ar=b.ar
 case neg =>
  simp[go_sem,p,o];exact .zsc _
 by_cases j:a.ts.length=b.ts.length
 case neg =>
  simp[go_sem,p,j];rw[decide_eq_false (by rintro rfl;exact j rfl)];exact .zsc _
 simp[go_sem,p,j];refine qm.up a.ts.length (fun k U=>U.tm 2 = .ip [aI a.ar,lI a.ts]/\U.tm 3 = .ip [aI b.ar,lI b.ts]/\U.tm 5=aI k/\U.mu=[]/\∀(i:Nat)(h:i<a.ts.length)(I:i<b.ts.length),i<k->a.ts[i]=b.ts[i]) ?_ ?_
 .simp [go_sem,p]
 rintro k U hk ⟨t,T,C,P,he⟩;by_cases g:k<a.ts.length
 .have l:k<b.ts.length:=by omega
  by_cases J:a.ts[k]=b.ts[k]
  .simp [go_sem,t,C,P,g]
   refine tJ zKr ?_;simp[go_sem,t,T,C,g,l,J];refine⟨zWr,fun i h I hi=>?_⟩;rcases JA.1 hi with j|j
   .exact he i h I j
   .subst j;exact J
  .simp [go_sem,t,C,P,g]
   refine tJ zKr ?_;simp[go_sem,t,T,C,g,l,J];rw[decide_eq_false (by rintro rfl;exact J rfl)];exact .zsc _
 .have R:k=a.ts.length:=by omega
  subst R;simp[go_sem,t,C,P];rw[decide_eq_true (o ▸ ⟨p,List.ext_getElem j fun i h I=>he i h I h⟩)];exact .zsc _
theorem add06(l r)(hl:l.length<=1000000):qj qg 182 [lI l,aI r] (lI (addL l r)):=by
 refine qSU call182 func182 rfl ?_;refine qm.up l.length (fun k U=>U.tm 0=lI l/\U.tm 1=aI r/\U.tm 5=aI ((l.length-k:Nat):Int)/\U.mu=[]/\atN l r l.length=atN l r (l.length-k)) ?_ ?_
 .simp [go_sem]
 rintro k U hk ⟨t,C,I,J,he⟩;have P:l.length-k<=l.length:=zOm;have a5:l.length-(k+1)=l.length-k-1:=zOm;have a6:0<l.length-k->k<l.length:=zOm;generalize hn:l.length-k=n at *
 have g:atN l r l.length=n->addL l r=if l[n]?=some r then l else l.take n++[r]++l.drop n:=fun h=>by unfold addL;rw[h]
 by_cases a7:n=0
 .have g:=g (by rw[he,a7];rfl)
  have z1:¬ 0<n:=zOm;by_cases R:l[n]?=some r
  .rw [if_pos R]at g
   obtain⟨o,a0⟩:=ql.1 R;simp[go_sem,t,C,I,J,z1,o,a0];rw[g];exact .hf _ (zy _)
  rw[if_neg R]at g;have a1:∀ h:n<l.length,¬l[n]=r:=fun h e=>R (by rw[qy h,e])
  by_cases o:n<l.length<;>simp[go_sem,t,C,I,J,z1,o,a1]
  all_goals
   refine⟨⟨_,_,⟨rfl,rfl⟩,(jD l).ok⟩,?_⟩;simp only[if_pos P];simp[go_sem];refine qx.ints (lo:=0) (e:=3) (bt:=8) (z:=0) (xs:=[]) (ys:=l.take n) zSi zSi zSi zOm (OwnF.lit [] (wh _)) (by simp[qA]) zSo ?_;intro a8 a9 a2 _;simp[go_sem,t,C,I,J];refine qx.ints (lo:=0) (e:=3) (bt:=8) (z:=0) (xs:=l.take n) (ys:=[r]) zSi zSi zSi zOm a2 (by simp[qA]) zSo ?_;intro aa ab a3 _;simp[go_sem,t,C,I,J];refine⟨⟨_,_,⟨rfl,rfl⟩,(jD l).ok⟩,?_⟩;simp only[if_pos P];simp[go_sem];refine qx.ints (lo:=0) (e:=3) (bt:=8) (z:=0) (xs:=l.take n++[r]) (ys:=l.drop n) zSi zSi zSi zOm a3 (by rw[zU zSp];simp[qA]) zSo ?_;intro ad ae a4 _;simp[go_sem,t,C,I,J];rw[g];exact a4.rdI
 have z1:0<n:=zOm;have T:n-1<l.length:=zOm;have hw:qo.wrap ((n:Int)-1)=((n-1:Nat):Int):=by rw[zWr];omega
 have af:atN l r n=if r<=l[n-1] then atN l r (n-1) else n:=by
  rw[<-ji T]
  conv=>lhs;rw[show n=(n-1)+1 by omega,atN]
  split
  .rfl
  .omega
 rw[af]at he;by_cases hr:r<=l[n-1]
 .rw [if_pos hr]at he
  simp[go_sem,t,C,I,J,z1,hw,T,hr];exact⟨a6 z1,a5.symm,by rw[a5];exact he⟩
 .rw [if_neg hr]at he
  have g:=g he;by_cases R:l[n]?=some r
  .rw [if_pos R]at g
   obtain⟨o,a0⟩:=ql.1 R;simp[go_sem,t,C,I,J,z1,hw,T,hr,o,a0];rw[g];exact .hf _ (zy _)
  rw[if_neg R]at g;have a1:∀ h:n<l.length,¬l[n]=r:=fun h e=>R (by rw[qy h,e])
  by_cases o:n<l.length<;>simp[go_sem,t,C,I,J,z1,hw,T,hr,o,a1]
  all_goals
   refine⟨⟨_,_,⟨rfl,rfl⟩,(jD l).ok⟩,?_⟩;simp only[if_pos P];simp[go_sem];refine qx.ints (lo:=0) (e:=3) (bt:=8) (z:=0) (xs:=[]) (ys:=l.take n) zSi zSi zSi zOm (OwnF.lit [] (wh _)) (by simp[qA]) zSo ?_;intro a8 a9 a2 _;simp[go_sem,t,C,I,J];refine qx.ints (lo:=0) (e:=3) (bt:=8) (z:=0) (xs:=l.take n) (ys:=[r]) zSi zSi zSi zOm a2 (by simp[qA]) zSo ?_;intro aa ab a3 _;simp[go_sem,t,C,I,J];refine⟨⟨_,_,⟨rfl,rfl⟩,(jD l).ok⟩,?_⟩;simp only[if_pos P];simp[go_sem];refine qx.ints (lo:=0) (e:=3) (bt:=8) (z:=0) (xs:=l.take n++[r]) (ys:=l.drop n) zSi zSi zSi zOm a3 (by rw[zU zSp];simp[qA]) zSo ?_;intro ad ae a4 _;simp[go_sem,t,C,I,J];rw[g];exact a4.rdI
theorem aY{mu j ts full}:Rd mu (.agg [aI j,.lst full (ts.map rI)]) (eRel ⟨j,ts⟩):=by
 refine .agg _ _ rfl (fun k x y g i=>?_)
 match k with
 | 0=>simp at g i;subst g;subst i;exact .zsc _
 | 1=>simp at g i;subst g;subst i;exact .wk _ full _ (.hf _ (HF.lst fun r o c l=>by
   obtain⟨n,_,rfl⟩:=qp.1 o;simp at l;subst l;exact HF.sc _))
 |k+2=>simp at g
theorem of06(t ts)(P:ts.length<=100000):qj qg 105 [aI t,lI ts] (eRel ⟨t,ofL ts⟩):=by
 refine qSU call105 func105 rfl ?_;refine qm.up ts.length (fun k U=>U.tm 1=lI ts/\U.tm 4 = .ptr 0 0/\U.tm 5 = .ptr 1 0/\U.tm 6=aI k/\∃ full,U.mu=[.arr [aI 0,.lst true []],.arr [aI t,.lst full ((ofL (ts.take k)).map rI)]]) ?_ ?_
 .simp [go_sem,ofL]
 rintro k U R ⟨j,l,o,p,full,i⟩;have I:=n9 ts k;by_cases g:k<ts.length
 .have J:=n8 ts k g
  generalize ofL (ts.take k)=cur at *
  simp[go_sem,j,l,o,p,i,g];refine tJ zKr ?_;simp[go_sem,j,l,o,p,i,g];refine t8 (add06 cur ts[k] zOm) (.cons (WK.ints cur) (.zs .nil)) ?_;simp[go_sem,j,l,o,p,i,g];exact⟨zWr,by rw[J]⟩
 .have C:k=ts.length:=by omega
  subst C;rw[za]at i;simp[go_sem,j,l,o,p,i];exact aY
end E4
namespace EO
open YS
section
variable {C:Type}{s:AV}{K:AV->Mu->Prop}{l:List Int}{mu:Mu}{P:qc}
def FnOk(P:qc)(o:AV){C:Type}(enc:C->AV)(ok:C->Prop)(g:C->AV):Prop:=
 HF o/\∃ l first j,o = .fn (.func l) first j/\∀ x,ok x->∃ i,WKs (first++[enc x]++j) i/\qj P l i (g x)
theorem FnOk.call{o enc ok g}(h:FnOk P o enc ok g){x:C}(p:ok x){det mu K t}(k:K (g x) mu):qi P det mu o [enc x] K t:=by
 obtain⟨_,l,first,j,rfl,h⟩:=h;obtain⟨i,I,J⟩:=h x p;exact .inl ⟨g x,.inl ⟨l,first,j,i,rfl,J,.inl I⟩,k⟩
def qq:AV->Option Nat
 | .sl b _ _ _=>some b
 |_=>none
def OwnI(mu:Mu)(s:AV)(l:List Int):Prop:=(s = .lst true []/\l=[])\/∃ b,s = .sl b 1 0 l.length/\mu[b]?=some (.arr (l.map aI))
def OwnV(mu:Mu)(s:AV)(l:List Int):Prop:=(s = .lst true []/\l=[])\/∃ b cells,s = .sl b 1 0 l.length/\mu[b]?=some (.arr cells)/\l.length<=cells.length/\cells.take l.length=l.map aI
theorem OwnI.v(h:OwnI mu s l):OwnV mu s l:=by
 rcases h with h|⟨b,g,i⟩
 .exact .inl h
 .exact .inr ⟨b,_,g,i,zSp,by rw[zU zSp]⟩
theorem OwnV.one(h:OwnV mu s l):s.one=true:=by
 rcases h with ⟨rfl,_⟩|⟨b,c,rfl,_⟩<;>rfl
theorem OwnV.cells(h:OwnV mu s l):s.cells=[s]:=by
 rcases h with ⟨rfl,_⟩|⟨b,c,rfl,_⟩<;>rfl
theorem OwnV.same{mu'}(h:OwnV mu s l)(g:∀ b,qq s=some b->mu'[b]?=mu[b]?):OwnV mu' s l:=by
 rcases h with h|⟨b,c,rfl,i,j,o⟩
 .exact .inl h
 .exact .inr ⟨b,c,rfl,by rw[g b rfl];exact i,j,o⟩
theorem OwnI.same{mu'}(h:OwnI mu s l)(g:∀ b,qq s=some b->mu'[b]?=mu[b]?):OwnI mu' s l:=by
 rcases h with h|⟨b,rfl,i⟩
 .exact .inl h
 .exact .inr ⟨b,rfl,by rw[g b rfl];exact i⟩
theorem OwnV.lt(h:OwnV mu s l){b}(g:qq s=some b):b<mu.length:=by
 rcases h with ⟨rfl,_⟩|⟨j,c,rfl,i,_⟩
 .cases g
 .cases g;exact(ql.1 i).1
theorem OwnV.rd(h:OwnV mu s l):Rd mu s (lI l):=by
 rcases h with ⟨rfl,rfl⟩|⟨b,cells,rfl,p,t,o⟩
 .exact .wk _ true _ (.hf _ (HF.lst fun r C=>by simp at C))
 .refine .sl b 1 0 _ cells _ p (zUs t) zSp (fun x g=>by
   obtain⟨l,_,rfl⟩:=qp.1 g;rfl) (fun k x y g j=>?_)
  rw[yJ]at g;rw[wK,<-o,vf]at j;split at j
  .rw [g]at j;cases j
   have:x∈cells.take l.length:=by
    refine q8 (i:=k) ?_;rw[vf,if_pos (by assumption)];exact g
   rw[o]at this;obtain⟨z,_,rfl⟩:=qp.1 this;exact .zsc _
  grind
theorem aH{t g e bt:Nat}{x ys z}(I:qF P t=some (e,1,bt))(j:(qF P g).isSome=true)(J:qB P e=some (aI z))
  (R:bt<=16384) (T:OwnV mu s l) (U:qA mu x=some (ys.map rI)) (C:l.length+ys.length<=4294967296)
  (k:∀ av mu',OwnI mu' av (l++ys)->(∀ i,i<mu.length->qq s≠some i->mu'[i]?=mu[i]?)->mu.length<=mu'.length->(∀ b,qq av=some b->b=mu.length)->K av mu'):qx P mu #[t,g] s x K:=by
 refine .inl ⟨t,g,e,1,bt,ys.map rI,rfl,I,j,⟨_,J,rfl,rfl⟩,zOm,R,U,jD ys,?_⟩;rcases T with ⟨rfl,rfl⟩|⟨b,cells,rfl,hc,h1,h2⟩
 .refine .inl ⟨[],rfl,fun r hr=>by simp at hr,zUs C,fun h=>?_,fun h=>?_⟩
  .have:ys=[]:=by simpa using h
   subst this;exact k _ _ (.inl ⟨rfl,rfl⟩) (fun _ _ _=>rfl) (qn _) (fun _ h=>by cases h)
  .refine k _ _ (.inr ⟨mu.length,zSp,by simp[wK]⟩) (fun i o _=>?_) zSp (fun b h=>by cases h;rfl)
   rw[qL o]
 .refine .inr ⟨b,l.length,cells,rfl,hc,zUs h1,zUs C,?_⟩
  have e1:cells.take (l.length*1)++(ys.map rI).flatten=(l++ys).map aI:=by rw[Nat.mul_one,h2,zi,wK]
  have e2:l.length+(ys.map rI).length=(l++ys).length:=zSp;rw[e1,e2];refine k _ _ (.inr ⟨mu.length,rfl,?_⟩) (fun i o p=>?_) zSp (fun b h=>by cases h;rfl)
  .simp
  .rw [qL (zUs o),yH (fun h=>p (by rw[h];rfl))]
theorem aV{t o e bt:Nat}{x z}(p:qF P t=some (e,1,bt))(g:(qF P o).isSome=true)(C:qB P e=some (aI z))
  (I:bt<=16384) (J:OwnV mu s l) (R:l.length+1<=4294967296)
  (k:∀ av mu',OwnI mu' av (l++[x])->(∀ i,i<mu.length->qq s≠some i->mu'[i]?=mu[i]?)->mu.length<=mu'.length->(∀ b,qq av=some b->b=mu.length)->K av mu'):qx P mu #[t,o] s (.lst true [[aI x]]) K:=
 aH (ys:=[x]) p g C I J rfl R k
theorem sumG(l)(P:l.length<=1000000)(C:∀ k,0<=sumI (l.take k)/\sumI (l.take k)<=1000000):qj qg 83 [lI l] (aI (sumI l)):=by
 refine qSU call83 func83 rfl ?_;refine qm.up l.length (fun k U=>U.tm 6=lI l/\U.tm 7=aI l.length/\U.tm 3=aI (sumI (l.take k))/\U.tm 8=aI k/\U.mu=[]) ?_ ?_
 .simp [go_sem,sumI]
 rintro k U R ⟨I,e7,o,p,t⟩;by_cases g:k<l.length
 .have J:=wH l k g
  have i:=C (k+1);rw[J]at i;simp[go_sem,I,e7,o,p,t,g]
  grind [yh]
 .have j:k=l.length:=by omega
  subst j;simp[go_sem,e7,o,p,t];exact .zsc _
theorem YP(sc)(g:GSc sc):qj qg 39 [eSc sc] (aI (sumI sc.sC)):=by
 refine qSU call39 func39 rfl ?_;refine fW (sumG _ (zQ g.1 zOm) fun k=>zW1 (g.sum k)) (.zk (zy _) .nil) ?_;exact .zsc _
theorem XU(sc)(g:GSc sc)(s)(i:s<=sc.sC.length):qj qg 170 [eSc sc,aI s] (aI (sumI (sc.sC.take s))):=by
 refine qSV call170 func170 rfl ?_;have j:WKs [.lst false ((sc.sC.map rI).take s)] [lI (sc.sC.take s)] := .cons (by rw[<-List.map_take];exact .hf (zy _)) .nil;simp[go_sem,i];refine⟨⟨_,_,⟨rfl,rfl⟩,(jD sc.sC).ok⟩,?_⟩;refine fW (sumG (sc.sC.take s) (by simp;have:=g.1;omega) fun k=>by rw[List.take_take];have:=g.sum (min k s);omega) j ?_;exact .zsc _
def vA(p:C->Bool):List C->Int->Int
 | [],_ => -1
 |x :: l,i=>if p x=true then i else vA p l (i+1)
theorem mL(p)(l:List C)(k i h):vA p (l.drop k) i=if p l[k]=true then i else vA p (l.drop (k+1)) (i+1):=by
 rw[ze h,vA]
theorem XV(p):∀(l:List C)(i),0<=i->decide (0<=vA p l i)=l.any p
 | [],i,h=>by simp[vA]
 |x :: l,i,h=>by
  rw[vA,List.any_cons];cases g:p x with
  |true=>simp[h]
  |false=>simpa using XV p l (i+1) zOm
theorem qkY(xs y)(J:xs.length<=1000000000):qj qg 247 [lI xs,aI y] (aI (vA (fun x=>decide (x=y)) xs 0)):=by
 refine qSU call247 func247 rfl ?_;refine qm.up xs.length (fun k U=>U.tm 0=lI xs/\U.tm 1=aI y/\U.tm 7=aI xs.length/\U.tm 8=aI k/\U.mu=[]/\vA (fun x=>decide (x=y)) (xs.drop k) k=vA (fun x=>decide (x=y)) xs 0) ?_ ?_
 .simp [go_sem]
 rintro k U P ⟨C,I,e7,l,o,i⟩;by_cases g:k<xs.length
 .rw [mL _ _ _ _ g]at i
  by_cases j:xs[k]=y
  .rw [if_pos (zUs j)]at i
   subst j;simp[go_sem,C,I,e7,l,o,g];rw[<-i];exact .zsc _
  .rw [if_neg (zUs j)]at i
   have p:¬y=xs[k]:=fun h=>j h.symm
   simp[go_sem,C,I,e7,l,o,g,p]
   grind [yh]
 .have t:k=xs.length:=by omega
  subst t;rw[yf]at i;simp[go_sem,e7,l,o];rw[<-i];exact .zsc _
theorem qkZ(xs y)(g:xs.length<=1000000000):qj qg 193 [lI xs,aI y] (aB (decide (y∈xs))):=by
 refine qSU call193 func193 rfl ?_;refine t8 (qkY xs y g) (.zk (zy _) (.zs .nil)) ?_;have e:decide (y∈xs)=decide (0<=vA (fun x=>decide (x=y)) xs 0):=by
  rw[XV _ _ _ zOm,uc,List.any_eq_true];simp
 rw[e];simp[go_sem];exact .zsc _
abbrev lB(xs:List Bool):AV := .lst false (xs.map fun b=>[aB b])
theorem UE(xs):HF (lB xs):=HF.lst fun r g c i=>by
 obtain⟨n,_,rfl⟩:=qp.1 g
 grind [HF.sc]
theorem qk0(xs y)(J:xs.length<=1000000000):qj qg 192 [lB xs,aB y] (aI (vA (fun x=>decide (x=y)) xs 0)):=by
 refine qSU call192 func192 rfl ?_;refine qm.up xs.length (fun k U=>U.tm 0=lB xs/\U.tm 1=aB y/\U.tm 7=aI xs.length/\U.tm 8=aI k/\U.mu=[]/\vA (fun x=>decide (x=y)) (xs.drop k) k=vA (fun x=>decide (x=y)) xs 0) ?_ ?_
 .simp [go_sem]
 rintro k U P ⟨C,I,e7,j,l,i⟩;by_cases g:k<xs.length
 .rw [mL _ _ _ _ g]at i
  by_cases o:xs[k]=y
  .rw [if_pos (zUs o)]at i
   subst o;simp[go_sem,C,I,e7,j,l,g];rw[<-i];exact .zsc _
  .rw [if_neg (zUs o)]at i
   have p:(y == xs[k])=false:=by grind
   simp[go_sem,C,I,e7,j,l,g,p]
   grind [yh]
 .have t:k=xs.length:=by omega
  subst t;rw[yf]at i;simp[go_sem,e7,j,l];rw[<-i];exact .zsc _
theorem qk1(xs y)(g:xs.length<=1000000000):qj qg 126 [lB xs,aB y] (aB (decide (y∈xs))):=by
 refine qSU call126 func126 rfl ?_;refine t8 (qk0 xs y g) (.zk (UE _) (.zs .nil)) ?_;have e:decide (y∈xs)=decide (0<=vA (fun x=>decide (x=y)) xs 0):=by
  rw[XV _ _ _ zOm,uc,List.any_eq_true];simp
 rw[e];simp[go_sem];exact .zsc _
end
end EO
namespace F1
open Y1 YF E3 EO
abbrev cMa(x:Mo):List AV:=cMd x.m++(cTS x.ts++[aI x.n])
abbrev eMa(x:Mo):AV := .ip (cMa x)
abbrev cPl(p:Pl):List AV:=[aI p.st,lPm p.env]
abbrev ePl(p:Pl):AV := .agg (cPl p)
theorem qk2(l):HF (lSt l):=HF.lst fun r i c g=>by
 obtain⟨n,_,rfl⟩:=qp.1 i;simp at g;subst g;exact nu _
theorem mM(m):∀ c,c∈cMd m->HF c:=by
 intro c g;simp at g;rcases g with rfl|rfl|rfl|rfl
 .exact zy _
 .exact HF.sc _
 .exact qk2 _
 .exact HF.sc _
theorem Vf(m):HF (eMd m):=HF.agg (mM m)
theorem z8(x):HF (eMa x):=HF.ip fun c g=>by
 rcases qP.1 g with g|g
 .exact mM _ c g
 .rcases qP.1 g with g|g
  .exact J5 _ c g
  .rw [qX]at g;subst g;exact HF.sc _
theorem UF(p):HF (ePl p):=HF.agg fun c g=>by
 simp at g;rcases g with rfl|rfl
 .exact HF.sc _
 .exact j5 _
theorem wk3(x p n):WKs [eMa x,ePl p,eNd n] [eMa x,ePl p,eNd n] := .zk (z8 x) (.zk (UF p) (.zk (qE n) .nil))
abbrev errV(e:Int):AV := .ifc 45 (aI e)
theorem qN(e):HF (errV e):=HF.ifc (HF.sc _)
def endE:XE Rl->AEnd
 | .ok r => .ret (eRel r)
 | .error e => .pan (errV e)
def endN:XE Int->AEnd
 | .ok r => .ret (aI r)
 | .error e => .pan (errV e)
def endB:XE Bool->AEnd
 | .ok r => .ret (aB r)
 | .error e => .pan (errV e)
def end2:XE (Rl×Rl)->AEnd
 | .ok r => .ret (.tup [eRel r.1,eRel r.2])
 | .error e => .pan (errV e)
@[go_sem] theorem endE_ok(r):endE (.ok r) = .ret (eRel r):=rfl
@[go_sem] theorem endE_err(e):endE (.error e) = .pan (errV e):=rfl
@[go_sem] theorem endN_ok(r):endN (.ok r) = .ret (aI r):=rfl
@[go_sem] theorem endN_err(e):endN (.error e) = .pan (errV e):=rfl
@[go_sem] theorem endB_ok(r):endB (.ok r) = .ret (aB r):=rfl
@[go_sem] theorem endB_err(e):endB (.error e) = .pan (errV e):=rfl
@[go_sem] theorem end2_ok(r):end2 (.ok r) = .ret (.tup [eRel r.1,eRel r.2]):=rfl
@[go_sem] theorem end2_err(e):end2 (.error e) = .pan (errV e):=rfl
theorem wP(e):qR qg 118 [aI e] (.pan (errV e)):=by
 refine zd.of_sound ?_;refine qSW call118 func118 rfl {} ?_;simp[go_sem];exact⟨_,_,⟨rfl,rfl⟩,.hf _ (qN _)⟩
theorem wkI(e):WKs [aI e] [aI e] := .zs .nil
theorem UG(r e):qR qg 184 [eRel r,aI e] (if e=0 then .ret (eRel r) else .pan (errV e)):=by
 refine zd.of_sound ?_;refine qSW call184 func184 rfl {} ?_;by_cases h:e=0
 .simp [go_sem,h]
  exact .hf _ (qr r)
 .simp [go_sem,h]
  refine aC (wP e) (wkI e) ?_;simp[go_sem];exact .hf _ (qN _)
theorem qk3(x)(g:GSc x.m.sc):qj qg 44 [eTS x.ts,eMd x.m] (eMa x):=by
 refine qSU call44 func44 rfl ?_;refine fD ?_;refine fW (YP x.m.sc g) (.zk (zD _) .nil) ?_;exact .hf _ (z8 x)
theorem qk4(mu b e)(i:mu[b]?=some (.arr [aI e])):yo qg 43 [.ptr b 0] mu none fun mu'=>mu'=mu:=by
 refine yo.of_awp call43 func43 rfl ⟨_,_,_,_,rfl⟩ (vd zKr) zKr zKr (pl:={}) ?_;simp[go_sem]
theorem qk5(mu b y e)(i:mu[b]?=some (.arr [aI y])):yo qg 43 [.ptr b 0] mu (some (errV e)) fun mu'=>mu'=mu.set b (.arr [aI e]):=by
 refine yo.of_awp call43 func43 rfl ⟨_,_,_,_,rfl⟩ (vd zKr) zKr zKr (pl:={}) ?_;simp[go_sem,i]
end F1
namespace EP
open E1 EO
section
variable {C:Type}{cs:List (Int×AV)}{g:List (Int×List Int)}{mu:Mu}{b:Nat}
theorem keyI:KeyT qg 3 (fun n:Int=>aI n) (fun _=>True):=by
 refine⟨fun a b _ _=>?_,fun a _=>zSi⟩;simp[go_sem]
theorem ya{l:List C}{n}(h):l.take (n+1)=l.take n++[l[n]]:=by rw[List.take_add_one,qy h];rfl
def cntK(f:Int->Int)(ts:List Int):List (Int×Int):=ts.foldl (fun m t=>setK (f t) ((getK (f t) m).getD 0+1) m) []
theorem mN(f ts t):cntK f (ts++[t])=setK (f t) ((getK (f t) (cntK f ts)).getD 0+1) (cntK f ts):=by simp[cntK,uI]
theorem UH(f)(ts:List Int):∀ n,n<=ts.length->∀ k,0<=(getK k (cntK f (ts.take n))).getD 0/\(getK k (cntK f (ts.take n))).getD 0<=n/\(0<(getK k (cntK f (ts.take n))).getD 0↔∃ t,t∈ts.take n/\f t=k)
 | 0,_,k=>by simp[cntK,getK]
 |n+1,h,k=>by
  obtain⟨l,p,o⟩:=UH f ts n zOm k;have i:n<ts.length:=zOm;obtain⟨g1,C,_⟩:=UH f ts n zOm (f ts[n]);rw[ya i,mN,uo];by_cases j:k=f ts[n]
  .rw [if_pos j]
   simp only[Option.getD_some];exact⟨zOm,zOm,fun _=>⟨ts[n],List.mem_append_right _ (qX.2 rfl),j.symm⟩,fun _=>zOm⟩
  .rw [if_neg j]
   refine⟨l,zOm,o.trans ⟨fun⟨t,g,e⟩=>⟨t,jh _ g,e⟩,fun⟨t,g,e⟩=>?_⟩⟩;rcases qP.1 g with g|g
   .grind
   grind
theorem mO(f ts k):0<=(getK k (cntK f ts)).getD 0/\(0<(getK k (cntK f ts)).getD 0↔∃ t,t∈ts/\f t=k):=by
 have:=UH f ts ts.length (qn _) k
 grind
def grpK(m:Int)(ys:List Int):List (Int×List Int):=ys.foldl (fun g y=>setK (y / m) ((getK (y / m) g).getD []++[y % m]) g) []
theorem mP(m ys y):grpK m (ys++[y])=setK (y / m) ((getK (y / m) (grpK m ys)).getD []++[y % m]) (grpK m ys):=by simp[grpK,uI]
theorem UI(m)(ys:List Int):∀ n,n<=ys.length->∀ k,(getK k (grpK m (ys.take n))).getD []=((ys.take n).filter fun y=>decide (y / m=k)).map fun y=>y % m
 | 0,_,k=>by simp[grpK,getK]
 |n+1,h,k=>by
  have j:=UI m ys n zOm;have i:n<ys.length:=zOm;rw[ya i,mP,uo,List.filter_append,zi];by_cases g:k=ys[n] / m
  .rw [if_pos g,Option.getD_some,<-g,j k]
   simp[g]
  .rw [if_neg g,j k]
   have:¬ys[n] / m=k:=fun e=>g e.symm
   simp[this]
theorem mQ{i}(q:Int->Int)(v:List (Int×i)->Int->i):∀(l:List Int)(g),(g.map Prod.fst).Nodup->((l.foldl (fun g y=>setK (q y) (v g y) g) g).map Prod.fst).Nodup
 | [],g,h=>h
 |y :: l,g,h=>mQ q v l _ (Us h)
theorem qk6(m ys):((grpK m ys).map Prod.fst).Nodup:=mQ (fun y=>y / m) (fun g y=>(getK (y / m) g).getD []++[y % m]) ys [] zSp
theorem mR{g}(k v w):∀{es:List (Int×C)}{fs:List (Int×g)},es.map Prod.fst=fs.map Prod.fst->(setK k v es).map Prod.fst=(setK k w fs).map Prod.fst
 | [],[],_=>rfl
 |e :: es,f :: fs,h=>by
  simp only[zf,vK]at h;unfold setK;rw[<-h.1];split
  .simp [h.2]
  .simp [h.1,mR k v w h.2]
 | [],_ :: _,h=>by simp at h
 |_ :: _,[],h=>by simp at h
theorem mS{g}(k):∀{es:List (Int×C)}{fs:List (Int×g)},es.map Prod.fst=fs.map Prod.fst->(getK k es=none↔getK k fs=none)
 | [],[],_=>by simp[getK]
 |e :: es,f :: fs,h=>by
  simp only[zf,vK]at h;unfold getK;rw[<-h.1];split
  .simp
  .exact mS k h.2
 | [],_ :: _,h=>by simp at h
 |_ :: _,[],h=>by simp at h
structure GrpM (mu:Mu) (b:Nat) (g:List (Int×List Int)) (cs:List (Int×AV)):Prop where
 at0:mu[b]?=some (.mp (encK (fun n:Int=>aI n) id cs))
 keys:cs.map Prod.fst=g.map Prod.fst
 own:∀ k v,getK k cs=some v->∃ l,getK k g=some l/\OwnI mu v l
 inj:∀ k k' v v' x,getK k cs=some v->getK k' cs=some v'->qq v=some x->qq v'=some x->k=k'
 ne:∀ k v,getK k cs=some v->qq v≠some b
theorem GrpM.cur(h:GrpM mu b g cs)(k):OwnI mu ((getK k cs).getD (.lst true [])) ((getK k g).getD []):=by
 cases i:getK k cs with
 |none=>rw[(mS k h.keys).1 i];exact .inl ⟨rfl,rfl⟩
 |some v=>obtain⟨l,j,o⟩:=h.own k v i;rw[j];exact o
theorem GrpM.step{mu'}(h:GrpM mu b g cs){k av l}(ho:OwnI mu' av l)(hs:∀ i,i<mu.length->qq ((getK k cs).getD (.lst true []))≠some i->mu'[i]?=mu[i]?)(hb:∀ x,qq av=some x->x=mu.length) :
  mu'[b]?=some (.mp (encK (fun n:Int=>aI n) id cs))/\GrpM (mu'.set b (.mp (encK (fun n:Int=>aI n) id (setK k av cs)))) b (setK k l g) (setK k av cs):=by
 have T:b<mu.length:=(ql.1 h.at0).1;have U:qq ((getK k cs).getD (.lst true []))≠some b:=by
  cases j:getK k cs with
  |none=>simp[qq]
  |some v=>exact h.ne k v j
 have a0:=hs b T U;have I:b<mu'.length:=by
  grind
 have a4:qq av≠some b:=fun e=>by grind
 have keep:∀{v:AV}{l:List Int},OwnI mu' v l->qq v≠some b->OwnI (mu'.set b (.mp (encK (fun n:Int=>aI n) id (setK k av cs)))) v l:=fun o hn=>o.same fun x J=>by
  grind
 have a1:∀{p:Int}{v:AV}{l:List Int},p≠k->getK p cs=some v->OwnI mu v l->OwnI mu' v l:=fun a2 j o=>o.same fun x J=>by
  have a3:=o.v.lt J;refine hs x a3 fun e=>?_
  cases hc:getK k cs with
  |none=>grind [qq]
  |some w=>rw[hc]at e;exact a2 (h.inj _ _ _ _ x j hc J e)
 refine⟨by rw[a0];exact h.at0,by rw[qJ I],mR k _ _ h.keys,fun p v j=>?_,fun k1 k2 v1 v2 x t C h1 h2=>?_,fun p v j=>?_⟩
 .rw [uo]at j⊢
  by_cases e:p=k
  .grind
  .rw [if_neg e]at j⊢
   obtain⟨l',h1,h2⟩:=h.own p v j;exact⟨l',h1,keep (a1 e j h2) (h.ne p v j)⟩
 .rw [uo]at t C
  have lt:∀{p v},getK p cs=some v->qq v=some x->x<mu.length:=fun j J=>by
   obtain⟨l',_,o⟩:=h.own _ _ j;exact o.v.lt J
  by_cases R:k1=k
  .by_cases P:k2=k
   .rw [R,P]
   .rw [if_pos R]at t;rw[if_neg P]at C;grind
  .by_cases P:k2=k
   .rw [if_neg R]at t;rw[if_pos P]at C;grind
   .rw [if_neg R]at t;rw[if_neg P]at C
    exact h.inj _ _ _ _ x t C h1 h2
 .rw [uo]at j
  by_cases e:p=k
  .grind
  .rw [if_neg e]at j;exact h.ne p v j
theorem GrpM.nil(h:mu[b]?=some (.mp [])):GrpM mu b [] []:=⟨h,rfl,fun k v g=>by simp[getK]at g,fun k i v j x g=>by simp[getK]at g,fun k v g=>by simp[getK]at g⟩
theorem GrpM.rd(h:GrpM mu b g cs)(I:(g.map Prod.fst).Nodup):Rd mu (.mp b) (.im (encK (fun n:Int=>aI n) lI g)):=by
 have t:cs.length=g.length:=by have:=congrArg List.length h.keys;grind
 have C:(cs.map Prod.fst).Nodup:=by rw[h.keys];exact I
 refine .mp b _ _ h.at0 (by simp[encK,t]) (fun k x y i j=>?_) (fun k x y i j=>?_)
 .have e:=congrArg (fun l=>l[k]?) h.keys
  simp only[zz]at e i j;cases o:cs[k]? with
  |none=>grind
  |some c =>
   cases p:g[k]? with
   |none=>grind
   |some d =>
    rw[o]at i;rw[p]at j;rw[o,p]at e;cases i;cases j;simp only[zh,qs]at e;simp only[e];exact .zsc _
 .have e:=congrArg (fun l=>l[k]?) h.keys
  simp only[zz]at e i j;cases o:cs[k]? with
  |none=>grind
  |some c =>
   cases p:g[k]? with
   |none=>grind
   |some d =>
    rw[o]at i;rw[p]at j;rw[o,p]at e;cases i;cases j;simp only[zh,qs]at e;obtain⟨l,J,P⟩:=h.own c.1 c.2 ((ZT C).2 (q8 o));rw[e]at J;have:=(ZT I).2 (q8 p:(d.1,d.2)∈g);rw[J]at this;cases this;exact P.v.rd
theorem qk7(n m x y):(x.flatMap fun s=>((getK (s % n) (grpK m y)).getD []).map fun t=>s / n*m+t)=joL n m x y:=by
 unfold joL;congr 1;funext s;have:=UI m y y.length (qn _) (s % n);simp_all
end
end EP
namespace EQ
open E1 EJ EM EN EO
theorem aJ{P mu}{t g e bt n:Nat}{z K}(i:qF P t=some (e,1,bt))(j:P.underlying g=some (.int .i64))(l:qB P e=some (aI z))(o:bt<=16384)(p:0<n)(C:n<=4294967296)
  (k:∀ c,K (.sl mu.length 1 0 n) (mu++[.arr c])):qx P mu #[t,g] (.lst true []) (aI n) K:=
 .inr (.inr ⟨t,g,e,1,bt,_,n,[],rfl,i,j,l,rfl,rfl,zOm,o,rfl,p,rfl,fun r I=>by simp at I,zUs C,by simpa using k _⟩)
theorem growE(mu)(n:Nat)(I:n<=1000000):qC qg 242 [.lst true [],aI n] mu fun e m=>∃ av,e = .ret av/\OwnV m av []/\(∀ i,i<mu.length->m[i]?=mu[i]?)/\mu.length<=m.length/\∀ b,qq av=some b->mu.length<=b:=by
 refine qSW call242 func242 rfl {} ?_;have j:qo.wrap 0=0:=zWr;have o:qo.wrap (n:Int)=n:=zWr;have g:¬(n:Int)<0:=zOm;by_cases p:n=0
 .subst p
  simp[go_sem,j];exact⟨.inl ⟨rfl,rfl⟩,by simp[qq]⟩
 .have l:0<n:=by omega
  simp[go_sem,j,o,g,l];refine⟨⟨_,_,⟨rfl,rfl⟩,fun r t=>by simp at t⟩,?_⟩;refine aJ (e:=3) (bt:=8) (z:=0) zSi zSi zSi zOm l zOm ?_;intro c;simp[go_sem];refine⟨.inr ⟨mu.length,c,rfl,zSp,zSp,zSp⟩,fun i C=>by rw[qL C],by simp[qq]⟩
theorem qk8(mu a b)(ha:a.length<=100000)(hb:b.length<=100000):qC qg 174 [.lst true [[lI a],[lI b]]] mu fun e m=>∃ av,e = .ret av/\OwnI m av (a++b)/\(∀ i,i<mu.length->m[i]?=mu[i]?)/\mu.length<=m.length/\∀ x,qq av=some x->mu.length<=x:=by
 refine qSW call174 func174 rfl {} ?_;have v1:qo.wrap 1=1:=zWr;have v2:qo.wrap 2=2:=zWr;simp[go_sem];have n0:¬((a.length:Int)+b.length)<0:=zOm;refine qm.up 2 (fun k U=>U.tm 0 = .lst true [[lI a],[lI b]]/\U.tm 3=aI ((if 0<k then (a.length:Int) else 0)+(if 1<k then (b.length:Int) else 0))/\U.tm 9 = .lst true [[lI a],[lI b]]/\U.tm 10=aI 2/\U.tm 11=aI k/\U.mu=mu) ?_ ?_
 .simp [go_sem]
 rintro k U hk ⟨e0,e3,e9,t,C,hm⟩;by_cases I:k<2
 .have:k=0\/k=1:=by omega
  rcases this with rfl|rfl
  .have w1:qo.wrap (a.length:Int)=a.length:=zWr
   have n1:¬(a.length:Int)<0:=zOm;simp[go_sem, *]
  .have w1:qo.wrap ((a.length:Int)+b.length)=a.length+b.length:=zWr
   simp[go_sem, *]
 .have:k=2:=by omega
  subst this;have g:=growE mu (a.length+b.length) zOm;simp[go_sem,e3,t,C,hm];refine aA (zUs g) ?_ ?_
  .rintro r m ⟨av,h,p,hs,hl,J⟩
   cases h;simp[go_sem,e0];refine qm.up 2 (fun k U=>U.tm 25 = .lst true [[lI a],[lI b]]/\U.tm 26=aI 2/\U.tm 27=aI k/\(if k=0 then OwnV U.mu (U.tm 6) [] else OwnI U.mu (U.tm 6) (if k=1 then a else a++b))/\(∀ i,i<mu.length->U.mu[i]?=mu[i]?)/\mu.length<=U.mu.length/\∀ x,qq (U.tm 6)=some x->mu.length<=x) ?_ ?_
   .simp_all [go_sem]
   rintro k a2 hk ⟨f25,f26,f27,p,hs,hl,J⟩;by_cases I:k<2
   .have:k=0\/k=1:=by omega
    rcases this with rfl|rfl
    .rw [if_pos rfl]at p
     simp[go_sem,f25,f26,f27];refine aH (e:=3) (bt:=8) (z:=0) (l:=[]) (ys:=a) zSi zSi zSi zOm p (by simp[qA]) zSo ?_;intro P R o T a0 a1;simp at o;simp[go_sem,f25,f26,f27,v1];refine⟨o,fun i hi=>?_,zOm,fun x hx=>?_⟩
     .grind
     grind
    .rw [zIn,if_pos rfl]at p
     simp[go_sem,f25,f26,f27];refine aH (e:=3) (bt:=8) (z:=0) (l:=a) (ys:=b) zSi zSi zSi zOm p.v (by simp[qA]) zOm ?_;intro P R o T a0 a1;simp[go_sem,f25,f26,f27,v2];refine⟨o,fun i hi=>?_,zOm,fun x hx=>?_⟩
     .grind
     grind
   .have:k=2:=by omega
    simp_all[go_sem]
  grind
theorem qk9(mu):qC qg 240 [.lst true []] mu fun e m=>e = .ret (.tup [])/\m=mu:=by
 refine⟨call240,fun G w o s g=>?_⟩;obtain⟨v,rfl,i⟩:=g.one_inv;obtain⟨p,cap,rfl⟩:∃ p cap,v = .slice p 0 cap:=by cases i<;>exact⟨_,_,rfl⟩
 refine(Tryz.slices_Sort_int_none p cap w).mono fun e t ⟨j,l⟩=>?_
 subst l;exact⟨G,mu,.refl s,.inl ⟨_,_,⟨rfl,rfl⟩,j,.tup [] #[] rfl zSp⟩⟩
theorem sortA(mu av l)(t:l.length<=1000000)(j:OwnI mu av l):qC qg 240 [av] mu fun e m=>e = .ret (.tup [])/\OwnI m av (srtI l)/\(∀ i,qq av≠some i->m[i]?=mu[i]?)/\m.length=mu.length:=by
 rcases j with ⟨rfl,rfl⟩|⟨b,rfl,g⟩
 .refine (qk9 mu).monoR ?_
  rintro e m ⟨rfl,rfl⟩;exact⟨rfl,.inl ⟨rfl,by simp[srtI]⟩,fun _ _=>rfl,rfl⟩
 .refine (sortE g zOm).monoR ?_
  rintro e m ⟨rfl,rfl⟩;have o:b<mu.length:=(ql.1 g).1;exact⟨rfl,.inr ⟨b,by rw[J2],by rw[qJ o]⟩,fun i p=>by rw[yH (fun e=>p (by rw[e];rfl))],zSp⟩
theorem qlA(mu av l)(o:l.length<=1000000)(p:OwnI mu av l):qC qg 241 [av] mu fun e m=>∃ x,e = .ret x/\OwnV m x (cmpc eqI l)/\(∀ i,qq av≠some i->m[i]?=mu[i]?)/\m.length=mu.length/\∀ b,qq x=some b->qq av=some b:=by
 rcases p with ⟨rfl,rfl⟩|⟨b,rfl,g⟩
 .refine qSW call241 func241 rfl {} ?_
  simp[go_sem];exact .inl ⟨rfl,rfl⟩
 .refine (qkU mu b l o g).monoR ?_
  rintro e m ⟨cells,rfl,rfl,J,j⟩;have t:b<mu.length:=(ql.1 g).1;refine⟨_,rfl,.inr ⟨b,cells,rfl,by rw[qJ t],?_,j⟩,fun i C=>by rw[yH (fun e=>C (by rw[e];rfl))],zSp,fun x I=>I⟩;have:=congrArg List.length j;simp at this;omega
theorem XW(mu P av l)(R:l.length<=1000000)(p:OwnI mu av l):qC qg 172 [aI P,av] mu fun e m=>∃ x,e = .ret (.agg [aI P,x])/\OwnV m x (ofL l)/\(∀ i,i<mu.length->qq av≠some i->m[i]?=mu[i]?)/\mu.length<=m.length/\∀ b,qq x=some b->qq av=some b:=by
 refine qSW call172 func172 rfl {} ?_;have t:OwnI (mu++[.arr [aI 0,.lst true []]]) av l:=p.same fun b T=>by rw[qL (p.v.lt T)]
 have C:qq av≠some mu.length:=fun h=>zW1 (p.v.lt h)
 simp[go_sem];refine aA (sortA _ av l R t) ?_ ?_
 .rintro r m ⟨h,I,a0,J⟩
  cases h;have a1:m.length=mu.length+1:=zUs J;simp[go_sem];refine aA (qlA _ av _ (by rw[J2];exact R) I) ?_ ?_
  .rintro r U ⟨x,h,g,a2,a3,j⟩
   cases h;rw[qkS]at g;have hc:U[mu.length]?=some (.arr [aI 0,.lst true []]):=by grind
   have o:∀ c,(U.set mu.length c)[mu.length]?=some c:=fun c=>qJ zOm
   have hx:qq r≠some mu.length:=fun h=>C (j _ h)
   simp[go_sem,hc,o,g.one,g.cells];refine⟨?_,fun i hi hn=>?_,zOm,j⟩
   .exact g.same fun b T=>by grind
   grind
  grind
 grind
theorem aL{mu j av l}(h:OwnV mu av l):Rd mu (.agg [aI j,av]) (eRel ⟨j,l⟩):=by
 refine .agg _ _ rfl fun k u v g i=>?_
 match k with
 | 0=>simp at g i;subst g;subst i;exact .zsc _
 | 1=>simp at g i;subst g;subst i;exact h.rd
 |k+2=>simp at g
theorem jy(a b)(J:a.ts.length<=100000)(l:b.ts.length<=100000):qj qg 94 [eRel a,eRel b] (eRel (unR a b)):=by
 refine qSU call94 func94 rfl ?_;refine fG [0,1,2,3,4,5,6,7,8,9] [(7,1,[1]),(8,1,[]),(9,1,[])] zKr zKr zSi ?_;simp[go_sem];refine aA (qk8 _ a.ts b.ts J l) ?_ ?_
 .rintro r m ⟨t,h,P,R,hl,T⟩
  cases h;have o:=R 0 zSp;simp at o;have g:qq r≠some 0:=fun h=>by grind
  simp[go_sem];refine aA (XW m a.ar r _ zSo P) ?_ ?_
  .rintro r U ⟨x,h,i,p,a0,C⟩
   cases h;have I:=p 0 (ql.1 o).1 g;rw[o]at I;have j:∀ c,(U.set 0 c)[0]?=some c:=fun c=>qJ (ql.1 I).1
   have hx:qq x≠some 0:=fun h=>g (C _ h)
   simp[go_sem,I,j,i.one];refine aL ?_;exact i.same fun b l=>by rw[yH (fun e=>hx (by rw[e];exact l))]
  grind
 grind
end EQ
namespace ER
open E1 EO EP EQ
theorem XX(l C p)(hf:FnOk qg C (fun x:Int=>aI x) (·∈l) (fun x=>aB (p x)))(hl:l.length<=1000000):qj qg 177 [lI l,C] (lI (l.filter p)):=by
 refine qSU call177 func177 rfl ?_;refine dS (fun m U=>∃ k,m=l.length-k/\k<=l.length/\U.tm 1=C/\U.tm 8=lI l/\U.tm 9=aI l.length/\U.tm 10=aI (k:Nat)/\OwnI U.mu (U.tm 5) ((l.take k).filter p)) l.length ?_ ?_
 .exact ⟨0,zOm,zOm,zSi,zSi,zSi,zSi,.inl ⟨zSi,rfl⟩⟩
 rintro m U ⟨k,rfl,hk,I,J,j,g,o⟩;by_cases i:k<l.length
 .have w1:=zWk k
  have a1:((l.take k).filter p).length<=k:=zQ (List.length_filter_le _ _) zSo;simp[go_sem,I,J,j,g,i];refine FnOk.call (enc:=fun x:Int=>aI x) hf (qv i) ?_;cases hp:p l[k] with
  |true =>
   have P:(l.take (k+1)).filter p=(l.take k).filter p++[l[k]]:=by rw[ya i,List.filter_append];simp[hp]
   simp[go_sem];refine aV (e:=3) (bt:=8) (z:=0) (l:=(l.take k).filter p) zSi zSi zSi zOm o.v zOm ?_;intro t R T _ _ _;simp[go_sem,g,w1];refine Keep.loop (l.length-(k+1)) zOm ⟨k+1,rfl,zOm,zS1 I,zS1 J,zS1 j,zSi,?_⟩;rw[P];simpa[go_sem] using T
  |false =>
   have P:(l.take (k+1)).filter p=(l.take k).filter p:=by rw[ya i,List.filter_append];simp[hp]
   simp[go_sem,g,w1];refine Keep.loop (l.length-(k+1)) zOm ⟨k+1,rfl,zOm,zS1 I,zS1 J,zS1 j,zSi,?_⟩;rw[P];simpa[go_sem] using o
 .have a0:k=l.length:=by omega
  subst a0;rw[za]at o;simp[go_sem,j,g];exact o.v.rd
theorem sameU(x):qj qg 176 [aI x] (aI x):=by
 refine qSU call176 func176 rfl ?_;exact .zsc _
abbrev imC(l:List (Int×Int)):AV := .im (encK (fun n:Int=>aI n) (fun n:Int=>aI n) l)
theorem Z0(l):HF (imC l):=HF.im fun p g=>by
 obtain⟨q,_,rfl⟩:=qp.1 g;exact⟨HF.sc _,HF.sc _⟩
theorem setU(r fv f)(hf:FnOk qg fv (fun x:Int=>aI x) (·∈r.ts) (fun x=>aI (f x)))(hl:r.ts.length<=1000000):qj qg 175 [eRel r,fv] (imC (cntK f r.ts)):=by
 refine qSU call175 func175 rfl ?_;obtain⟨B,hB⟩:∃ B,B=AV.mp 0:=⟨_,rfl⟩;refine qm.up r.ts.length (fun k U=>U.tm 1=fv/\U.tm 5=B/\U.tm 10=lI r.ts/\U.tm 11=aI r.ts.length/\U.tm 12=aI k/\U.mu[0]?=some (.mp (encK (fun n:Int=>aI n) (fun n:Int=>aI n) (cntK f (r.ts.take k))))) ?_ ?_
 .simp [go_sem,cntK,encK,hB]
 rintro k U hk ⟨e1,e5,p,j,l,C⟩;by_cases g:k<r.ts.length
 .have w1:=zWk k
  obtain⟨c1,c2,_⟩:=UH f r.ts k zOm (f r.ts[k]);have hs:=mN f (r.ts.take k) r.ts[k];rw[<-ya g]at hs;have a0:=keyI.look (et:=3) (t:=235) zSi (mu:=U.mu) (m := .mp 0) (venc:=fun n:Int=>aI n) (es:=cntK f (r.ts.take k)) (by simp only[jW,C]) (k:=f r.ts[k]) trivial (fun _ _=>trivial) (z:=aI 0) zSi false;have o:yL qg U.mu 235 B (aI (f r.ts[k])) false=some (aI ((getK (f r.ts[k]) (cntK f (r.ts.take k))).getD 0)):=by
   rw[hB];refine Eq.trans a0 ?_;cases getK (f r.ts[k]) (cntK f (r.ts.take k))<;>rfl
  have i:uf qg U.mu 235 (.mp 0) (aI (f r.ts[k])) (aI ((getK (f r.ts[k]) (cntK f (r.ts.take k))).getD 0+1))=_:=keyI.update (et:=3) (t:=235) zSi (mu:=U.mu) (b:=0) (venc:=fun n:Int=>aI n) (es:=cntK f (r.ts.take k)) C (k:=f r.ts[k]) (v:=(getK (f r.ts[k]) (cntK f (r.ts.take k))).getD 0+1) trivial (fun _ _=>trivial);rw[<-hs,<-hB]at i;have R:0<U.mu.length:=(ql.1 C).1;generalize (getK (f r.ts[k]) (cntK f (r.ts.take k))).getD 0=c at *
  have w2:qo.wrap (c+1)=c+1:=zWr;simp[go_sem,e1,e5,p,j,l,g];refine FnOk.call (enc:=fun x:Int=>aI x) hf (qv g) ?_;simp[go_sem,o,w2];subst hB;refine t7 _ i ?_;simp[go_sem,e1,e5,p,j,l,g,w1,R]
 .have a1:k=r.ts.length:=by omega
  subst a1;rw[za]at C;simp[go_sem,e5,j,l];rw[hB];exact .mp 0 _ _ C rfl (fun k x y T hy=>by rw[T]at hy;cases hy;obtain⟨q,_,e⟩:=qp.1 (q8 T);rw[<-e];exact .zsc _) (fun k x y T hy=>by rw[T]at hy;cases hy;obtain⟨q,_,e⟩:=qp.1 (q8 T);rw[<-e];exact .zsc _)
theorem FnOk.same(ok):FnOk qg (.fn (.func 176) [] []) (fun x:Int=>aI x) ok (fun x=>aI x):=
 ⟨HF.fn zSp zSp,_,[],[],rfl,fun x _=>⟨_,.zs .nil,sameU x⟩⟩
theorem XY(mu f ts k):yL qg mu 235 (imC (cntK f ts)) (aI k) false=some (aI ((getK k (cntK f ts)).getD 0)):=by
 have:=keyI.look (et:=3) (t:=235) zSi (mu:=mu) (m:=imC (cntK f ts)) (venc:=fun n:Int=>aI n) (es:=cntK f ts) rfl (k:=k) trivial (fun _ _=>trivial) (z:=aI 0) zSi false;simp only[yL];refine Eq.trans this ?_;cases getK k (cntK f ts)<;>rfl
theorem qlB(f ts x):qj qg 178 [aI x,.ip [imC (cntK f ts)]] (aB (decide (0<(getK x (cntK f ts)).getD 0))):=by
 refine qSV call178 func178 rfl ?_;have g:=fun I=>XY I f ts x
 generalize imC (cntK f ts)=B at *
 simp[go_sem,g];exact .zsc _
theorem qlC(f ts x):qj qg 179 [aI x,.ip [imC (cntK f ts)]] (aB (decide ((getK x (cntK f ts)).getD 0=0))):=by
 refine qSV call179 func179 rfl ?_;have g:=fun I=>XY I f ts x
 generalize imC (cntK f ts)=B at *
 simp[go_sem,g];exact .zsc _
theorem jt{x}(h:HF x):HF (.ip [x]):=HF.ip fun c g=>by simp at g;subst g;exact h
theorem mT(ts x):(0<(getK x (cntK (fun x=>x) ts)).getD 0↔x∈ts)/\((getK x (cntK (fun x=>x) ts)).getD 0=0↔¬x∈ts):=by
 obtain⟨l,g⟩:=mO (fun x=>x) ts x;have i:(∃ t,t∈ts/\t=x)↔x∈ts:=⟨fun⟨t,j,e⟩=>e ▸ j,fun h=>⟨x,h,rfl⟩⟩;rw[i]at g;exact⟨g,by rw[<-g];omega⟩
theorem aQ{mu b x y}(j:mu[b]?=some (.arr [x]))(h:Rd mu x y):Rd mu (.ptr b 0) (.ip [y]):=by
 refine .ptr b 0 [x] [y] j zSp fun k u v i g=>?_
 match k with
 | 0=>simp at i g;subst i;subst g;exact h
 |k+1=>simp at g
theorem YQ(a b)(o:a.ts.length<=1000000)(p:b.ts.length<=1000000):qj qg 96 [eRel a,eRel b] (eRel (inR a b)):=by
 refine qSV call96 func96 rfl ?_;have C:=setU b _ _ (FnOk.same (·∈b.ts)) p;have I:=XX a.ts (.fn (.func 178) [] [.ip [imC (cntK (fun x=>x) b.ts)]]) (fun t=>decide (t∈b.ts)) ⟨HF.fn zSp (by simp;exact jt (Z0 _)),_,[],_,rfl,fun x _=>⟨_,.zs (.zk (jt (Z0 _)) .nil),by have:=qlB (fun x=>x) b.ts x;simp only[(mT b.ts x).1]at this;exact this⟩⟩ o;have J:WKs [eRel b,.fn (.func 176) [] []] [eRel b,.fn (.func 176) [] []] := .zk (qr b) (.zk (HF.fn zSp zSp) .nil);have g:=Z0 (cntK (fun x=>x) b.ts);have i:(imC (cntK (fun x=>x) b.ts)).cells=[imC (cntK (fun x=>x) b.ts)]:=rfl;have j:(imC (cntK (fun x=>x) b.ts)).one=true:=rfl;generalize imC (cntK (fun x=>x) b.ts)=B at *
 have l:WKs [lI a.ts,.fn (.func 178) [] [.ip [B]]] [lI a.ts,.fn (.func 178) [] [.ip [B]]] := .zk (zy _) (.zk (HF.fn zSp (by simp;exact jt g)) .nil);simp[go_sem];refine t8 C J ?_;simp[go_sem,i,j];refine qk.fz (FzQ.one (d:=5) (b:=1) (x := .ip [B]) (aQ rfl (.hf _ g)) ?_);simp[go_sem,cutM];refine fD ?_;refine fW I l ?_;exact .hf _ (qr (inR a b))
theorem Z1(a b)(o:a.ts.length<=1000000)(p:b.ts.length<=1000000):qj qg 97 [eRel a,eRel b] (eRel (diR a b)):=by
 refine qSV call97 func97 rfl ?_;have C:=setU b _ _ (FnOk.same (·∈b.ts)) p;have I:=XX a.ts (.fn (.func 179) [] [.ip [imC (cntK (fun x=>x) b.ts)]]) (fun t=>decide (¬t∈b.ts)) ⟨HF.fn zSp (by simp;exact jt (Z0 _)),_,[],_,rfl,fun x _=>⟨_,.zs (.zk (jt (Z0 _)) .nil),by have:=qlC (fun x=>x) b.ts x;simp only[(mT b.ts x).2]at this;exact this⟩⟩ o;have J:WKs [eRel b,.fn (.func 176) [] []] [eRel b,.fn (.func 176) [] []] := .zk (qr b) (.zk (HF.fn zSp zSp) .nil);have g:=Z0 (cntK (fun x=>x) b.ts);have i:(imC (cntK (fun x=>x) b.ts)).cells=[imC (cntK (fun x=>x) b.ts)]:=rfl;have j:(imC (cntK (fun x=>x) b.ts)).one=true:=rfl;generalize imC (cntK (fun x=>x) b.ts)=B at *
 have l:WKs [lI a.ts,.fn (.func 179) [] [.ip [B]]] [lI a.ts,.fn (.func 179) [] [.ip [B]]] := .zk (zy _) (.zk (HF.fn zSp (by simp;exact jt g)) .nil);simp[go_sem];refine t8 C J ?_;simp[go_sem,i,j];refine qk.fz (FzQ.one (d:=5) (b:=1) (x := .ip [B]) (aQ rfl (.hf _ g)) ?_);simp[go_sem,cutM];refine fD ?_;refine fW I l ?_;have e:diR a b=⟨a.ar,a.ts.filter fun t=>!decide (t∈b.ts)⟩:=by simp[diR]
 have h:=qr (diR a b);rw[e]at h⊢;exact .hf _ h
theorem inU(a b)(g:a.ts.length<=1000000)(i:b.ts.length<=1000000):qj qg 54 [eRel a,eRel b] (aB (decide ((diR a b).ts=[]))):=by
 refine qSU call54 func54 rfl ?_;refine fW (Z1 a b g i) (.zk (qr a) (.zk (qr b) .nil)) ?_;exact .zsc _
end ER
namespace ET
open E1 E2 E3 EL EO EP EQ ER
section
variable {mu:Mu}
theorem XZ(n)(g:0<=n)(i:n<=20)(k)(j:0<=k)(l:k<=3):qj qg 134 [aI n,aI k] (aI (powI n k)):=by
 grind [qkO,wL]
def RelM(mu:Mu)(g:Int)(l:List Int):Prop:=∃ t,mu[0]?=some (.arr [aI 0,.lst true []])/\mu[1]?=some (.arr [aI g,t])/\OwnI mu t l/\qq t≠some 0/\qq t≠some 1
theorem RelM.step{mu' j av g l}(J:mu[0]?=some (.arr [aI 0,.lst true []]))(o:mu[1]?=some (.arr [aI j,av]))(n0:qq av≠some 0)(P:qq av≠some 1)(p:OwnI mu' g l)
  (R:∀ i,i<mu.length->qq av≠some i->mu'[i]?=mu[i]?) (T:mu.length<=mu'.length) (U:∀ b,qq g=some b->b=mu.length):mu'[1]?=some (.arr [aI j,av])/\RelM (mu'.set 1 (.arr [aI j,g])) j l:=by
 have l1:1<mu.length:=(ql.1 o).1;have t:qq g≠some 0:=fun e=>by grind
 have C:qq g≠some 1:=fun e=>by grind
 refine⟨by grind,g,by grind,by grind,p.same fun b I=>?_,t,C⟩
 grind
theorem qlD(m x y s):prL m (x++[s]) y=prL m x y++y.map fun t=>s*m+t:=by simp[prL]
theorem X0{a m x y:Int}(i:0<=a)(j:a<=x)(g:0<=m)(l:m<=y)(o:0<=x):0<=a*m/\a*m<=x*y:=⟨Int.mul_nonneg i g,jv j l g o⟩
theorem Zq{r e x}(h:Rd mu x (eRel r)):Rd mu (.tup [x,aI e]) (.tup [eRel r,aI e]):=by
 refine .tup _ _ rfl fun k u v g i=>?_
 match k with
 | 0=>grind
 | 1=>simp at g i;subst g;subst i;exact .zsc _
 |k+2=>simp at g
theorem Z2{g}:Rd mu (.agg [aI g,.lst true []]) (eRel ⟨g,[]⟩):=aL (.inl ⟨rfl,rfl⟩)
theorem qlE(m x y):(prL m x y).length=x.length*y.length:=by
 induction x with
 |nil=>simp[prL]
 |cons s x g=>simp only[prL,we,zj,zT,yy]at g⊢;rw[g,Nat.add_mul];omega
theorem Ux(n)(h0:0<=n)(a8:n<=12)(a b)(ha:GR n a)(T:GR n b):qj qg 102 [aI n,eRel a,eRel b] (match jG n a b with | .ok r => .tup [eRel r,aI 0] | .error e => .tup [eRel ⟨0,[]⟩,aI e]):=by
 refine qSV call102 func102 rfl ?_;have a1:=ha.ar1;have a3:=ha.ar3;have b1:=T.ar1;have b3:=T.ar3;have la:=ha.len h0 zOm;have lb:=T.len h0 zOm;have w0:qo.wrap (a.ar+b.ar)=a.ar+b.ar:=zWr;unfold jG;by_cases hc:a.ar+b.ar<=3
 .have hn:¬(3:Int)<a.ar+b.ar:=by omega
  obtain⟨p0,p1⟩:=Qm (k:=b.ar) h0 (by omega:n<=20);rw[if_pos hc];simp[go_sem,w0,hn];refine fW (XZ n h0 zOm b.ar zOm b3) (.zs (.zs .nil)) ?_;generalize hM:powI n b.ar=M at *
  have g:∀ i j,i<a.ts.length->j<=b.ts.length->(prL M (a.ts.take i) b.ts++(b.ts.take j).map fun t=>a.ts.getD i 0*M+t).length<=64000000:=fun i j hi hj=>by
   rw[zj,qlE,zT,ub,ub];have:(min i a.ts.length)*b.ts.length<=7999*8000:=Nat.mul_le_mul zOm lb;omega
  refine aP a.ts.length (fun i U=>U.tm 5 = .ip (cRel b)/\U.tm 6 = .ptr 0 0/\U.tm 8 = .ptr 1 0/\U.tm 9=aI M/\U.tm 32=lI a.ts/\U.tm 33=aI a.ts.length/\U.tm 34=aI i/\RelM U.mu (a.ar+b.ar) (prL M (a.ts.take i) b.ts)) ?_ ?_
  .refine ⟨zSi,zSi,zSi,zSi,zSi,zSi,zSi,.lst true [],zSi,zSi,.inl ⟨rfl,by simp[prL]⟩,by simp[qq],by simp[qq]⟩
  rintro i U hi ⟨e5,e6,e8,e9,a0,p,C,hr⟩;by_cases o:i<a.ts.length
  .have w1:=zWk i
   obtain⟨v0,v1⟩:=ha.val _ (qv o);obtain⟨q0,q1⟩:=Qm (k:=a.ar) h0 (by omega:n<=20);obtain⟨m0,m1⟩:=X0 (x:=8000) (y:=8000) v0 zOm p0 p1 zOm;have a4:a.ts.getD i 0=a.ts[i]:=by rw[List.getD_eq_getElem?_getD,qy o];rfl
   have g:=g i;rw[a4]at g;simp[go_sem,e5,a0,p,C,o];refine aP b.ts.length (fun j U=>U.tm 5 = .ip (cRel b)/\U.tm 6 = .ptr 0 0/\U.tm 8 = .ptr 1 0/\U.tm 9=aI M/\U.tm 11=aI a.ts[i]/\U.tm 32=lI a.ts/\U.tm 33=aI a.ts.length/\U.tm 34=aI i/\U.tm 39=lI b.ts/\U.tm 40=aI b.ts.length/\U.tm 41=aI j/\RelM U.mu (a.ar+b.ar) (prL M (a.ts.take i) b.ts++(b.ts.take j).map fun t=>a.ts[i] * M+t)) ?_ ?_
   .refine ⟨zS1 e5,zS1 e6,zS1 e8,zS1 e9,zSi,zS1 a0,zS1 p,zS1 C,zSi,zSi,zSi,zVs hr⟩
   rintro j U hj ⟨f5,f6,f8,f9,f11,f32,f33,f34,f39,f40,f41,av,g0,g1,I,n0,n1⟩;by_cases l:j<b.ts.length
   .have w2:=zWk j
    obtain⟨u0,u1⟩:=T.val _ (qv l);rw[hM]at u1;have w3:qo.wrap (a.ts[i] * M)=a.ts[i] * M:=zWr;have w4:qo.wrap (a.ts[i] * M+b.ts[j])=a.ts[i] * M+b.ts[j]:=zWr;simp[go_sem,f8,f9,f11,f39,f40,f41,l,g1,w3,w4];refine aV (e:=3) (bt:=8) (z:=0) zSi zSi zSi zOm I.v (by have:=g j o (by omega);omega) ?_;intro a9 R J a5 a6 a7;obtain⟨k1,k2⟩:=RelM.step g0 g1 n0 n1 J a5 a6 a7;simp[go_sem,f8,f41,k1,J.v.one,J.v.cells,w2];refine⟨l,aM ⟨zS1 f5,zS1 f6,zS1 f8,zS1 f9,zS1 f11,by simp[go_sem,f32],by simp[go_sem,f33],by simp[go_sem,f34],zS1 f39,by simp[go_sem,f40],zSi,?_⟩⟩;rw[ya l,zi,<-zL];exact k2
   .have P:j=b.ts.length:=by omega
    subst P;simp[go_sem,f34,f40,f41,w1];refine⟨o,aM ⟨zS1 f5,zS1 f6,zS1 f8,zS1 f9,by simp[go_sem,f32],by simp[go_sem,f33],zSi,?_⟩⟩;rw[ya o,qlD];rw[za]at I;exact⟨av,g0,g1,I,n0,n1⟩
  .have P:i=a.ts.length:=by omega
   subst P;obtain⟨av,g0,g1,I,n0,n1⟩:=hr;rw[za]at I;have a2:∀ c,(U.mu.set 0 c)[0]?=some c:=fun c=>qJ (ql.1 g0).1
   simp[go_sem,e6,e8,p,C,g0,g1,a2,I.v.one];refine Zq (r:=prR n a b) ?_;unfold prR;rw[hM];refine aL (I.v.same fun b T=>?_);rw[yH (fun e=>n0 (by rw[e];exact T))]
 simp_all[go_sem,if_neg,Zq,Z2]
theorem UJ(n)(J:0<=n)(o:n<=12)(a)(ha:GR n a)(h2:a.ar=2):qj qg 90 [aI n,eRel a] (eRel (trR n a)):=by
 refine qSV call90 func90 rfl ?_;have hl:=ha.len J zOm;have e2:powI n 2=n*n:=by
  have:=wM (n:=n) (i:=1) (j:=1) zOm zOm zOm;rw[vP]at this;exact this
 have a8:n*n<=12*12:=jv o o J zOm;simp[go_sem,show (a.ts.length:Int)<=4294967296 by omega];refine aP a.ts.length (fun k U=>U.tm 0=aI n/\U.tm 4 = .ptr 0 0/\U.tm 5 = .sl 1 1 0 a.ts.length/\U.tm 13=lI a.ts/\U.tm 14=aI a.ts.length/\U.tm 15=aI k/\U.mu=[.arr [aI 0,.lst true []],.arr ((((a.ts.take k).map fun t=>t % n*n+t / n)++qM (a.ts.length-k) 0).map aI)]) ?_ ?_
 .simp [go_sem]
 rintro k U hk ⟨e0,e4,T,P,p,I,hm⟩;by_cases l:k<a.ts.length
 .have w1:=zWk k
  obtain⟨v0,v1⟩:=ha.val _ (qv l);rw[h2,e2]at v1;have hn:0<n:=by
   rcases Int.lt_or_eq_of_le J with h|h
   .exact h
   .exfalso;rw[<-h,Int.mul_zero]at v1;omega
  have a9:0<=a.ts[k] / n:=Int.ediv_nonneg v0 J;have aa:a.ts[k] / n<n:=Int.ediv_lt_of_lt_mul hn v1;have a0:0<=a.ts[k] % n:=Int.emod_nonneg _ zOm;have ab:a.ts[k] % n<n:=Int.emod_lt_of_pos _ hn;obtain⟨m0,m1⟩:=X0 (x:=12) (y:=12) a0 zOm J o zOm;have d1:a.ts[k].tdiv n=a.ts[k] / n:=Int.tdiv_eq_ediv_of_nonneg v0;have d2:a.ts[k].tmod n=a.ts[k] % n:=vJ v0;have w2:qo.wrap (a.ts[k] / n)=a.ts[k] / n:=zWr;have w3:qo.wrap (a.ts[k] % n*n)=a.ts[k] % n*n:=zWr;have w4:qo.wrap (a.ts[k] % n*n+a.ts[k] / n)=a.ts[k] % n*n+a.ts[k] / n:=zWr;have a1:¬n=0:=zOm;have a6:qM (a.ts.length-k) (0:Int)=0 :: qM (a.ts.length-(k+1)) 0:=by
   rw[<-List.replicate_succ];congr 1;omega
  have g:∀ v:Int,((((a.ts.take k).map fun t=>t % n*n+t / n)++qM (a.ts.length-k) 0).map aI).set k (aI v)=(((a.ts.take k).map fun t=>t % n*n+t / n)++v :: qM (a.ts.length-(k+1)) 0).map aI:=fun v=>by
   simp_all
  have R:((((a.ts.take k).map fun t=>t % n*n+t / n)++qM (a.ts.length-k) 0).map aI).length=a.ts.length:=zSo;generalize hC:(((a.ts.take k).map fun t=>t % n*n+t / n)++qM (a.ts.length-k) 0).map aI=C at *
  simp[go_sem,P,p,I,hm,l];refine tJ zKr ?_;simp[go_sem,e0,T,I,l,a1,d1,d2,w2,w3,w4,g,R,show k+1<=a.ts.length by omega,w1];refine aM ⟨zS1 e0,zS1 e4,zS1 T,zS1 P,zS1 p,zSi,?_⟩;simp only[qK];have e:(((a.ts.take (k+1)).map fun t=>t % n*n+t / n)++qM (a.ts.length-(k+1)) 0).map aI=(((a.ts.take k).map fun t=>t % n*n+t / n)++(a.ts[k] % n*n+a.ts[k] / n) :: qM (a.ts.length-(k+1)) 0).map aI:=by
   rw[ya l,zi (l₂:=[a.ts[k]]),zL];rfl
  rw[e];simp
 .have a2:k=a.ts.length:=by omega
  subst a2;rw[za,Nat.sub_self,List.replicate_zero,ye]at hm;generalize hL:a.ts.map (fun t=>t % n*n+t / n)=L at *
  have a3:L.length=a.ts.length:=by rw[<-hL];simp
  simp only[p,I,hm,go_sem];have hs:=XW [.arr [aI 0,.lst true []],.arr (L.map aI)] 2 (.sl 1 1 0 a.ts.length) L zOm (.inr ⟨1,by rw[a3],rfl⟩);simp[go_sem,T];refine aA hs ?_ ?_
  .rintro r m ⟨x,h,ho,a4,ad,a5⟩
   cases h;have g0:=a4 0 zSp (by simp[qq]);have g:∀ c,(m.set 0 c)[0]?=some c:=fun c=>qJ (ql.1 g0).1
   simp at g0;have hx:qq x≠some 0:=fun h=>by have:=a5 _ h;simp[qq]at this
   simp[go_sem,e4,g0,g,ho.one];unfold trR;rw[hL];refine aL (ho.same fun b hb=>?_);rw[yH (fun e=>hx (by rw[e];exact hb))]
  .rintro r m ⟨x,h,_⟩
   cases h
end
end ET
namespace EW
open EO EP EQ ER ET
inductive TagM (p:Mu->Prop):Type where
 |mk:TagM p
def vR(p:Mu->Prop)(_:TagM p)(mu:Mu):Prop:=p mu
theorem dK{p mu}(h:p mu):vR p .mk mu:=h
theorem dA{P pl l caps ps g body Q st rows}(j:jO P l caps rows)(I:Nat->Mu->Prop)(i:qW->Mu->Prop)
  (o:I 0 (st.mu++[.dead])) (p:∀ k mu,I k mu->I k (mu++[.dead])) (t:∀ e mu,i e mu->i e (mu++[.dead]))
  (C:∀ k x mu,rows[k]?=some x->I k mu->x.length=ps.size/\awp P pl g (asQ (fun st=>awp P pl body (rndQ (fun k=>vR (I k) .mk) (fun e=>vR (i e) .mk) k) st)) ⟨uR st.tm ps.toList x,mu⟩)
  (J:∀ mu,I rows.length mu->Q .normal ⟨st.tm,mu⟩) (R:∀ e mu,i e mu->Q e ⟨st.tm,mu⟩):uj P pl (.fn (.func l) [] caps) ps g body Q st:=
 tQ j I i o p t C J R
abbrev tupCl(sc:Sc)(p:Int)(l:List Int):AV := .fn (.func 169) [] [.ip [lI l],.ip [aI p],.ip [lI sc.sC,aI sc.sN]]
theorem mU(sc p l):qj qg 82 [eSc sc,aI p,lI l] (tupCl sc p l):=by
 refine qSU call82 func82 rfl ?_;refine .hf _ (HF.fn (fun c g=>by simp at g) (fun c g=>?_));simp at g;rcases g with rfl|rfl|rfl
 .exact jt (zy _)
 .exact jt (HF.sc _)
 .exact HF.ip fun c g=>by simp at g;rcases g with rfl|rfl<;>first|exact zy _|exact HF.sc _
def tupR(sc:Sc):List Int->Int->List Int
 | [],p=>[p]
 |s :: l,p=>(qu (gI sc.sC s.toNat).toNat).flatMap fun k:Nat=>tupR sc l (p*sumI sc.sC+(sumI (sc.sC.take s.toNat)+k))
@[go_sem] theorem yl_cells(i):(AV.yl i).cells=[.yl i]:=rfl
@[go_sem] theorem yl_one(i):(AV.yl i).one=true:=rfl
theorem qlF(sc:Sc)(p):jO qg 169 [.ip [lI []],.ip [aI p],.ip [lI sc.sC,aI sc.sN]] [[aI p]]:=by
 refine jO.of call169 fun i I o t C g j l=>?_
 refine qSW call169 func169 rfl {} ?_;simp[go_sem];refine qi.yield (g 0 [aI p] j rfl l) ?_;simp_all[go_sem]
theorem qlG{i r}(h:i<r):∃ l,qu r=qu i++i :: l:=by
 refine⟨(qu r).drop (i+1),?_⟩;apply List.ext_getElem?;intro j;by_cases g:j<i
 .rw [qL (zUs g),Qa g,Qa zOm]
 .rw [zZ zSo,List.length_range]
  by_cases e:j=i
  .subst e;simp[h]
  .obtain ⟨d,o⟩:∃ d,j-i=d+1:=⟨j-i-1,zOm⟩
   rw[o,List.getElem?_cons_succ,uK];congr 1;omega
theorem qlH{C:Type}(f){N k j}{x:C}(g:k<N)(h:(f k)[j]?=some x):((qu N).flatMap f)[((qu k).flatMap f).length+j]?=some x:=by
 obtain⟨l,e⟩:=qlG g;rw[e,List.flatMap_append,zZ zOm,Nat.add_sub_cancel_left,we,qL (ql.1 h).1];exact h
theorem Vg{C:Type}(f:Nat->List C)(k):(qu (k+1)).flatMap f=(qu k).flatMap f++f k:=by
 rw[List.range_succ,List.flatMap_append];simp
theorem qlI(sc)(g:GSc sc)(hA:∀ a,a∈sc.sC->0<=a)(s)(J:s<sc.sC.length)(l)(hl:l.length<=10)(p)(hp:0<=p/\p<=1000000)
  (ih:∀ k,k<(gI sc.sC s).toNat->jO qg 169 [.ip [lI l],.ip [aI (p*sumI sc.sC+(sumI (sc.sC.take s)+k))],.ip [lI sc.sC,aI sc.sN]] ((tupR sc l (p*sumI sc.sC+(sumI (sc.sC.take s)+k))).map fun t=>[aI t])) :
  jO qg 169 [.ip [lI (s :: l)],.ip [aI p],.ip [lI sc.sC,aI sc.sN]] ((tupR sc (s :: l) p).map fun t=>[aI t]):=by
 refine jO.of call169 fun i I Ix hS hX hY mu h0=>?_
 refine qSW call169 func169 rfl {} ?_;have hz:¬(l.length:Int)+1=0:=zOm;have a0:=XU sc g s zOm;have a1:WKs [eSc sc,aI s] [eSc sc,aI s] := .zk (zD sc) (.zs .nil);obtain⟨s0,s1⟩:=g.sum s;obtain⟨t0,t1⟩:=g.sum sc.sC.length;rw[za]at t0 t1;have a2:gI sc.sC s=sc.sC[s]:=ji J;have af:=hA _ (qv J);obtain⟨u0,u1⟩:=g.sum (s+1);rw[wH _ _ J]at u1;have a3:=YP sc g;have a4:WKs [eSc sc] [eSc sc] := .zk (zD sc) .nil;have o:tupR sc (s :: l) p=(qu (sc.sC[s]).toNat).flatMap fun k:Nat=>tupR sc l (p*sumI sc.sC+(sumI (sc.sC.take s)+k)):=by
  simp_all[tupR]
 rw[a2]at ih;obtain⟨m0,m1⟩:0<=p*sumI sc.sC/\p*sumI sc.sC<=1000000*20:=⟨Int.mul_nonneg hp.1 t0,jv hp.2 t1 t0 zOm⟩;have w2:qo.wrap (p*sumI sc.sC)=p*sumI sc.sC:=zWr;have w3:qo.wrap (sumI (sc.sC.take s)+sc.sC[s])=sumI (sc.sC.take s)+sc.sC[s]:=zWr;generalize hF:(fun k:Nat=>tupR sc l (p*sumI sc.sC+(sumI (sc.sC.take s)+k)))=F at *
 have a5:∀ k:Nat,tupR sc l (p*sumI sc.sC+(sumI (sc.sC.take s)+k))=F k:=fun k=>by rw[<-hF]
 simp only[a5]at ih;simp[go_sem,hz];refine fD ?_;refine t8 a0 a1 ?_;generalize hn:sumI sc.sC=n at *
 generalize hf:sumI (sc.sC.take s)=f at *
 simp[go_sem];refine dS (fun m U=>∃ k,m=(sc.sC[s]).toNat-k/\k<=(sc.sC[s]).toNat/\U.tm 1 = .ip [lI (s :: l)]/\U.tm 2 = .ip [aI p]/\U.tm 3 = .ip [lI sc.sC,aI sc.sN]/\U.tm 4 = .ip [.yl i]/\U.tm 5=aI f/\U.tm 6=aI (f+(k:Nat))/\I ((qu k).flatMap F).length U.mu) (sc.sC[s]).toNat ?_ ?_
 .exact ⟨0,zOm,zOm,zSi,zSi,zSi,zSi,zSi,zSi,zVs h0⟩
 rintro m U ⟨k,rfl,hk,e1,e2,e3,e4,e5,e6,hI⟩;simp[go_sem];refine tJ zKr ?_;by_cases P:k<(sc.sC[s]).toNat
 .have hb:f+(k:Int)<f+sc.sC[s]:=by omega
  have w4:qo.wrap (p*n+(f+k))=p*n+(f+k):=zWr;have w5:qo.wrap (f+(k:Int)+1)=f+((k+1:Nat):Int):=by rw[zWr];omega
  have T:WKs [eSc sc,aI (p*n+(f+k)),.lst false (l.map rI)] [eSc sc,aI (p*n+(f+k)),lI l] := .zk (zD sc) (.zs (.zk (zy l) .nil));have a6:=mU sc (p*n+(f+k)) l;simp[go_sem,e1,e3,e5,e6,J,w3,hb];refine tJ zKr ?_;simp[go_sem,e2,e3];refine t8 a3 a4 ?_;have a7:(1:Int)<=l.length+1:=zOm;have a8:List.take l.length (l.map rI)=l.map rI:=zU zSp;simp[go_sem,e1,e6,w2,w4,a7,a8];refine⟨⟨_,_,⟨rfl,rfl⟩,(jD (s :: l)).ok⟩,?_⟩;refine fW a6 T ?_;refine dA (ih k P) (fun j M=>I (((qu k).flatMap F).length+j) M) (fun e M=>e = .ret/\Ix M) ?_ ?_ ?_ ?_ ?_ ?_
  .simpa [go_sem] using hS _ _ hI
  .intro j M h;exact hS _ _ h
  .rintro e M ⟨h1,h2⟩;exact⟨h1,hX _ h2⟩
  .rintro j x M hj a9
   rw[zz,vX]at hj;obtain⟨t,ht,rfl⟩:=hj;have C:(((qu (sc.sC[s]).toNat).flatMap F).map fun t=>[aI t])[((qu k).flatMap F).length+j]?=some [aI t]:=by
    rw[zz,qlH F P ht];rfl
   rw[<-o]at C;refine⟨rfl,?_⟩;simp[go_sem,e4];refine qi.yield (hY _ _ _ C a9) ?_;rintro b R (⟨rfl,aa⟩|⟨rfl,ab⟩)
   .simp [go_sem]
    exact dK aa
   .simp [go_sem]
    exact dK ⟨rfl,ab⟩
  .rintro M ad
   simp[go_sem,e6,w5];refine Keep.loop ((sc.sC[s]).toNat-(k+1)) zOm ⟨k+1,rfl,zOm,zS1 e1,zS1 e2,zS1 e3,zS1 e4,zS1 e5,zSi,?_⟩;rw[Vg,zj];simpa[go_sem] using ad
  .rintro e M ⟨rfl,h2⟩
   simp[go_sem];exact .inr h2
 .have ae:k=(sc.sC[s]).toNat:=by omega
  have hb:¬f+(k:Int)<f+sc.sC[s]:=zOm;simp[go_sem,e1,e3,e5,e6,J,w3,hb];rw[o,<-ae];exact .inl hI
def bdT:Nat->Int
 | 0=>1000000000
 | 1=>1000000
 | 2=>40000
 |_=>1000
theorem mV(d)(g:d<3){p q n}(i:0<=p)(j:p<=bdT (d+1))(n0:0<=n)(l:n<=20)(o:0<=q)(q1:q<=20):0<=p*n+q/\p*n+q<=bdT d/\p<=1000000:=by
 have a:0<=p*n:=Int.mul_nonneg i n0;have b:p*n<=bdT (d+1)*20:=jv j l n0 zOm
 match d,g with
 | 0,_=>grind [bdT]
 | 1,_=>grind [bdT]
 | 2,_=>grind [bdT]
def OkS(sc:Sc)(l:List Int):Prop:=∀ s,s∈l->0<=s/\s<sc.sC.length
theorem mW(sc)(g:GSc sc)(I:∀ a,a∈sc.sC->0<=a):∀ l,OkS sc l->l.length<=3->∀ p,0<=p->p<=bdT l.length->jO qg 169 [.ip [lI l],.ip [aI p],.ip [lI sc.sC,aI sc.sN]] ((tupR sc l p).map fun t=>[aI t])
 | [],_,_,p,_,_=>qlF sc p
 |s :: l,i,J,p,j,o=>by
  obtain⟨n,rfl⟩:∃ n:Nat,s=n:=⟨s.toNat,zW1 ((i s zSp).1)⟩;have C:n<sc.sC.length:=zW1 ((i n zSp).2);simp only[yy]at J o;obtain⟨t0,t1⟩:=g.sum sc.sC.length;rw[za]at t0 t1;refine qlI sc g I n C l zOm p ⟨j,(mV l.length zOm j o t0 t1 (q:=0) zOm zOm).2.2⟩ fun k P=>?_
  obtain⟨u0,R⟩:=g.sum (n+1);rw[wH _ _ C]at R;rw[ji C]at P;obtain⟨s0,s1⟩:=g.sum n;obtain⟨T,U,_⟩:=mV l.length zOm j o t0 t1 (q:=sumI (sc.sC.take n)+k) zOm zOm;exact mW sc g I l (fun x hx=>i x (zP1 hx)) zOm _ T U
theorem mX(sc)(g:GSc sc)(o:∀ a,a∈sc.sC->0<=a):∀ l,OkS sc l->∀ p,(tupR sc l p).length<=20 ^ l.length
 | [],_,p=>by simp[tupR]
 |s :: l,i,p=>by
  obtain⟨n,rfl⟩:∃ n:Nat,s=n:=⟨s.toNat,zW1 ((i s zSp).1)⟩;have j:n<sc.sC.length:=zW1 ((i n zSp).2);obtain⟨P,t⟩:=g.sum (n+1);obtain⟨R,s1⟩:=g.sum n;rw[wH _ _ j]at t;have C:=mX sc g o l (fun x I=>i x (zP1 I));rw[tupR,show (n:Int).toNat=n by omega,ji j];have key:∀ m:Nat,((qu m).flatMap fun k:Nat=>tupR sc l (p*sumI sc.sC+(sumI (sc.sC.take n)+k))).length<=m*20 ^ l.length:=by
   intro m;induction m with
   |zero=>simp
   |succ m J =>
    rw[Vg,zj,Nat.succ_mul];have:=C (p*sumI sc.sC+(sumI (sc.sC.take n)+m));omega
  refine zQ (key _) ?_;rw[yy,Nat.pow_succ,Nat.mul_comm];exact Nat.mul_le_mul_left _ zOm
theorem UK(n a b):qj qg 81 [aI n,aI a,aI b] (aB (decide (a<=n)&&decide (n<=b))):=by
 refine qSV call81 func81 rfl ?_;by_cases g:a<=n
 .simp [go_sem,g]
  exact .zsc _
 .simp [go_sem,g]
  exact .zsc _
theorem wk3I(a b c):WKs [aI a,aI b,aI c] [aI a,aI b,aI c] := .zs (.zs (.zs .nil))
theorem UL(sc)(g:GSc sc)(hA:∀ a,a∈sc.sC->0<=a)(l)(hs:OkS sc l)(h1:1<=l.length)(h3:l.length<=3):qj qg 38 [eSc sc,lI l] (eRel ⟨l.length,tupR sc l 0⟩):=by
 refine qSV call38 func38 rfl ?_;have b1:(1:Int)<=l.length:=zOm;have b3:(l.length:Int)<=3:=zOm;have hg:=g.1;have w1:=UK l.length 1 3;rw[decide_eq_true b1,decide_eq_true b3]at w1;simp[go_sem];refine fW w1 (wk3I _ _ _) ?_;refine aP l.length (fun k U=>U.tm 1=lI l/\U.tm 2 = .ip [lI sc.sC,aI sc.sN]/\U.tm 4 = .ptr 0 0/\U.tm 14=lI l/\U.tm 15=aI l.length/\U.tm 16=aI k/\U.mu=[.arr [aI 0,.lst true []]]) ?_ ?_
 .simp [go_sem]
 rintro k U hk ⟨e1,e2,e4,a0,p,C,hm⟩;by_cases I:k<l.length
 .have wk:=zWk k
  have wl:qo.wrap ((sc.sC.length:Int)-1)=(sc.sC.length:Int)-1:=zWr;obtain⟨q0,q1⟩:=hs _ (qv I);have w2:=UK l[k] 0 ((sc.sC.length:Int)-1);rw[decide_eq_true q0,decide_eq_true (by omega:l[k]<=(sc.sC.length:Int)-1)]at w2;simp[go_sem,e2,a0,p,C,hm,I,wl];refine t8 w2 (wk3I _ _ _) ?_;simp_all[go_sem,aM]
 .have a1:k=l.length:=by omega
  subst a1;have a6:=mX sc g hA l hs 0;have hp:20 ^ l.length<=8000:=by
   have:l.length=1\/l.length=2\/l.length=3:=zOm
   grind
  have a2:(0:Int)<=bdT l.length:=by
   have:l.length=1\/l.length=2\/l.length=3:=zOm
   grind [bdT]
  simp[go_sem,e1,e2,p,C,hm];refine fW (mU sc 0 l) (.zk (zD sc) (.zs (.zk (zy l) .nil))) ?_;refine dA (mW sc g hA l hs h3 0 zOm a2) (fun j M=>RelM M l.length ((tupR sc l 0).take j)) (fun _ _=>False) ?_ ?_ ?_ ?_ ?_ ?_
  .exact ⟨.lst true [],zSi,zSi,.inl ⟨rfl,rfl⟩,by simp[qq],by simp[qq]⟩
  .rintro j M ⟨av,J,g1,i,n0,T⟩
   exact⟨av,by grind,by grind,i.same fun b hb=>by rw[qL (i.v.lt hb)],n0,T⟩
  .grind
  .rintro j x M hj ⟨av,J,g1,i,n0,T⟩
   rw[zz,vX]at hj;obtain⟨t,ht,rfl⟩:=hj;obtain⟨a7,a8⟩:=ql.1 ht;refine⟨rfl,?_⟩;simp[go_sem,g1];refine aV (e:=3) (bt:=8) (z:=0) zSi zSi zSi zOm i.v zSo ?_;intro a9 R o a3 a4 a5;obtain⟨k1,k2⟩:=RelM.step J g1 n0 T o a3 a4 a5;simp[go_sem,k1,o.v.one,o.v.cells]
   grind [dK,ya]
  .rintro M ⟨av,J,g1,i,n0,T⟩
   rw[zT,za]at i;have P:∀ c,(M.set 0 c)[0]?=some c:=fun c=>qJ (ql.1 J).1
   simp[go_sem,e4,J,g1,P,i.v.one];refine aL (i.v.same fun b hb=>?_);rw[yH (fun e=>n0 (by rw[e];exact hb))]
  grind
end EW
namespace EU
open E1 EO EP EQ ER ET
abbrev imG(g:List (Int×List Int)):AV := .im (encK (fun n:Int=>aI n) lI g)
abbrev matC(n m:Int)(a b:Rl):List AV:=[.ip (cRel a),.ip [imG (grpK m b.ts)],.ip [aI n],.ip [aI m]]
theorem qlJ(n m)(hm:0<m)(ae:m<=8000)(a b)(hb:∀ t,t∈b.ts->0<=t/\t<=1000000)(hl:b.ts.length<=1000000):qj qg 180 [aI n,aI m,eRel a,eRel b] (.fn (.func 243) [] (matC n m a b)):=by
 refine qSV call180 func180 rfl ?_;obtain⟨B,hB⟩:∃ B,B=AV.mp 0:=⟨_,rfl⟩;have af:B.cells=[B]:=by rw[hB];rfl
 have ag:B.one=true:=by rw[hB];rfl
 simp[go_sem];refine aP b.ts.length (fun k U=>U.tm 4 = .ip [aI n]/\U.tm 5 = .ip [aI m]/\U.tm 6 = .ip (cRel a)/\U.tm 9 = .ptr 1 0/\U.tm 14=lI b.ts/\U.tm 15=aI b.ts.length/\U.tm 16=aI k/\U.mu[1]?=some (.arr [B])/\∃ i,GrpM U.mu 0 (grpK m (b.ts.take k)) i/\∀ q v,getK q i=some v->∀ x,qq v=some x->2<=x) ?_ ?_
 .refine ⟨zSi,zSi,zSi,zSi,zSi,zSi,zSi,by simp[go_sem,hB],[],GrpM.nil zSi,fun q v h=>by simp[getK]at h⟩
 rintro k U hk ⟨e4,e5,e6,e9,a1,p,C,g1,i,hG,h2⟩;by_cases j:k<b.ts.length
 .have w1:=zWk k
  obtain⟨v0,v1⟩:=hb _ (qv j);have d1:b.ts[k].tdiv m=b.ts[k] / m:=Int.tdiv_eq_ediv_of_nonneg v0;have d2:b.ts[k].tmod m=b.ts[k] % m:=vJ v0;have q0:0<=b.ts[k] / m:=Int.ediv_nonneg v0 zOm;have q1:b.ts[k] / m<=b.ts[k]:=Int.ediv_le_self _ v0;have w2:qo.wrap (b.ts[k] / m)=b.ts[k] / m:=zWr;have a8:¬m=0:=zOm;have hs:=mP m (b.ts.take k) b.ts[k];rw[<-ya j]at hs;have a2:=hG.cur (b.ts[k] / m);have a9:=keyI.look (et:=28) (t:=304) zSi (mu:=U.mu) (m := .mp 0) (venc:=id) (es:=i) (by simp only[jW,hG.at0]) (k:=b.ts[k] / m) trivial (fun _ _=>trivial) (z := .lst true []) zSi false;have P:yL qg U.mu 304 B (aI (b.ts[k] / m)) false=some ((getK (b.ts[k] / m) i).getD (.lst true [])):=by
   rw[hB];refine Eq.trans a9 ?_;cases getK (b.ts[k] / m) i<;>rfl
  have T:=fun (R:Mu) (av:AV) (l:List Int)=>GrpM.step (mu':=R) (av:=av) (l:=l) (k:=b.ts[k] / m) hG
  have aa:∀ x,qq ((getK (b.ts[k] / m) i).getD (.lst true []))=some x->2<=x:=by
   intro x g;cases hc:getK (b.ts[k] / m) i with
   |none=>rw[hc]at g;simp[qq]at g
   |some v=>rw[hc]at g;exact h2 _ _ hc x g
  have ah:((getK (b.ts[k] / m) (grpK m (b.ts.take k))).getD []).length<=k:=by
   rw[UI m b.ts k zOm,zT];exact zQ (List.length_filter_le _ _) zSo
  simp[go_sem,a1,p,C,j];refine fG [0,1,2,3,4,5,6,7,8,9,10,11,12,13,14] [(13,1,[0,2]),(14,1,[])] zKr zKr zSi ?_;simp[go_sem,e5,e9,g1,a8,d1,d2,w2,P];refine aV (e:=3) (bt:=8) (z:=0) (l:=(getK (b.ts[k] / m) (grpK m (b.ts.take k))).getD []) zSi zSi zSi zOm a2.v zOm ?_;intro a0 R ab a4 ai a5;obtain⟨k1,k2⟩:=T R a0 _ ab a4 a5;rw[<-hs]at k2;have a6:uf qg R 304 (.mp 0) (aI (b.ts[k] / m)) a0=_:=keyI.update (et:=28) (t:=304) zSi (mu:=R) (b:=0) (venc:=id) (es:=i) k1 (k:=b.ts[k] / m) (v:=a0) trivial (fun _ _=>trivial);have l1:1<U.mu.length:=(ql.1 g1).1;have a7:R[1]?=some (.arr [B]):=by rw[a4 1 l1 (fun e=>zW1 (aa 1 e))];exact g1
  simp[go_sem,e5,e9,a7];subst hB;refine t7 _ a6 ?_;simp[go_sem,C,j,w1];refine aM ⟨zS1 e4,zS1 e5,zS1 e6,zS1 e9,zS1 a1,zS1 p,zSi,?_,_,zVs k2,fun q v hq x g=>?_⟩
  .simp only[qK]
   rw[zGl];exact a7
  .rw [uo]at hq
   split at hq
   .cases hq;have:=a5 x g;omega
   .exact h2 q v hq x g
 .have ad:k=b.ts.length:=by omega
  subst ad;rw[za]at hG;simp[go_sem,e4,e5,e6,e9,p,C];refine .fn _ _ _ _ _ rfl rfl (fun k x y g=>by simp at g) (fun k x y g o=>?_)
  match k with
  | 0=>simp at g o;subst g;subst o;exact .hf _ (HF.ip (Yt a))
  | 1=>simp at g o;subst g;subst o;rw[hB]at g1;exact aQ g1 (hG.rd (qk6 m b.ts))
  | 2=>simp at g o;subst g;subst o;exact .hf _ (jt (HF.sc _))
  | 3=>simp at g o;subst g;subst o;exact .hf _ (jt (HF.sc _))
  |k+4=>simp at g
theorem lookG(mu m ys k):∃ f,yL qg mu 304 (imG (grpK m ys)) (aI k) false=some (.lst f (((getK k (grpK m ys)).getD []).map rI)):=by
 have:=keyI.look (et:=28) (t:=304) zSi (mu:=mu) (m:=imG (grpK m ys)) (venc:=lI) (es:=grpK m ys) rfl (k:=k) trivial (fun _ _=>trivial) (z := .lst true []) zSi false;simp only[yL];cases h:getK k (grpK m ys) with
 |none=>rw[h]at this;exact⟨true,this⟩
 |some l=>rw[h]at this;exact⟨false,this⟩
theorem qlK{C g:Type}(f){l:List C}{k j}{x:g}(i)(h:(f l[k])[j]?=some x):(l.flatMap f)[((l.take k).flatMap f).length+j]?=some x:=by
 have e:l=l.take k++l[k] :: l.drop (k+1):=by rw[<-ze i,List.take_append_drop]
 have o:l.flatMap f=(l.take k).flatMap f++(f l[k]++(l.drop (k+1)).flatMap f):=by
  conv=>lhs;rw[e]
  rw[List.flatMap_append,we]
 rw[o,zZ zOm,Nat.add_sub_cancel_left,qL (ql.1 h).1];exact h
theorem qlL(n m)(hn:0<n)(aa:n<=20)(hm:0<m)(a4:m<=8000)(a b)(ha:∀ t,t∈a.ts->0<=t/\t<=1000000)(ab:a.ts.length<=1000000)(a5:b.ts.length<=1000000) :
  jO qg 243 (matC n m a b) ((joL n m a.ts b.ts).map fun t=>[aI t]):=by
 refine jO.of call243 fun i I Ix hS hX hY mu h0=>?_
 refine qSW call243 func243 rfl {} ?_;have T:=fun mu=>lookG mu m b.ts
 obtain⟨B,hB⟩:∃ B,B=imG (grpK m b.ts):=⟨_,rfl⟩;have ad:B.cells=[B]:=by rw[hB];rfl
 have ae:B.one=true:=by rw[hB];rfl
 simp only[<-hB]at T⊢;rw[<-qk7]at hY⊢;generalize hF:(fun s=>((getK (s % n) (grpK m b.ts)).getD []).map fun t=>s / n*m+t)=F at *
 have a6:∀ s,F s=((getK (s % n) (grpK m b.ts)).getD []).map fun t=>s / n*m+t:=fun s=>by rw[<-hF]
 simp[go_sem];refine aP a.ts.length (fun k U=>U.tm 0 = .yl i/\U.tm 2 = .ip [B]/\U.tm 3 = .ip [aI n]/\U.tm 4 = .ip [aI m]/\U.tm 11=lI a.ts/\U.tm 12=aI a.ts.length/\U.tm 13=aI k/\I ((a.ts.take k).flatMap F).length U.mu) ?_ ?_
 .exact ⟨zSi,by simp[go_sem,hB],zSi,zSi,zSi,zSi,zSi,zVs h0⟩
 rintro k U hk ⟨e0,e2,e3,e4,a0,o,p,P⟩;by_cases l:k<a.ts.length
 .have w1:=zWk k
  obtain⟨v0,v1⟩:=ha _ (qv l);have d1:a.ts[k].tdiv n=a.ts[k] / n:=Int.tdiv_eq_ediv_of_nonneg v0;have d2:a.ts[k].tmod n=a.ts[k] % n:=vJ v0;have q0:0<=a.ts[k] / n:=Int.ediv_nonneg v0 zOm;have q1:a.ts[k] / n<=a.ts[k]:=Int.ediv_le_self _ v0;have w2:qo.wrap (a.ts[k] / n)=a.ts[k] / n:=zWr;have a1:¬n=0:=zOm;obtain⟨f,C⟩:=T U.mu (a.ts[k] % n);have a7:((getK (a.ts[k] % n) (grpK m b.ts)).getD []).length<=1000000/\∀ t,t∈(getK (a.ts[k] % n) (grpK m b.ts)).getD []->0<=t/\t<m:=by
   have:=UI m b.ts b.ts.length (qn _) (a.ts[k] % n);rw[za]at this;rw[this];refine⟨by rw[zT];exact zQ (List.length_filter_le _ _) a5,fun t ht=>?_⟩;obtain⟨u,_,rfl⟩:=qp.1 ht;exact⟨Int.emod_nonneg _ zOm,Int.emod_lt_of_pos _ hm⟩
  have a2:=a6 a.ts[k];generalize (getK (a.ts[k] % n) (grpK m b.ts)).getD []=L at *
  obtain⟨m0,m1⟩:=X0 (x:=1000000) (y:=8000) q0 zOm (by omega:0<=m) a4 zOm;have w3:qo.wrap (a.ts[k] / n*m)=a.ts[k] / n*m:=zWr;simp[go_sem,a0,o,p,l];refine tJ zKr ?_;simp[go_sem,e2,e3,a1,d2,C];refine aP L.length (fun j U=>U.tm 0 = .yl i/\U.tm 2 = .ip [B]/\U.tm 3 = .ip [aI n]/\U.tm 4 = .ip [aI m]/\U.tm 7=aI a.ts[k]/\U.tm 11=lI a.ts/\U.tm 12=aI a.ts.length/\U.tm 13=aI k/\U.tm 21 = .lst f (L.map rI)/\U.tm 22=aI L.length/\U.tm 23=aI j/\I (((a.ts.take k).flatMap F).length+j) U.mu) ?_ ?_
  .exact ⟨zS1 e0,zS1 e2,zS1 e3,zS1 e4,zSi,zS1 a0,zS1 o,zS1 p,zSi,zSi,zSi,zVs P⟩
  rintro j U hj ⟨f0,f2,f3,f4,f7,f11,f12,f13,f21,f22,f23,P⟩;by_cases g:j<L.length
  .have w4:=zWk j
   obtain⟨u0,u1⟩:=a7.2 _ (qv g);have w5:qo.wrap (a.ts[k] / n*m+L[j])=a.ts[k] / n*m+L[j]:=zWr;have a3:((a.ts.flatMap F).map fun t=>[aI t])[((a.ts.take k).flatMap F).length+j]?=some [aI (a.ts[k] / n*m+L[j])]:=by
    rw[zz,qlK F l (x:=a.ts[k] / n*m+L[j]) (by rw[a2,zz,qy g];rfl)];rfl
   simp[go_sem,f21,f22,f23,g];refine qk.tail 8 zKr ?_;simp[go_sem,f0,f3,f4,f7,a1,d1,w2,w3,w5];refine qi.yield (hY _ _ _ a3 P) ?_;rintro b R (⟨rfl,a8⟩|⟨rfl,a9⟩)
   .simp [go_sem,f23,g,w4]
    exact aM ⟨zS1 f0,zS1 f2,zS1 f3,zS1 f4,zS1 f7,zS1 f11,zS1 f12,zS1 f13,zS1 f21,zS1 f22,zSi,a8⟩
   .simp [go_sem]
    exact .inr a9
  .have J:j=L.length:=by omega
   subst J;simp[go_sem,f13,f22,f23,w1];refine⟨l,aM ⟨zS1 f0,zS1 f2,zS1 f3,zS1 f4,zS1 f11,zS1 f12,zSi,?_⟩⟩;rw[ya l,List.flatMap_append,zj];simpa[go_sem,a2] using P
 .have J:k=a.ts.length:=by omega
  subst J;rw[za]at P;simp[go_sem,o,p];exact .inl (by simpa[List.length_flatMap] using P)
end EU
namespace EC
open E1 E2
theorem YR{n u v:Int}(g:0<n)(i:0<=v)(j:v<n):(u*n+v) / n=u/\(u*n+v) % n=v:=
 (Int.ediv_emod_unique g).2 ⟨by grind,i,j⟩
theorem qlM{n u v i g:Int}(j:0<n)(l:0<=v)(o:v<n)(p:0<=g)(t:g<n)(e:u*n+v=i * n+g):u=i/\v=g:=by
 obtain⟨a,b⟩:=YR (u:=u) j l o;simp_all[YR]
theorem UM(n):powI n 2=n*n:=by
 have:=wM (n:=n) (i:=1) (j:=1) zOm zOm zOm;rw[vP]at this;exact this
theorem aZ{n a}(j:0<=n)(g:GR n a)(l:a.ar=2){t}(o:t∈a.ts):0<n/\∃ u v,0<=u/\u<n/\0<=v/\v<n/\t=u*n+v:=by
 obtain⟨t0,t1⟩:=g.val t o;rw[l,UM]at t1;have i:0<n:=by
  rcases Int.lt_or_eq_of_le j with h|h
  .exact h
  .exfalso;rw[<-h,Int.mul_zero]at t1;omega
 refine⟨i,t / n,t % n,Int.ediv_nonneg t0 j,Int.ediv_lt_of_lt_mul i t1,Int.emod_nonneg _ zOm,Int.emod_lt_of_pos _ i,?_⟩
 grind [Int.mul_ediv_add_emod,Int.mul_comm]
theorem mY{n a b}(R:0<=n)(U:GR n a)(hb:GR n b)(ea:a.ar=2)(eb:b.ar=2)(t):t∈(joR n a b).ts↔∃ u w v,0<=w/\w<n/\0<=v/\v<n/\u*n+w∈a.ts/\w*n+v∈b.ts/\t=u*n+v:=by
 have hm:powI n (b.ar-1)=n:=by grind [vP]
 have g:t∈(joR n a b).ts↔t∈joL n n a.ts b.ts:=by
  grind [joR,uV]
 rw[g];unfold joL;rw[List.mem_flatMap];constructor
 .rintro ⟨s,T,ht⟩
  obtain⟨r,hr,rfl⟩:=qp.1 ht;obtain⟨i,l⟩:=jg.1 hr;obtain⟨j,u,w,u0,u1,o,p,rfl⟩:=aZ R U ea T;obtain⟨_,y,v,y0,y1,v0,v1,rfl⟩:=aZ R hb eb i;obtain⟨C,I⟩:=YR (u:=u) j o p;obtain⟨J,P⟩:=YR (u:=y) j v0 v1;rw[J,I]at l;have l:y=w:=zUs l;subst l;exact⟨u,y,v,o,p,v0,v1,T,i,by rw[C,P]⟩
 .rintro ⟨u,w,v,o,p,v0,v1,h1,h2,rfl⟩
  have j:0<n:=zOm;obtain⟨C,I⟩:=YR (u:=u) j o p;obtain⟨J,P⟩:=YR (u:=w) j v0 v1;exact⟨_,h1,qp.2 ⟨_,jg.2 ⟨h2,by rw[J,I];simp⟩,by rw[C,P]⟩⟩
theorem Z3(a b t):t∈(unR a b).ts↔t∈a.ts\/t∈b.ts:=by
 have:=(uV (a.ts++b.ts)).2 t;rw[qP]at this;exact this
inductive Tc (A:Int->Int->Prop):Int->Int->Prop
 |base {u v:Int} (h:A u v):Tc A u v
 |trans {u w v:Int} (h1:Tc A u w) (h2:Tc A w v):Tc A u v
def Pr(n:Int)(l:List Int)(u v:Int):Prop:=0<=u/\u<n/\0<=v/\v<n/\u*n+v∈l
theorem mZ{l m}(o:zp l)(I:zp m)(J:∀ t,t∈l->t∈m)(e:m.length=l.length):∀ t,t∈m->t∈l:=fun t p =>
 Classical.byContradiction fun C=>by
  have:=jl (l₁:=t :: l) (l₂:=m) (List.nodup_cons.2 ⟨C,Zp o⟩) fun x j=>by
   rcases qz.1 j with rfl|j
   .exact p
   grind
  simp at this;omega
theorem m5{n}(l:0<=n)(i:n<=12)(A):∀(f){c},145<=f+c.ts.length->GR n c->c.ar=2->(∀ u v,Pr n c.ts u v->Tc A u v) ->
  (∀ t,t∈c.ts->t∈(clR n f c).ts)/\(∀ u v,Pr n (clR n f c).ts u v->Tc A u v)/\∀ u w v,Pr n (clR n f c).ts u w->Pr n (clR n f c).ts w v->Pr n (clR n f c).ts u v
 | 0,c,hf,g,j,o=>by
  exfalso;have:=YJ (m:=144) g.srt fun t p=>by
   obtain⟨a,b⟩:=g.val t p;rw[j,UM]at b;have:n*n<=12*12:=jv i i l zOm;omega
  omega
 |f+1,c,hf,g,j,o=>by
  have gj:=GR.join l g g zOm zOm;have gu:=aG g gj (by show c.ar=c.ar+c.ar-2;omega);rw[clR];by_cases T:(unR c (joR n c c)).ts.length=c.ts.length
  .rw [if_pos T]
   refine⟨fun t h=>h,o,fun u w v U C=>?_⟩;obtain⟨I,J,P,R,U⟩:=U;obtain⟨_,_,v0,v1,C⟩:=C;refine⟨I,J,v0,v1,mZ g.srt gu.srt (fun t p=>(Z3 _ _ t).2 (.inl p)) T _ ((Z3 _ _ _).2 (.inr ?_))⟩;exact(mY l g g j j _).2 ⟨u,w,v,P,R,v0,v1,U,C,rfl⟩
  .rw [if_neg T]
   have a2:c.ts.length<=(unR c (joR n c c)).ts.length:=jl (Zp g.srt) fun t p=>(Z3 _ _ t).2 (.inl p)
   obtain⟨r1,r2,r3⟩:=m5 l i A f (c:=unR c (joR n c c)) zOm gu j fun u v hp=>by
    obtain⟨I,J,v0,v1,hp⟩:=hp;rcases (Z3 _ _ _).1 hp with h|h
    .exact o u v ⟨I,J,v0,v1,h⟩
    .obtain ⟨u',w,v',P,R,a0,a1,C,h4,e⟩:=(mY l g g j j _).1 h
     obtain⟨rfl,rfl⟩:=qlM zOm v0 v1 a0 a1 e;exact .trans (o u w ⟨I,J,P,R,C⟩) (o w v ⟨P,R,v0,v1,h4⟩)
   grind [Z3]
theorem m8{n}(j:0<=n)(i:n<=12){a}(g:GR n a)(l:a.ar=2)(u v):Pr n (clR n 200 a).ts u v↔Tc (Pr n a.ts) u v:=by
 obtain⟨o,p,I⟩:=m5 j i (Pr n a.ts) 200 zOm g l fun u v h => .base h
 refine⟨p u v,fun h=>?_⟩;induction h with
 |base h=>obtain⟨t,C,v0,v1,h⟩:=h;exact⟨t,C,v0,v1,o _ h⟩
 |trans _ _ J P=>grind
end EC
namespace EY
open E1 E2 E3 EO EP EQ ET EW EU EC
def GatM(mu:Mu)(l:List Int):Prop:=∃ t,mu[0]?=some (.arr [aI 0,.lst true []])/\mu[1]?=some (.arr [t])/\OwnI mu t l/\qq t≠some 0/\qq t≠some 1
theorem GatM.step{mu mu':Mu}{av g l}(I:mu[0]?=some (.arr [aI 0,.lst true []]))(j:mu[1]?=some (.arr [av]))(n0:qq av≠some 0)(J:qq av≠some 1)(o:OwnI mu' g l)
  (P:∀ i,i<mu.length->qq av≠some i->mu'[i]?=mu[i]?) (R:mu.length<=mu'.length) (T:∀ b,qq g=some b->b=mu.length):mu'[1]?=some (.arr [av])/\GatM (mu'.set 1 (.arr [g])) l:=by
 have U:1<mu.length:=(ql.1 j).1;have p:qq g≠some 0:=fun e=>by grind
 have t:qq g≠some 1:=fun e=>by grind
 refine⟨by grind,g,by grind,by grind,o.same fun b C=>?_,p,t⟩
 grind
theorem GatM.push{mu l}(h:GatM mu l):GatM (mu++[.dead]) l:=by
 obtain⟨t,o,g1,g,n0,i⟩:=h;exact⟨t,by grind,by grind,g.same fun b j=>by rw[qL (g.v.lt j)],n0,i⟩
theorem GR.none{n}(h:n=0){a}(g:GR n a):a.ts=[]:=by
 cases i:a.ts with
 |nil=>rfl
 |cons t l =>
  exfalso;obtain⟨v0,v1⟩:=g.val t (by rw[i];simp);have o:=g.ar1;rw[wL zOm g.ar3,h]at v1;have:(0:Int) ^ a.ar.toNat=0:=by
   obtain⟨k,j⟩:∃ k,a.ar.toNat=k+1:=⟨a.ar.toNat-1,zOm⟩;rw[j,Int.pow_succ,Int.mul_zero]
  omega
theorem qlN(n m x y):(joL n m x y).length<=x.length*y.length:=by
 induction x with
 |nil=>simp[joL]
 |cons s x g =>
  simp only[joL,we,zj,zT,yy]at g⊢;have:=List.length_filter_le (fun t=>decide (t / m=s % n)) y;rw[Nat.add_mul];omega
theorem uU(n)(l:0<=n)(ah:n<=12)(a b)(p:GR n a)(o:GR n b)(hs:a.ar+b.ar<=5->a.ts.length*b.ts.length<=1000000):qj qg 100 [aI n,eRel a,eRel b] (match js n a b with | .ok r => .tup [eRel r,aI 0] | .error e => .tup [eRel ⟨0,[]⟩,aI e]):=by
 refine qSV call100 func100 rfl ?_;have a1:=p.ar1;have a3:=p.ar3;have b1:=o.ar1;have b3:=o.ar3;have la:=p.len l zOm;have lb:=o.len l zOm;have w0:qo.wrap (a.ar+b.ar)=a.ar+b.ar:=zWr;have w1:qo.wrap (a.ar+b.ar-2)=a.ar+b.ar-2:=zWr;unfold js;by_cases a0:1<=a.ar+b.ar-2
 case neg =>
  have C:a.ar+b.ar-2<1:=zOm;rw[zIn];simp_all[go_sem,Zq,Z2]
 by_cases a2:a.ar+b.ar-2<=3
 case neg =>
  have C:¬a.ar+b.ar-2<1:=zOm;have g:3<a.ar+b.ar-2:=zOm;rw[zIn];simp[go_sem,w0,w1,C,g];exact Zq Z2
 have C:¬a.ar+b.ar-2<1:=zOm;have g:¬ 3<a.ar+b.ar-2:=zOm;rw[if_pos ⟨a0,a2⟩];by_cases hz:n=0
 .have e:joR n a b=⟨a.ar+b.ar-2,[]⟩:=by
   unfold joR;rw[GR.none hz p];rfl
  simp[go_sem,w0,w1,C,g,hz]
  grind [Zq,Z2]
 have ai:1<=n:=zOm;have w2:qo.wrap (b.ar-1)=b.ar-1:=zWr;have hp:0<powI n (b.ar-1):=Int.pow_pos zOm;obtain⟨p0,p1⟩:=Qm (k:=b.ar-1) l (by omega:n<=20);obtain⟨q0,q1⟩:=Qm (k:=b.ar) l (by omega:n<=20);obtain⟨r0,r1⟩:=Qm (k:=a.ar) l (by omega:n<=20);have a4:∀ t,t∈a.ts->0<=t/\t<=1000000:=fun t I=>zW1 (p.val t I)
 have a5:∀ t,t∈b.ts->0<=t/\t<=1000000:=fun t I=>zW1 (o.val t I)
 have a6:=XZ n l zOm (b.ar-1) zOm zOm;have hJ:joR n a b=⟨a.ar+b.ar-2,ofL (joL n (powI n (b.ar-1)) a.ts b.ts)⟩:=rfl;have aj:=qlN n (powI n (b.ar-1)) a.ts b.ts;have hs:=hs zOm;have a7:=qlJ n (powI n (b.ar-1)) hp p1 a b a5 zOm;have a8:=qlL n (powI n (b.ar-1)) zOm zOm hp p1 a b a4 zOm zOm;have a9:WKs [aI n,aI (powI n (b.ar-1)),eRel a,eRel b] [aI n,aI (powI n (b.ar-1)),eRel a,eRel b] := .zs (.zs (.zk (qr a) (.zk (qr b) .nil)));simp only[hJ];generalize powI n (b.ar-1)=m at *
 generalize joL n m a.ts b.ts=J at *
 simp[go_sem,w0,w1,C,g,hz];refine tJ zKr ?_;simp[go_sem,w2];refine fW a6 (.zs (.zs .nil)) ?_;refine fW a7 a9 ?_;refine dA a8 (fun j M=>GatM M (J.take j)) (fun _ _=>False) ?_ ?_ ?_ ?_ ?_ ?_
 .exact ⟨.lst true [],zSi,zSi,.inl ⟨rfl,rfl⟩,by simp[qq],by simp[qq]⟩
 .exact fun j M h=>h.push
 .grind
 .rintro j x M hj ⟨av,U,g1,ho,n0,n1⟩
  rw[zz,vX]at hj;obtain⟨t,I,rfl⟩:=hj;obtain⟨ag,ak⟩:=ql.1 I;refine⟨rfl,?_⟩;simp[go_sem,g1];refine aV (e:=3) (bt:=8) (z:=0) zSi zSi zSi zOm ho.v zSo ?_;intro al R i aa ab ad;obtain⟨k1,k2⟩:=GatM.step U g1 n0 n1 i aa ab ad;simp[go_sem,k1,i.v.one,i.v.cells]
  grind [dK,ya]
 .rintro M ⟨av,U,g1,ho,n0,n1⟩
  rw[zT,za]at ho;simp[go_sem,g1];refine aA (XW M _ av J zOm ho) ?_ ?_
  .rintro r m' ⟨x,h,P,ae,an,af⟩
   cases h;have h1:=ae 0 (ql.1 U).1 n0;rw[U]at h1;have T:∀ c,(m'.set 0 c)[0]?=some c:=fun c=>qJ (ql.1 h1).1
   have hx:qq x≠some 0:=fun h=>n0 (af _ h)
   simp[go_sem,h1,T,P.one];refine Zq (r:=⟨a.ar+b.ar-2,ofL J⟩) (aL (P.same fun b o=>?_));rw[yH (fun e=>hx (by rw[e];exact o))]
  grind
 grind
theorem qlO(p)(C:p.length<=1000000000):qj qg 173 [lI p] (lI p):=by
 refine qSV call173 func173 rfl ?_;cases p with
 |nil =>
  simp[go_sem,lI];refine⟨.wk _ true _ (.hf _ (HF.lst (full:=true) (xs:=[]) fun r i=>by simp at i)),?_⟩;refine aH (e:=3) (bt:=8) (z:=0) (l:=[]) (ys:=[]) zSi zSi zSi zOm (.inl ⟨rfl,rfl⟩) (by simp[qA]) zSp ?_;intro t R g _ _ _;simp[go_sem];exact g.v.rd
 |cons x l =>
  simp[go_sem,lI];refine aH (e:=3) (bt:=8) (z:=0) (l:=[]) (ys:=x :: l) zSi zSi zSi zOm (.inl ⟨rfl,rfl⟩) (by simp[qA]) (by grind) ?_;intro t R g _ _ _;simp[go_sem];exact g.v.rd
theorem UN{n}(j:0<=n)(i:n<=12){a}(g:GR n a)(l:a.ar=2):a.ts.length<=144:=by
 have e:=UM n;have p:n*n<=12*12:=jv i i j zOm;exact YJ g.srt fun t o=>by have:=g.val t o;rw[l,e]at this;omega
theorem qlP{a b}(g:zp a.ts):a.ts.length<=(unR a b).ts.length:=by
 refine jl (Zp g) fun x i=>?_
 exact(uV (a.ts++b.ts)).2 x |>.2 (jh _ i)
theorem wkJ(n a b):WKs [aI n,eRel a,eRel b] [aI n,eRel a,eRel b] := .zs (.zk (qr a) (.zk (qr b) .nil))
theorem wkR2(a b):WKs [eRel a,eRel b] [eRel a,eRel b] := .zk (qr a) (.zk (qr b) .nil)
theorem X1(n)(l:0<=n)(g:n<=12)(a)(ha:GR n a)(J:a.ar=2):qj qg 92 [aI n,eRel a] (eRel (clR n 200 a)):=by
 refine qSV call92 func92 rfl ?_;have a0:=UN l g ha J;simp[go_sem];refine fW (qlO a.ts zOm) (.zk (zy _) .nil) ?_;refine dS (fun m o=>∃ c,m=145-c.ts.length/\GR n c/\c.ar=2/\(∃ f,145<=f+c.ts.length/\clR n f c=clR n 200 a)/\o.tm 0=aI n/\o.tm 4 = .ptr 0 0/\o.tm 5 = .ptr 1 0/\∃ i,o.mu = .arr [aI 0,.lst true []] :: .arr (cRel c) :: i) (145-a.ts.length) ?_ ?_
 .exact ⟨a,rfl,ha,J,⟨200,zOm,rfl⟩,zSi,zSi,zSi,[],zS1 J⟩
 rintro m o ⟨c,rfl,gc,c2,⟨f,hf,j⟩,e0,e4,p,i,hm⟩;have t:=UN l g gc c2;have gj:=GR.join l gc gc zOm zOm;have gu:=aG gc gj (by show c.ar=c.ar+c.ar-2;omega);have a1:=UN l g gu c2;have a2:=qlP (b:=joR n c c) gc.srt;have hj:=uU n l g c c gc gc fun _=>zQ (Nat.mul_le_mul t t) zOm
 have P:js n c c = .ok (joR n c c):=by simp_all[js,if_pos]
 rw[P]at hj;have a3:=UN l g gj (by show c.ar+c.ar-2=2;omega);have hu:=jy c (joR n c c) zOm zOm;simp[go_sem,e0,p,hm];refine t8 hj (wkJ n c c) ?_;simp[go_sem,p];refine t8 hu (wkR2 c (joR n c c)) ?_;generalize R:unR c (joR n c c)=U at *
 by_cases I:U.ts.length=c.ts.length
 .have hr:clR n 200 a=c:=by
   rw[<-j];cases f with
   |zero=>omega
   |succ f=>rw[clR,R,if_pos I]
  rw[hr];simp[go_sem,e4,p,I];exact .hf _ (qr c)
 .have C:∃ f,145<=f+U.ts.length/\clR n f U=clR n 200 a:=by
   cases f with
   |zero=>omega
   |succ f =>
    rw[clR,R,if_neg I]at j;exact⟨f,zOm,j⟩
  have T:U.ar=2:=by rw[<-R];exact c2
  simp[go_sem,p,I];exact Keep.loop (145-U.ts.length) zOm ⟨U,rfl,gu,T,C,zS1 e0,zS1 e4,zS1 p,_,by simp[go_sem];rfl⟩
end EY
namespace GD
theorem wK(xs:List Int):(xs.map rI).flatten=xs.map aI:=by
 induction xs with
 |nil=>rfl
 |cons x xs g=>simp[g]
end GD
namespace EZ
open E1 E2 EO EP EQ ER ET EC EY
theorem m9(m)(i:0<m)(x)(g:0<=x/\x<=1000000):qj qg 244 [aI x,.ip [aI m]] (aI (x / m)):=by
 refine qSV call244 func244 rfl ?_;have d1:x.tdiv m=x / m:=Int.tdiv_eq_ediv_of_nonneg g.1;have j:0<=x / m:=Int.ediv_nonneg g.1 zOm;have q1:x / m<=x:=Int.ediv_le_self _ g.1;have w2:qo.wrap (x / m)=x / m:=zWr;simp[go_sem,show ¬m=0 by omega,d1,w2];exact .zsc _
abbrev ovF(m:Int):AV := .fn (.func 244) [] [.ip [aI m]]
theorem YT(m):HF (ovF m):=HF.fn zSp (by simp;exact jt (HF.sc _))
theorem cS(m)(g:0<m)(ok)(h:∀ x,ok x->0<=x/\x<=1000000):FnOk qg (ovF m) (fun x:Int=>aI x) ok (fun x=>aI (x / m)):=
 ⟨YT m,_,[],_,rfl,fun x i=>⟨_,.zs (.zk (jt (HF.sc _)) .nil),m9 m g x (h x i)⟩⟩
theorem qlQ(m)(g:0<m)(ts x)(i:0<=x/\x<=1000000):qj qg 245 [aI x,.ip [imC (cntK (fun t=>t / m) ts)],.ip [ovF m]] (aB (decide ((getK (x / m) (cntK (fun t=>t / m) ts)).getD 0=0))):=by
 refine qSV call245 func245 rfl ?_;have j:=fun I=>XY I (fun t=>t / m) ts (x / m)
 have l:(imC (cntK (fun t=>t / m) ts)).cells=[imC (cntK (fun t=>t / m) ts)]:=rfl;have o:(imC (cntK (fun t=>t / m) ts)).one=true:=rfl;generalize imC (cntK (fun t=>t / m) ts)=B at *
 simp[go_sem];refine fD ?_;refine qi.clo (m9 m g x i) (.zs (.zk (jt (HF.sc _)) .nil)) ?_;simp[go_sem,j];exact .zsc _
theorem qlR(m ts x):(getK (x / m) (cntK (fun t=>t / m) ts)).getD 0=0↔∀ u,u∈ts->u / m≠x / m:=by
 obtain⟨l,i⟩:=mO (fun t=>t / m) ts (x / m);constructor
 .intro h u g e
  have:=i.2 ⟨u,g,e⟩;omega
 .intro h
  have:¬ 0<(getK (x / m) (cntK (fun t=>t / m) ts)).getD 0:=fun j=>by
   obtain⟨u,g,e⟩:=i.1 j;exact h u g e
  omega
theorem overU(n)(o:0<=n)(a8:n<=12)(a b)(J:GR n a)(p:GR n b)(e:a.ar=b.ar):qj qg 183 [aI n,eRel a,eRel b] (eRel (ovR n a b)):=by
 refine qSV call183 func183 rfl ?_;have b1:=p.ar1;have b3:=p.ar3;have la:=J.len o zOm;have lb:=p.len o zOm;by_cases I:n=0
 .have hr:ovR n a b=⟨a.ar,[]⟩:=by
   unfold ovR unR;rw[GR.none I J,GR.none I p,e];rfl
  rw[hr];simp[go_sem,I];exact Z2
 have w2:qo.wrap (b.ar-1)=b.ar-1:=zWr;have hp:0<powI n (b.ar-1):=Int.pow_pos zOm;obtain⟨p0,p1⟩:=Qm (k:=b.ar-1) o (by omega:n<=20);obtain⟨q0,q1⟩:=Qm (k:=b.ar) o (by omega:n<=20);obtain⟨r0,r1⟩:=Qm (k:=a.ar) o (by omega:n<=20);have P:∀ t,t∈a.ts->0<=t/\t<=1000000:=fun t T=>zW1 (J.val t T)
 have U:∀ t,t∈b.ts->0<=t/\t<=1000000:=fun t T=>zW1 (p.val t T)
 have a0:=XZ n o zOm (b.ar-1) zOm zOm;unfold ovR;generalize powI n (b.ar-1)=m at *
 have a1:=setU b (ovF m) (fun t=>t / m) (cS m hp (·∈b.ts) U) zOm;have g:=Z0 (cntK (fun t=>t / m) b.ts);have hk:=XX a.ts (.fn (.func 245) [] [.ip [imC (cntK (fun t=>t / m) b.ts)],.ip [ovF m]]) (fun t=>decide (∀ u,u∈b.ts->u / m≠t / m)) ⟨HF.fn zSp (by simp;exact⟨jt g,jt (YT m)⟩),_,[],_,rfl,fun x j=>⟨_,.zs (.zk (jt g) (.zk (jt (YT m)) .nil)),by have:=qlQ m hp b.ts x (P x j);simp only[qlR m b.ts x]at this;exact this⟩⟩ zOm;have a2:(imC (cntK (fun t=>t / m) b.ts)).cells=[imC (cntK (fun t=>t / m) b.ts)]:=rfl;have a3:(imC (cntK (fun t=>t / m) b.ts)).one=true:=rfl;generalize imC (cntK (fun t=>t / m) b.ts)=B at *
 have a4:WKs [lI a.ts,.fn (.func 245) [] [.ip [B],.ip [ovF m]]] [lI a.ts,.fn (.func 245) [] [.ip [B],.ip [ovF m]]] := .zk (zy _) (.cons (.hf (HF.fn zSp (by simp;exact⟨jt g,jt (YT m)⟩))) .nil);have a5:=List.length_filter_le (fun t=>decide (∀ u,u∈b.ts->u / m≠t / m)) a.ts;have hu:=jy b ⟨a.ar,a.ts.filter fun t=>decide (∀ u,u∈b.ts->u / m≠t / m)⟩ zOm (zQ a5 zOm);have a6:=wkR2 b ⟨a.ar,a.ts.filter fun t=>decide (∀ u,u∈b.ts->u / m≠t / m)⟩;generalize a.ts.filter (fun t=>decide (∀ u,u∈b.ts->u / m≠t / m))=K at *
 simp[go_sem,I];rw[w2];refine fW a0 (.zs (.zs .nil)) ?_;refine aA (fV (args1:=[eRel b,ovF m]) (mu':=[.arr [aI 0,.lst true []],.dead,.arr [ovF m]]) (fun i=>i == 1) ?_ ?_ (a1.toSound _ (.zk (qr b) (.zk (YT m) .nil)))) ?_ ?_
 .exact ⟨.same _,.fn _ _ _ _ _ rfl rfl zSp (fun k x y j C=>by
   match k with
   | 0=>simp at j C;subst j;subst C;exact .rd _ _ (aQ rfl (.hf _ (HF.sc _)))
   |k+1=>simp at j),trivial⟩
 .refine ⟨rfl,fun i c' l h2=>?_⟩
  match i with
  | 0=>simp at l;subst l;exact⟨rfl,_,rfl,zSp,.inl rfl⟩
  | 1=>simp at l;exact absurd l.symm h2
  | 2 =>
   simp at l;subst l;exact⟨rfl,_,rfl,zSp,.inr ⟨_,_,rfl,rfl,⟨.fn _ _ _ _ _ rfl rfl zSp (fun k x y j C=>by
    match k with
    | 0=>simp at j C;subst j;subst C;exact .rd _ _ (aQ rfl (.hf _ (HF.sc _)))
    |k+1=>simp at j),trivial⟩,rfl⟩⟩
  |i+3=>simp at l
 .rintro r R ⟨h,rfl⟩
  cases h;simp[go_sem,a2,a3];refine qk.fz (FzQ.one (d:=8) (b:=2) (x := .ip [ovF m]) (aQ rfl (.hf _ (YT m))) ?_);refine qk.fz (FzQ.one (d:=9) (b:=3) (x := .ip [B]) ?_ ?_)
  .simp [go_sem,cutM]
   exact aQ rfl (.hf _ g)
  simp[go_sem,cutM];refine fD ?_;refine fW hk a4 ?_;refine fW hu a6 ?_;exact .hf _ (qr _)
 .rintro r R ⟨h,rfl⟩
  cases h
end EZ
namespace F2
open Y1 Y9 E1 E2 E3 EA EQ ER EY EZ F1
structure Ev3 (x:Mo) (p:Pl) (n:Nd):Prop where
 E:qR qg 45 [eMa x,ePl p,eNd n] (endE ((den x n).E p))
 N:qR qg 124 [eMa x,ePl p,eNd n] (endN ((den x n).N p))
 F:qR qg 49 [eMa x,ePl p,eNd n] (endB ((den x n).F p))
 G:∀ r,(den x n).E p = .ok r->GR x.n r
structure OkMa (x:Mo) (N:Nat):Prop extends OkM x N where
 gsc:GSc x.m.sc
 pos:∀ a,a∈x.m.sc.sC->0<=a
 al:x.m.sc.sC.length=x.ts.sS.length
 loop:0<=x.m.loop
 N1:N<=1000
 ts:okTS x.ts
mutual
def dN:Nd->Nat
 | .mk _ _ _ ks _=>dNs ks+1
def dNs:List Nd->Nat
 | []=>0
 |k :: ks=>max (dN k) (dNs ks)
end
theorem qaA(n):dN n=dNs n.sD+1:=by
 obtain⟨op,nm,i,ks,p⟩:=n;rfl
theorem qlS{ks k}(h:k∈ks):dN k<=dNs ks:=by
 induction ks with
 |nil=>simp at h
 |cons a l g =>
  simp only[dNs];rcases qz.1 h with rfl|h
  .omega
  .have:=g h;omega
theorem qlT{n k}(h:k∈n.sD):dN k<dN n:=by
 have:=qlS h;rw[qaA n];omega
abbrev IH(x:Mo)(N:Nat)(n:Nd):Prop:=∀ k,k∈n.sD->∀ p:Pl,OkP x N p->p.env.length+dN n<=1000001->Ev3 x p k
abbrev bd(p:Pl)(n:Nd):Prop:=p.env.length+dN n<=1000000
theorem qlU{mu r s x y}(h:Rd mu x (eRel r))(j:Rd mu y (eRel s)):Rd mu (.tup [x,y]) (.tup [eRel r,eRel s]):=by
 refine .tup _ _ rfl fun k u v g i=>?_
 match k with
 | 0=>simp at g i;subst g;subst i;exact h
 | 1=>simp at g i;subst g;subst i;exact j
 |k+2=>simp at g
theorem YY(x N n a b)(i:n.sD=[a,b])(t:IH x N n)(p)(C:OkP x N p)(T:bd p n) :
  qR qg 123 [eMa x,ePl p,eNd n] (end2 (yv [den x a,den x b] p)):=by
 refine zd.of_sound ?_;refine qSW call123 func123 rfl {} ?_;have j:=(t a (by rw[i];simp) p C zOm).E;have l:=(t b (by rw[i];simp) p C zOm).E;have I:=wk3 x p a;have J:=wk3 x p b;have U:=z8 x;generalize g:yv [den x a,den x b] p=E;unfold yv at g;simp only[kD,vh,List.getD_cons_succ]at g;generalize eMa x=M at *
 simp[go_sem];refine fG [0,1,2,3,4,5,7,8,9,10,11,12,6,13,14,15,16,17] [(6,1,[8,10,12]),(13,1,[]),(14,2,[1,3,5,8,10,12]),(15,2,[1,3,5,8,10,12]),(16,1,[]),(17,1,[])] zKr zKr zSi ?_;simp[go_sem,i];cases ea:(den x a).E p with
 |error e =>
  rw[ea]at j g;subst g;refine aC j I ?_;simp[go_sem];exact .hf _ (qN _)
 |ok r =>
  rw[ea]at j g;rw[zr]at g;refine t8 j.toP I ?_;simp[go_sem,i];cases P:(den x b).E p with
  |error e =>
   rw[P]at l g;subst g;refine aC l J ?_;simp[go_sem];exact .hf _ (qN _)
  |ok s =>
   rw[P]at l g;rw[zr]at g;refine t8 l.toP J ?_;by_cases o:r.ar=s.ar
   .rw [if_pos o]at g
    subst g;have R:(r.ar=s.ar)=True:=eq_true o;simp[go_sem,i,R];refine fG [0,1,2,3] [(2,1,[1]),(3,1,[])] zKr zKr zSi ?_;simp[go_sem];exact qlU (.hf _ (qr r)) (.hf _ (qr s))
   .rw [if_neg o]at g
    subst g;simp[go_sem,i,o];refine aC (wP 42) (wkI 42) ?_;simp[go_sem];exact .hf _ (qN _)
theorem qlV(x N n a b)(i:OkMa x N)(j:n.sD=[a,b])(l:IH x N n)(p)(o:OkP x N p)(P:bd p n) :
  qR qg 106 [eMa x,ePl p,eNd n] (endE (bX (yv [den x a,den x b] p) fun q => .ok (unR q.1 q.2))):=by
 refine zd.of_sound ?_;refine qSW call106 func106 rfl {} ?_;have g:=YY x N n a b j l p o P;have C:=wk3 x p n;have R:=z8 x;cases t:yv [den x a,den x b] p with
 |error e =>
  rw[t]at g;rw[zF];simp[go_sem];refine aC g C ?_;simp[go_sem];exact .hf _ (qN _)
 |ok q =>
  obtain⟨r,s⟩:=q;obtain⟨I,J,h3⟩:=uW t;simp only[kD,vh,List.getD_cons_succ]at I J;have T:=(l a (by rw[j];simp) p o zOm).G _ I;have U:=(l b (by rw[j];simp) p o zOm).G _ J;have lr:=T.len i.n0 (zW1 i.n12);have ls:=U.len i.n0 (zW1 i.n12);rw[t]at g;rw[zr];simp[go_sem];refine fW g.toP C ?_;refine fW (jy r s zOm zOm) (wkR2 r s) ?_;exact .hf _ (qr _)
theorem qlW(x N n a b)(i:OkMa x N)(j:n.sD=[a,b])(l:IH x N n)(p)(o:OkP x N p)(P:bd p n) :
  qR qg 107 [eMa x,ePl p,eNd n] (endE (bX (yv [den x a,den x b] p) fun q => .ok (inR q.1 q.2))):=by
 refine zd.of_sound ?_;refine qSW call107 func107 rfl {} ?_;have g:=YY x N n a b j l p o P;have C:=wk3 x p n;have R:=z8 x;cases t:yv [den x a,den x b] p with
 |error e =>
  rw[t]at g;rw[zF];simp[go_sem];refine aC g C ?_;simp[go_sem];exact .hf _ (qN _)
 |ok q =>
  obtain⟨r,s⟩:=q;obtain⟨I,J,h3⟩:=uW t;simp only[kD,vh,List.getD_cons_succ]at I J;have T:=(l a (by rw[j];simp) p o zOm).G _ I;have U:=(l b (by rw[j];simp) p o zOm).G _ J;have lr:=T.len i.n0 (zW1 i.n12);have ls:=U.len i.n0 (zW1 i.n12);rw[t]at g;rw[zr];simp[go_sem];refine fW g.toP C ?_;refine fW (YQ r s zOm zOm) (wkR2 r s) ?_;exact .hf _ (qr _)
theorem diffX(x N n a b)(i:OkMa x N)(j:n.sD=[a,b])(l:IH x N n)(p)(o:OkP x N p)(P:bd p n) :
  qR qg 108 [eMa x,ePl p,eNd n] (endE (bX (yv [den x a,den x b] p) fun q => .ok (diR q.1 q.2))):=by
 refine zd.of_sound ?_;refine qSW call108 func108 rfl {} ?_;have g:=YY x N n a b j l p o P;have C:=wk3 x p n;have R:=z8 x;cases t:yv [den x a,den x b] p with
 |error e =>
  rw[t]at g;rw[zF];simp[go_sem];refine aC g C ?_;simp[go_sem];exact .hf _ (qN _)
 |ok q =>
  obtain⟨r,s⟩:=q;obtain⟨I,J,h3⟩:=uW t;simp only[kD,vh,List.getD_cons_succ]at I J;have T:=(l a (by rw[j];simp) p o zOm).G _ I;have U:=(l b (by rw[j];simp) p o zOm).G _ J;have lr:=T.len i.n0 (zW1 i.n12);have ls:=U.len i.n0 (zW1 i.n12);rw[t]at g;rw[zr];simp[go_sem];refine fW g.toP C ?_;refine fW (Z1 r s zOm zOm) (wkR2 r s) ?_;exact .hf _ (qr _)
theorem overX(x N n a b)(i:OkMa x N)(j:n.sD=[a,b])(l:IH x N n)(p)(o:OkP x N p)(T:bd p n) :
  qR qg 109 [eMa x,ePl p,eNd n] (endE (bX (yv [den x a,den x b] p) fun q => .ok (ovR x.n q.1 q.2))):=by
 refine zd.of_sound ?_;refine qSW call109 func109 rfl {} ?_;have g:=YY x N n a b j l p o T;have C:=wk3 x p n;have U:=z8 x;cases t:yv [den x a,den x b] p with
 |error e =>
  rw[t]at g;rw[zF];simp[go_sem];refine aC g C ?_;simp[go_sem];exact .hf _ (qN _)
 |ok q =>
  obtain⟨r,s⟩:=q;obtain⟨I,J,h3⟩:=uW t;simp only[kD,vh,List.getD_cons_succ]at I J;have P:=(l a (by rw[j];simp) p o zOm).G _ I;have R:=(l b (by rw[j];simp) p o zOm).G _ J;have lr:=P.len i.n0 (zW1 i.n12);have ls:=R.len i.n0 (zW1 i.n12);rw[t]at g;rw[zr];simp[go_sem];refine fW g.toP C ?_;refine fD ?_;refine fW (overU x.n i.n0 i.n12 r s P R h3) (wkJ x.n r s) ?_;exact .hf _ (qr _)
end F2
namespace F3
open Y1 E1 E2 E3 EA EL EQ ET EY F1 F2
theorem cC{x N}(h:OkMa x N):x.n<=20:=by have:=h.n12;omega
theorem cN{n}(p:0<=n)(l:n<=12){a b}(I:GR n a)(J:GR n b)(h:a.ar+b.ar<=5):a.ts.length*b.ts.length<=1000000:=by
 have key:∀{c:Rl},GR n c->(c.ar=1->c.ts.length<=12)/\(c.ar=2->c.ts.length<=144)/\c.ts.length<=1728:=fun {c} g=>by
  have e2:n*n<=12*12:=jv l l p zOm;have a0:0<=n*n:=Int.mul_nonneg p p;have e3:n*n*n<=12*12*12:=jv e2 l p zOm;have P:powI n 1=n:=vP n;have R:powI n 2=n*n:=EC.UM n;have p3:powI n 3=n*n*n:=by
   have:=wM (n:=n) (i:=2) (j:=1) zOm zOm zOm;rw[P,R]at this;exact this
  have c1:=g.ar1;have c3:=g.ar3;refine⟨fun e=>YJ g.srt fun t o=>?_,fun e=>YJ g.srt fun t o=>?_,YJ g.srt fun t o=>?_⟩
  .have:=g.val t o;rw[e,P]at this;omega
  .have:=g.val t o;rw[e,R]at this;omega
  .have hv:=g.val t o
   have:c.ar=1\/c.ar=2\/c.ar=3:=zOm;rcases this with e|e|e
   .grind
   .grind
   grind
 obtain⟨a1,a2,T⟩:=key I;obtain⟨b1,b2,U⟩:=key J;have:=I.ar1;have:=J.ar1;by_cases ea:a.ar=1
 .exact zQ (Nat.mul_le_mul (a1 ea) U) zOm
 .by_cases eb:b.ar=1
  .exact zQ (Nat.mul_le_mul T (b1 eb)) zOm
  .by_cases C:a.ar=2
   .exact zQ (Nat.mul_le_mul (a2 C) U) zOm
   .exact zQ (Nat.mul_le_mul T (b2 zOm)) zOm
theorem qaB(x N n a i)(j:n.sD=a :: i)(C:IH x N n)(p)(I:OkP x N p)(P:bd p n) :
  qR qg 185 [eMa x,ePl p,eNd n] (endE (binE [den x a] p)):=by
 refine zd.of_sound ?_;refine qSW call185 func185 rfl {} ?_;have l:=(C a (by rw[j];simp) p I zOm).E;have t:=wk3 x p a;generalize g:binE [den x a] p=E;unfold binE at g;simp only[kD,vh]at g;generalize eMa x=M at *
 simp[go_sem];refine fG [0,1,2,3,4,5,6,7,8] [(6,1,[]),(7,2,[1,3,5]),(8,1,[])] zKr zKr zSi ?_;simp[go_sem,j];cases ea:(den x a).E p with
 |error e =>
  rw[ea]at l g;subst g;refine aC l t ?_;simp[go_sem,zF];exact .hf _ (qN _)
 |ok r =>
  rw[ea]at l g;rw[zr]at g;refine t8 l.toP t ?_;by_cases o:r.ar=2
  .rw [if_pos o]at g
   subst g;have J:(r.ar=2)=True:=eq_true o;simp[go_sem,j,J];exact .hf _ (qr r)
  .rw [if_neg o]at g
   subst g;simp[go_sem,j,o];refine aC (wP 42) (wkI 42) ?_;simp[go_sem];exact .hf _ (qN _)
theorem joinX(x N n a b)(R:OkMa x N)(i:n.sD=[a,b])(T:IH x N n)(p)(U:OkP x N p)(hq:bd p n) :
  qR qg 110 [eMa x,ePl p,eNd n] (endE (bX ((den x a).E p) fun r=>bX ((den x b).E p) fun s=>js x.n r s)):=by
 refine zd.of_sound ?_;refine qSW call110 func110 rfl {} ?_;have ia:=T a (by rw[i];simp) p U zOm;have ib:=T b (by rw[i];simp) p U zOm;have l:=ia.E;have o:=ib.E;have wa:=wk3 x p a;have wb:=wk3 x p b;have t:=R.n0;have g1:=R.n12;generalize g:(bX ((den x a).E p) fun r=>bX ((den x b).E p) fun s=>js x.n r s)=E;simp[go_sem];refine fG [0,1,2,3,4,5,7,8,9,10,11,12,6,13,14,15,16,17] [(6,1,[8,10,12]),(13,1,[]),(14,2,[1,3,5,8,10,12]),(15,2,[1,3,5,8,10,12]),(16,1,[]),(17,1,[])] zKr zKr zSi ?_;simp[go_sem,i];cases ea:(den x a).E p with
 |error e =>
  rw[ea]at l g;subst g;refine aC l wa ?_;simp[go_sem,zF];exact .hf _ (qN _)
 |ok r =>
  rw[ea]at l g;rw[zr]at g;refine t8 l.toP wa ?_;simp[go_sem,i];cases I:(den x b).E p with
  |error e =>
   rw[I]at o g;subst g;refine aC o wb ?_;simp[go_sem,zF];exact .hf _ (qN _)
  |ok s =>
   rw[I]at o g;rw[zr]at g;refine t8 o.toP wb ?_;have J:=ia.G _ ea;have P:=ib.G _ I;have lr:=J.len t zOm;have ls:=P.len t zOm;simp[go_sem,i];refine fG [0,1,2,3,4,5,6,7,8,9,10] [(6,1,[]),(9,1,[]),(10,1,[])] zKr zKr zSi ?_;simp[go_sem];have C:=uU x.n t g1 r s J P (cN t g1 J P);cases ej:js x.n r s with
   |error e =>
    rw[ej]at C g;subst g;have he:e≠0:=by
     grind [js]
    have j:=UG ⟨0,[]⟩ e;rw[if_neg he]at j;refine fW C (wkJ x.n r s) ?_;refine aC j (.zk (qr _) (.zs .nil)) ?_;simp[go_sem];exact .hf _ (qN _)
   |ok u =>
    rw[ej]at C g;subst g;have j:=UG u 0;rw[if_pos rfl]at j;refine fW C (wkJ x.n r s) ?_;refine fW j.toP (.zk (qr _) (.zs .nil)) ?_;exact .hf _ (qr u)
theorem qlX(x N n a b)(J:OkMa x N)(i:n.sD=[a,b])(P:IH x N n)(p)(R:OkP x N p)(hq:bd p n) :
  qR qg 111 [eMa x,ePl p,eNd n] (endE (bX ((den x a).E p) fun r=>bX ((den x b).E p) fun s=>jG x.n r s)):=by
 refine zd.of_sound ?_;refine qSW call111 func111 rfl {} ?_;have T:=P a (by rw[i];simp) p R zOm;have U:=P b (by rw[i];simp) p R zOm;have l:=T.E;have o:=U.E;have wa:=wk3 x p a;have wb:=wk3 x p b;have C:=J.n0;have g1:=J.n12;generalize g:(bX ((den x a).E p) fun r=>bX ((den x b).E p) fun s=>jG x.n r s)=E;simp[go_sem];refine fG [0,1,2,3,4,5,7,8,9,10,11,12,6,13,14,15,16,17] [(6,1,[8,10,12]),(13,1,[]),(14,2,[1,3,5,8,10,12]),(15,2,[1,3,5,8,10,12]),(16,1,[]),(17,1,[])] zKr zKr zSi ?_;simp[go_sem,i];cases ea:(den x a).E p with
 |error e =>
  rw[ea]at l g;subst g;refine aC l wa ?_;simp[go_sem,zF];exact .hf _ (qN _)
 |ok r =>
  rw[ea]at l g;rw[zr]at g;refine t8 l.toP wa ?_;simp[go_sem,i];cases I:(den x b).E p with
  |error e =>
   rw[I]at o g;subst g;refine aC o wb ?_;simp[go_sem,zF];exact .hf _ (qN _)
  |ok s =>
   rw[I]at o g;rw[zr]at g;refine t8 o.toP wb ?_;have gr:=T.G _ ea;have gs:=U.G _ I;have lr:=gr.len C zOm;have ls:=gs.len C zOm;simp[go_sem,i];refine fG [0,1,2,3,4,5,6,7,8,9,10] [(6,1,[]),(9,1,[]),(10,1,[])] zKr zKr zSi ?_;simp[go_sem];have t:=Ux x.n C g1 r s gr gs;cases ej:jG x.n r s with
   |error e =>
    rw[ej]at t g;subst g;have he:e≠0:=by
     grind [jG]
    have j:=UG ⟨0,[]⟩ e;rw[if_neg he]at j;refine fW t (wkJ x.n r s) ?_;refine aC j (.zk (qr _) (.zs .nil)) ?_;simp[go_sem];exact .hf _ (qN _)
   |ok u =>
    rw[ej]at t g;subst g;have j:=UG u 0;rw[if_pos rfl]at j;refine fW t (wkJ x.n r s) ?_;refine fW j.toP (.zk (qr _) (.zs .nil)) ?_;exact .hf _ (qr u)
theorem qlY(x N n a)(g:OkMa x N)(j:n.sD=[a])(I:IH x N n)(p)(t:OkP x N p)(J:bd p n) :
  qR qg 115 [eMa x,ePl p,eNd n] (endE ((den x a).E ⟨x.nx p.st,p.env⟩)):=by
 refine zd.of_sound ?_;refine qSW call115 func115 rfl {} ?_;have i:=(I a (by rw[j];simp) _ (OkP.nx g.toOkM t) (by grind)).E;have C:=wk3 x ⟨x.nx p.st,p.env⟩ a;have P:=g.N1;have R:=g.len;have l:=XP x g.loop zOm p.st (zW1 t.st);have o:WKs [eMd x.m,aI p.st] [eMd x.m,aI p.st] := .zk (Vf x.m) (.zs .nil);simp[go_sem];refine fG [0,1,2,3,4,5,6,8,9,11,12,13,14,7,10,15,16] [(7,1,[9,12,14]),(15,1,[]),(16,1,[])] zKr zKr zSi ?_;simp[go_sem,j];refine t8 l o ?_;simp[go_sem,j];cases ea:(den x a).E ⟨x.nx p.st,p.env⟩ with
 |error e =>
  rw[ea]at i;refine aC i C ?_;simp[go_sem];exact .hf _ (qN _)
 |ok r =>
  rw[ea]at i;refine fW i.toP C ?_;exact .hf _ (qr r)
theorem wkT(n a):WKs [aI n,eRel a] [aI n,eRel a] := .zs (.zk (qr a) .nil)
theorem qlZ(x N n a)(j:OkMa x N)(l:n.sD=[a])(o:IH x N n)(p)(t:OkP x N p)(J:bd p n) :
  qR qg 112 [eMa x,ePl p,eNd n] (endE (bX (binE [den x a] p) fun a => .ok (trR x.n a))):=by
 refine zd.of_sound ?_;refine qSW call112 func112 rfl {} ?_;have g:=qaB x N n a [] l o p t J;have C:=wk3 x p n;have P:=z8 x;have R:=j.n0;have g1:=j.n12;simp[go_sem];refine fG [0,1,2,3,4,5,6,7,8,9] [(7,1,[3]),(8,1,[]),(9,1,[])] zKr zKr zSi ?_;simp[go_sem];cases i:binE [den x a] p with
 |error e =>
  rw[i]at g;refine aC g C ?_;simp[go_sem,zF];exact .hf _ (qN _)
 |ok r =>
  rw[i]at g;obtain⟨I,T⟩:=ZZ i;simp only[kD,vh]at I;have U:=(o a (by rw[l];simp) p t zOm).G _ I;refine t8 g.toP C ?_;simp[go_sem,zr];refine fW (UJ x.n R g1 r U T) (wkT x.n r) ?_;exact .hf _ (qr _)
theorem qaC(x N n a)(j:OkMa x N)(l:n.sD=[a])(o:IH x N n)(p)(t:OkP x N p)(J:bd p n) :
  qR qg 113 [eMa x,ePl p,eNd n] (endE (bX (binE [den x a] p) fun a => .ok (clR x.n 200 a))):=by
 refine zd.of_sound ?_;refine qSW call113 func113 rfl {} ?_;have g:=qaB x N n a [] l o p t J;have C:=wk3 x p n;have P:=z8 x;have R:=j.n0;have g1:=j.n12;simp[go_sem];refine fG [0,1,2,3,4,5,6,7,8,9] [(7,1,[3]),(8,1,[]),(9,1,[])] zKr zKr zSi ?_;simp[go_sem];cases i:binE [den x a] p with
 |error e =>
  rw[i]at g;refine aC g C ?_;simp[go_sem,zF];exact .hf _ (qN _)
 |ok r =>
  rw[i]at g;obtain⟨I,T⟩:=ZZ i;simp only[kD,vh]at I;have U:=(o a (by rw[l];simp) p t zOm).G _ I;refine t8 g.toP C ?_;simp[go_sem,zr];refine fW (X1 x.n R g1 r U T) (wkT x.n r) ?_;exact .hf _ (qr _)
theorem UO(n)(g:0<=n)(i:n<=12):qj qg 87 [aI n] (eRel (idR n)):=by
 have:=idenU n.toNat zOm;rw[show ((n.toNat:Nat):Int)=n by omega]at this;exact this
theorem ql0(x N n a)(j:OkMa x N)(o:n.sD=[a])(t:IH x N n)(p)(C:OkP x N p)(P:bd p n) :
  qR qg 114 [eMa x,ePl p,eNd n] (endE (bX (binE [den x a] p) fun a => .ok (unR (clR x.n 200 a) (idR x.n)))):=by
 refine zd.of_sound ?_;refine qSW call114 func114 rfl {} ?_;have g:=qaC x N n a j o t p C P;have I:=wk3 x p n;have R:=z8 x;have i:=j.n0;have g1:=j.n12;simp[go_sem];refine fG [0,1,2,4,5,6,7,3,8,9,10] [(3,1,[7]),(8,1,[]),(9,1,[]),(10,1,[])] zKr zKr zSi ?_;simp[go_sem];cases l:binE [den x a] p with
 |error e =>
  rw[l]at g;refine aC g I ?_;simp[go_sem,zF];exact .hf _ (qN _)
 |ok r =>
  rw[l]at g;obtain⟨J,T⟩:=ZZ l;simp only[kD,vh]at J;have U:=(t a (by rw[o];simp) p C zOm).G _ J;obtain⟨gc,c2⟩:=aR i 200 U T;have gi:=GR.iden i;have l1:=gc.len i zOm;have l2:=gi.len i zOm;rw[zr]at g;refine t8 g.toP I ?_;simp[go_sem,zr];refine fW (UO x.n i g1) (.zs .nil) ?_;refine fW (jy _ _ zOm zOm) (wkR2 _ _) ?_;exact .hf _ (qr _)
end F3
end Go.Proofs.YthflbhjlkgdafaaGreatDoor
