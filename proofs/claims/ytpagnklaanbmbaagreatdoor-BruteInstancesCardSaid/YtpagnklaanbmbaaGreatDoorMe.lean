/-
  Own library, part 5: an abstract reading of values and a calculus over it; contracts of functions; plain lemmas.
-/
import Derived.Lib.ItoaLen
import Derived.Handed
import Derived.WideKeyArgs
import Derived.ProofKit
import Derived.OpenShut
import Derived.JoinedCond
import Derived.KernelRfl
import Derived.Test.YtpagnklaanbmbaaGreatDoorMd
set_option linter.unusedVariables false
set_option linter.unusedSimpArgs false
set_option maxRecDepth 100000
open Go renaming Program->qb,FuncId->j1,TypeId->qf,World->qh,Value->zS,undef->j2
open Go.Proofs.Tryz renaming prog->qc
open Go.IntKind renaming i64->qi
open List renaming getElem?_eq_some_iff->qj,mem_map->qp,range->qt,mem_cons->qw,getElem?_append_left->qx,getElem_mem->qy,getElem?_eq_getElem->qz,mem_append->qG,all_eq_true->qH,not_mem_nil->qI,mem_singleton->qN,mem_cons_of_mem->qO,mem_cons_self->qU,getElem?_append_right->qV,length_append->qX,take_length->q8,mem_of_getElem?->q9,getD_eq_getElem?_getD->za,append_assoc->zc,map_append->zg,getElem?_set_ne->zo,getElem?_map->zp,getElem?_set_self->zr,replicate->zt,length_cons->zu,length_map->zH,append_nil->zO,mem_range->yk,mem_append_left->yC,getElem?_eq_none->yF,drop_length->yH,map_cons->yV,mem_filter->y9,nodup_cons->jx,ext_getElem?->jy,take_succ_eq_append_getElem->jH,getElem?_cons_succ->ve,mem_iff_getElem->vE,eq_nil_of_length_eq_zero->vH,take_append_drop->u3,flatMap_cons->wB,foldl_append->Qe,mem_flatMap->Qf,getElem_map->Zt
open Option.some renaming injEq->qo
open Bool renaming and_eq_true->qr,or_eq_true->jT
open Nat renaming le_refl->qs,le_trans->zY,zero_add->yf,le_of_ble_eq_true->yj
open Array renaming getD_eq_getD_getElem?->qF
open Option renaming map_some->qW
open Int renaming le_refl->jw
open List.Nodup renaming length_le_of_subset->jU
open Prod.mk renaming injEq->vj
namespace Go.Proofs.YtpagnklaanbmbaaGreatDoor
open Go Go.Ev Go.Proofs Tryz
namespace GR
open YF P1 E1 E4 EO EP EQ F4 Q8 G5 GP GQ
section
variable {xs:List (List AV)}{mu:Mu}{sz:Nat}
theorem jb.ownB{P:qb}{t g e bt:Nat}{s x:AV}{ys:List (List AV)}{zv:AV}{K:AV->Mu->Prop}(U:qC P t=some (e,sz,bt))(j:(qC P g).isSome=true)(hz:qB P e=some zv)
  (o:zv.cells.length=sz) (p:zv.cells.all AV.one=true) (r:sz≠0) (hb:bt<=16384) (ho:Own mu sz s xs) (hx:qM mu x=some ys) (R:zj sz xs) (wy:zj sz ys) (T:xs.length+ys.length<=4294967296)
  (k:∀ av l,Own l sz av (xs++ys)->(∀ i,i<mu.length->qv s≠some i->l[i]?=mu[i]?)->(∀ b,qv av=some b->b=mu.length)->mu.length<=l.length->(ys≠[]->∃ b,qv av=some b)->K av l):jb P mu #[t,g] s x K:=by
 refine⟨t,g,e,sz,bt,ys,rfl,U,j,⟨zv,hz,o,p⟩,r,hb,hx,wy,?_⟩;rcases ho with rfl|⟨b,rfl,hc⟩
 .refine .inl ⟨xs,rfl,R,T,fun h=>?_,fun h=>?_⟩
  .subst h
   exact k _ _ (.inl (by simp)) (fun _ _ _=>rfl) (fun b h=>by cases h) (qs _) (fun h=>absurd rfl h)
  .refine k _ _ (.inr ⟨mu.length,by simp,by simp⟩) (fun i C _=>?_) (fun b h=>by cases h;rfl) (by simp) (fun _=>⟨_,rfl⟩)
   rw[qx C]
 .have a0:=zZ R.ok
  refine .inr ⟨b,xs.length,xs.flatten,rfl,hc,by omega,T,?_⟩;have I:xs.flatten.take (xs.length*sz)=xs.flatten:=List.take_of_length_le (by omega);refine k _ _ (.inr ⟨mu.length,by simp,?_⟩) (fun i C J=>?_) (fun b h=>by cases h;rfl) (by simp) (fun _=>⟨_,rfl⟩)
  .rw [I,qV (by simp)];simp
  .rw [qx (by simpa using C)]
   rw[zo (fun e=>J (by rw[e];rfl))]
theorem qD.giveB{P:qb}{t t' e bt:Nat}{s:AV}{y:List AV}(p:List AV){zv:AV}{full:Bool}{K:AV->Mu->Prop}(R:Nat)(hs:qC P t=some (e,sz,bt))(r:(qC P t').isSome=true)(hz:qB P e=some zv)
  (C:zv.cells.length=sz) (I:zv.cells.all AV.one=true) (J:sz≠0) (g:bt<=16384) (ho:Own mu sz s xs) (T:∀ b,qv s=some b->b<R) (U:Rds (cutM (fun i=>decide (R<=i)) mu 0) y p) (wx:zj sz xs) (wy:zj sz [p]) (hl:xs.length+1<=4294967296)
  (k:∀ av l,Own l sz av (xs++[p])->(∀ i,i<mu.length->i<R->qv s≠some i->l[i]?=mu[i]?)->(∀ b,qv av=some b->b=mu.length)->mu.length<=l.length->(∃ b,qv av=some b)->K av l):qD P mu #[t,t'] s (.lst full [y]) K:=by
 have cg:∀ i,i<R->(cutM (fun i=>!decide (R<=i)) mu 0)[i]?=mu[i]?:=fun i hi=>by
  rw[jK];simp only[yf,decide_eq_false (show ¬R<=i by omega),Bool.not_false,if_true];cases mu[i]?<;>rfl
 have o:Rd (cutM (fun i=>decide (R<=i)) mu 0) (.lst full [y]) (.lst full [p]):=by
  obtain⟨h1,h2⟩:=U.get;refine .lst full _ _ rfl (fun k a b j g=>?_) (fun k a b j g=>?_)
  .cases k with
   |zero=>simp at j g;subst j;subst g;exact h1.symm
   |succ k=>simp at j
  .simp at j g;exact h2 k a b j g
 have a0:Own (cutM (fun i=>!decide (R<=i)) mu 0) sz s xs:=by
  rcases ho with h|⟨b,h,hc⟩
  .exact .inl h
  .exact .inr ⟨b,h,by rw[cg b (T b (by rw[h];rfl))];exact hc⟩
 refine .inr (.inl ⟨_,_,o,jb.ownB hs r hz C I J g a0 rfl wx wy hl fun av l h1 h2 h3 h4 h5=>k av l h1 (fun i hi hR a1=>?_) (fun b g=>?_) ?_ (h5 (by simp))⟩)
 .rw [h2 i (by rw[uu];exact hi) a1,cg i hR]
 .have:=h3 b g;rw[uu]at this;exact this
 .rw [uu]at h4;exact h4
theorem Wy{C:Type}{f g:C->List AV}:∀{l:List C},(∀ a,a∈l->Rds mu (f a) (g a))->∀(k:Nat) x y,(l.map f).flatten[k]?=some x->(l.map g).flatten[k]?=some y->Rd mu x y
 | [],_,k,x,y,i,_=>by simp at i
 |a :: l,h,k,x,y,i,j=>by
  obtain⟨o,p⟩:=(h a (qU ..)).get;simp only[yV,List.flatten_cons]at i j;by_cases r:k<(f a).length
  .rw [qx r]at i
   rw[qx (by omega)]at j;exact p k x y i j
  .rw [qV (by omega)]at i
   rw[qV (by omega),o]at j;exact Wy (fun b t=>h b (qO _ t)) _ x y i j
theorem Own.rdM{C:Type}{av:AV}{f g:C->List AV}{l:List C}(h:Own mu sz av (l.map f))(wf:z6 sz (l.map f))(o:z6 sz (l.map g))(p:∀ a,a∈l->Rds mu (f a) (g a)):Rd mu av (.lst false (l.map g)):=by
 rcases h with rfl|⟨b,rfl,r⟩
 .refine .wk _ true _ (.lst true _ _ (by simp) (fun k x y i j=>?_) (Wy p))
  rw[wf x (q9 i),o y (q9 j)]
 .refine .sl b sz 0 _ _ _ r (by have:=zZ wf;omega) (by simp) o (fun k x y i j=>?_)
  rw[yf]at i;exact Wy p k x y i j
theorem px:∀{l:List Int},l≠[]->(∀ a,a∈l->1<=a)->1<=sumI l
 | [],h,_=>absurd rfl h
 | [a],_,h=>by have:=h a (by simp);simp[sumI];omega
 |a :: b :: l,_,h=>by
  have j:=h a (by simp);have g:=px (l:=b :: l) (by simp) fun x i=>h x (qO _ i)
  simp only[sumI,List.foldr_cons]at g⊢;omega
structure Fit9 (ts:TS) (sc:Sc):Prop where
 g:GSc sc
 p:0<sumI sc.atoms
 nf:ts.fields.length<=6
 ns:ts.sorts.length=sc.atoms.length
 s1:1<=sc.steps
 s4:sc.steps<=4
 f1:∀ f,f∈ts.fields->1<=f.sorts.length/\f.sorts.length<=3
 fs:∀ f,f∈ts.fields->∀ s,s∈f.sorts->0<=s/\s<sc.atoms.length
theorem Vg{ts:TS}{sc:Sc}(h:yQ ts sc=true):Fit9 ts sc:=by
 simp only[yQ,qr,decide_eq_true_eq,qH,fldB]at h;obtain⟨C,I,p,J,o,j,i⟩:=h;have g:=qfP i;simp only[yp,qr,decide_eq_true_eq,qH]at i;refine⟨g,?_,p,j,i.2.1,i.2.2.1,fun f hf=>(o f hf).1,fun f hf s r=>?_⟩
 .have:=px (l:=sc.atoms) (fun e=>by rw[e,List.length_nil]at j;omega) fun a t=>(i.2.2.2.1 a t).1
  omega
 .have:=(o f hf).2 s r
  rw[j]at this;exact this
def rowD(sc:Sc)(f:Fld):List AV:=[aI f.sorts.length,.lst true [],aI f.sorts.length,lI (zU sc f.sorts)]
theorem Yi(sc:Sc)(l:List Fld):zj 4 (l.map (rowD sc)):=fun r g=>by
 obtain⟨n,_,rfl⟩:=qp.1 g;exact⟨rfl,rfl⟩
theorem Wz(ts:TS)(sc:Sc)(F:Fit9 ts sc):qe qc 72 [eTS ts,eSc sc] (lBd (defB ts sc)):=by
 have a0:=F.nf;refine qSV call72 func72 rfl ?_;simp[go_sem];refine qk.upK ts.fields.length (fun k st=>st.tm 2 = .ip (cTS ts)/\st.tm 3 = .ip [lI sc.atoms,aI sc.steps]/\st.tm 6=aI k/\Own st.mu 4 (st.tm 5) ((ts.fields.take k).map (rowD sc))) ?_ ?_
 .exact ⟨by simp[go_sem],by simp[go_sem],by simp[go_sem],.inl (by simp[go_sem])⟩
 rintro k st hk ⟨C,U,I,J⟩;by_cases i:k<ts.fields.length
 .have w1:qi.wrap ((k:Int)+1)=(k:Int)+1:=qg (by omega) (by omega)
  have o:=qy i;have t:=pt sc F.g F.p ts.fields[k].sorts (F.f1 _ o).1 (F.f1 _ o).2 (F.fs _ o);simp[go_sem,C,I,i];refine qm.intro (by kernel_rfl) ?_;simp[go_sem,C,U,I,i];refine qd.pure t (.cons (.hf (zA _)) (.cons (.hf (zi _)) .nil)) ?_;simp[go_sem];refine qD.ownB (e:=157) (sz:=4) (bt:=64) (zv := .agg [aI 0,.lst true [],aI 0,.lst true []]) (xs:=(ts.fields.take k).map (rowD sc)) (ys:=[rowD sc ts.fields[k]]) (by simp[go_sem]) (by simp[go_sem]) (by simp[go_sem]) rfl rfl (by omega) (by omega) J (by simp[qM,rowD]) (Yi sc _) (Yi sc [_]) (by simp;omega) ?_;intro a1 l P _ _ _;simp[go_sem,I,i,w1];refine Keep.mk' ⟨by simp[go_sem,C],by simp[go_sem,U],by simp[go_sem],?_⟩;rw[uK i,zg];simpa[go_sem] using P
 .have R:k=ts.fields.length:=by omega
  subst R;rw[q8]at J;simp[go_sem,C,I];have:=Own.rdM (g:=fun f=>cBd ⟨⟨f.sorts.length,[]⟩,⟨f.sorts.length,zU sc f.sorts⟩⟩) J (Yi sc _).ok (fun r T=>by
   obtain⟨n,_,rfl⟩:=qp.1 T;rfl) fun f _=>⟨.hf _ (HF.sc _),.wk _ true _ (.hf _ (HF.lst fun r T=>by simp at T)),.hf _ (HF.sc _),.hf _ (zi _),trivial⟩
  show Rd _ _ (.lst false ((defB ts sc).map cBd));rw[defB,List.map_map];exact this
structure WA (b:Bd):Prop where
 u:b.up.ts.length<=100000
 l:b.lo.ts.length<=100000
 s:sorted b.lo.ts
theorem qfT(g t:Int)(lo:Rl):inOk ⟨g,[t]⟩ lo=decide (t∈lo.ts):=by simp[inOk]
theorem Zc{R:Nat}{av:AV}(h:Own mu sz av xs)(g:∀ b,qv av=some b->R<=b):Own (cutM (fun i=>decide (R<=i)) mu 0) sz av xs:=by
 rcases h with h|⟨b,h,j⟩
 .exact .inl h
 .refine .inr ⟨b,h,?_⟩
  rw[jK,j];simp[g b (by rw[h];rfl)]
theorem qfU(fl:Bool)(o:List Bd)(C:List Bool)(mu:Mu)(hl:o.length<=1000)(hb:∀ b,b∈o->WA b) :
  qP qc 76 [lBd o,.lst fl (C.map rB)] mu (fun e m=>∃ av,e = .ret av/\Own m 2 av ((zV o C).map cRel)/\(∀ i,i<mu.length->m[i]?=mu[i]?)/\(∀ b,qv av=some b->mu.length<=b)/\mu.length<=m.length/\(0<o.length->∃ b,qv av=some b)):=by
 refine qSW call76 func76 rfl {} ?_;simp[go_sem];refine qk.upK o.length (fun k st=>st.tm 0=lBd o/\st.tm 1 = .lst fl (C.map rB)/\st.tm 6=aI (yz (o.take k) C).2/\st.tm 7=aI k/\Own st.mu 2 (st.tm 5) ((yz (o.take k) C).1.map cRel)/\(∀ i,i<mu.length->st.mu[i]?=mu[i]?)/\(∀ b,qv (st.tm 5)=some b->mu.length<=b)/\mu.length<=st.mu.length/\(0<k->∃ b,qv (st.tm 5)=some b)) ?_ ?_
 .exact ⟨by simp[go_sem],by simp[go_sem],by simp[go_sem,yz],by simp[go_sem],.inl (by simp[go_sem,yz]),by simp[go_sem],by simp[go_sem,qv],by simp[go_sem],fun h=>absurd h (by omega)⟩
 rintro k st hk ⟨U,e1,e6,e7,ho,hs,ah,an,ao⟩;by_cases I:k<o.length
 .have w1:qi.wrap ((k:Int)+1)=(k:Int)+1:=qg (by omega) (by omega)
  obtain⟨bu,bl,aq⟩:=hb _ (qy I);have au:=pv C 100000 (o.take k) ([],0) fun x hx=>(hb x (List.mem_of_mem_take hx)).u
  have b0:(yz (o.take k) C).2<=100000000:=by
   have:=List.length_take_le k o;have h2:(o.take k).length*100000<=1000*100000:=Nat.mul_le_mul_right _ (by omega);have h3:(yz (o.take k) C).2<=0+(o.take k).length*100000:=au;omega
  have a3:=pu o C k I;generalize hq:yz (o.take k) C=q at *
  generalize aw:st.tm 5=s at *
  have ai:∀ b,qv s=some b->b<st.mu.length:=fun b h=>Own.lt ho h
  generalize hR:st.mu.length=R at *
  simp[go_sem,U,e7,I];refine qk.upK o[k].up.ts.length (fun j st2=>st2.tm 0=lBd o/\st2.tm 1 = .lst fl (C.map rB)/\st2.tm 5=s/\st2.tm 7=aI k/\st2.tm 8 = .ptr R 0/\st2.tm 9=aI j/\st2.tm 6=aI (insF C o[k].lo (o[k].up.ts.take j) q.2).2 /\
   ∃ av,st2.mu[R]?=some (.arr [aI o[k].up.ar,av])/\Own st2.mu 1 av ((insF C o[k].lo (o[k].up.ts.take j) q.2).1.map rI)/\(∀ b,qv av=some b->R<b)/\(∀ i,i<R->st2.mu[i]?=st.mu[i]?)) ?_ ?_
  .exact ⟨by simp[go_sem,U],by simp[go_sem,e1],by simp[go_sem,aw],by simp[go_sem,e7],by simp[go_sem,hR],by simp[go_sem],by simp[go_sem,e6,insF],.lst true [],by simp[go_sem,hR],.inl (by simp[insF]),by simp[qv],fun i hi=>by simp[go_sem];rw[qx (by omega)]⟩
  clear U e1 e6 e7;rintro j st2 hj ⟨U,e1,e5,e7,e8,e9,e6,av,a0,a2,a4,a5⟩;by_cases J:j<o[k].up.ts.length
  .have w2:qi.wrap ((j:Int)+1)=(j:Int)+1:=qg (by omega) (by omega)
   have ax:=Ww C o[k].lo (o[k].up.ts.take j) ([],q.2);have b1:(insF C o[k].lo (o[k].up.ts.take j) q.2).2<=100100000:=by
    have:=List.length_take_le j o[k].up.ts;have h3:(insF C o[k].lo (o[k].up.ts.take j) q.2).2<=q.2+(o[k].up.ts.take j).length:=ax;omega
   have aj:=(Vf C o[k].lo (o[k].up.ts.take j) ([],q.2) [] (List.Sublist.refl _)).length_le;have b2:(insF C o[k].lo (o[k].up.ts.take j) q.2).1.length<=100000:=by
    have:=List.length_take_le j o[k].up.ts;have h3:(insF C o[k].lo (o[k].up.ts.take j) q.2).1.length<=([]++o[k].up.ts.take j).length:=aj;simp at h3;omega
   have a8:=qfN C o[k].lo o[k].up.ts q.2 j J;generalize hp:insF C o[k].lo (o[k].up.ts.take j) q.2=p at *
   have w3:qi.wrap ((p.2:Int)+1)=(p.2:Int)+1:=qg (by omega) (by omega);have ak:R<st2.mu.length:=(qj.1 a0).1;have b3:qv av≠some st2.mu.length:=fun h=>by have:=Own.lt a2 h;omega
   have al:qv av≠some R:=fun h=>by have:=a4 R h;omega
   have a1:∀ c,(st2.mu++[c])[R]?=some (.arr [aI o[k].up.ar,av]):=fun c=>by rw[qx ak];exact a0
   have a6:=in06 ⟨o[k].up.ar,[o[k].up.ts[j]]⟩ o[k].lo (by simp) (by omega) aq;rw[qfT]at a6;have a9:WKs [.agg [aI o[k].up.ar,.lst true [[aI o[k].up.ts[j]]]],eRel o[k].lo] [eRel ⟨o[k].up.ar,[o[k].up.ts[j]]⟩,eRel o[k].lo] := .cons (WK.aggs (.cons (.hf (HF.sc _)) (.cons (WK.ints [o[k].up.ts[j]]) .nil))) (.cons (.hf (z8 _)) .nil);have ad:∀(K:AV->Mu->Prop),(∀ T l,Own l 1 T ((p.1++[o[k].up.ts[j]]).map rI)->l[R]?=some (.arr [aI o[k].up.ar,av])->(∀ b,qv T=some b->R<b)->(∀ i,i<R->l[i]?=st.mu[i]?)->K T l)->qD qc (st2.mu++[.arr [aI o[k].up.ar,.lst true [[aI o[k].up.ts[j]]]]]) #[28,28] av (.lst true [[aI o[k].up.ts[j]]]) K:=fun K hK=>by
    refine qD.ownB (e:=3) (sz:=1) (bt:=8) (zv:=aI 0) (xs:=p.1.map rI) (ys:=[rI o[k].up.ts[j]]) (by simp[go_sem]) (by simp[go_sem]) (by simp[go_sem]) rfl rfl (by omega) (by omega) (Own.push a2 _) (by simp[qM]) (zX _) (zX [_]) (by simp;omega) ?_;intro T l ae aa af ay;refine hK T l (by rw[zg];exact ae) (by rw[aa R (by simp;omega) al];exact a1 _) (fun b h=>by have:=af b h;simp at this;omega) fun i hi=>?_
    rw[aa i (by simp;omega) (fun h=>by have:=a4 i h;omega),qx (by omega)];exact a5 i hi
   by_cases P:o[k].up.ts[j]∈o[k].lo.ts
   .have t:insF C o[k].lo (o[k].up.ts.take (j+1)) q.2=(p.1++[o[k].up.ts[j]],p.2):=by rw[a8,js,if_pos P]
    simp[go_sem,U,e7,e8,e9,I,J,a0];refine qm.intro (by kernel_rfl) ?_;simp[go_sem,U,e7,I];refine qd.pure a6 a9 ?_;simp[go_sem,e8,a1,P];refine ad _ fun T l h1 h2 h3 h4=>?_
    simp[go_sem,e8,e9,J,h2,w2,Own.one h1,Own.cells h1]
    try refine⟨J,Keep.mk' ?_⟩
    try refine Keep.mk' ?_
    refine⟨by simp[go_sem,U],by simp[go_sem,e1],by simp[go_sem,e5],by simp[go_sem,e7],by simp[go_sem,e8],by simp[go_sem],by simp[go_sem,e6,t],T,by simp[go_sem,(qj.1 h2).1],?_,h3,fun i hi=>?_⟩
    .rw [t]
     simpa[go_sem] using Own.set h1 (.arr [aI o[k].up.ar,T]) (fun h=>by have:=h3 R h;omega)
    .simp [go_sem]
     rw[zo (by omega)];exact h4 i hi
   .by_cases a7:p.2<C.length
    .cases ab:C[p.2] with
     |true =>
      have t:insF C o[k].lo (o[k].up.ts.take (j+1)) q.2=(p.1++[o[k].up.ts[j]],p.2+1):=by rw[a8,js,if_neg P,za,qz a7,ab];rfl
      simp[go_sem,U,e7,e8,e9,I,J,a0];refine qm.intro (by kernel_rfl) ?_;simp[go_sem,U,e7,I];refine qd.pure a6 a9 ?_;simp[go_sem,e1,e8,e6,a1,P,a7,ab];refine ad _ fun T l h1 h2 h3 h4=>?_
      simp[go_sem,e8,e9,e6,J,h2,w2,w3,Own.one h1,Own.cells h1]
      try refine⟨J,Keep.mk' ?_⟩
      try refine Keep.mk' ?_
      refine⟨by simp[go_sem,U],by simp[go_sem,e1],by simp[go_sem,e5],by simp[go_sem,e7],by simp[go_sem,e8],by simp[go_sem],by simp[go_sem,t],T,by simp[go_sem,(qj.1 h2).1],?_,h3,fun i hi=>?_⟩
      .rw [t]
       simpa[go_sem] using Own.set h1 (.arr [aI o[k].up.ar,T]) (fun h=>by have:=h3 R h;omega)
      .simp [go_sem]
       rw[zo (by omega)];exact h4 i hi
     |false =>
      have t:insF C o[k].lo (o[k].up.ts.take (j+1)) q.2=(p.1,p.2+1):=by rw[a8,js,if_neg P,za,qz a7,ab];simp
      simp[go_sem,U,e7,e8,e9,I,J,a0];refine qm.intro (by kernel_rfl) ?_;simp[go_sem,U,e7,I];refine qd.pure a6 a9 ?_;simp[go_sem,e1,e9,e6,J,P,a7,ab,w2,w3]
      try refine⟨J,Keep.mk' ?_⟩
      try refine Keep.mk' ?_
      refine⟨by simp[go_sem,U],by simp[go_sem,e1],by simp[go_sem,e5],by simp[go_sem,e7],by simp[go_sem,e8],by simp[go_sem],by simp[go_sem,t],av,by simp[go_sem,a1],?_,a4,fun i hi=>?_⟩
      .rw [t];simpa[go_sem] using Own.push a2 _
      .simp [go_sem];rw[qx (by omega)];exact a5 i hi
    .have t:insF C o[k].lo (o[k].up.ts.take (j+1)) q.2=(p.1,p.2+1):=by rw[a8,js,if_neg P,za,yF (by omega)];simp
     simp[go_sem,U,e7,e8,e9,I,J,a0];refine qm.intro (by kernel_rfl) ?_;simp[go_sem,U,e7,I];refine qd.pure a6 a9 ?_;simp[go_sem,e1,e9,e6,J,P,a7,w2,w3]
     try refine⟨J,Keep.mk' ?_⟩
     try refine Keep.mk' ?_
     refine⟨by simp[go_sem,U],by simp[go_sem,e1],by simp[go_sem,e5],by simp[go_sem,e7],by simp[go_sem,e8],by simp[go_sem],by simp[go_sem,t],av,by simp[go_sem,a1],?_,a4,fun i hi=>?_⟩
     .rw [t];simpa[go_sem] using Own.push a2 _
     .simp [go_sem];rw[qx (by omega)];exact a5 i hi
  .have ag:j=o[k].up.ts.length:=by omega
   subst ag;rw[q8]at e6 a2;have b4:=Vf C o[k].lo o[k].up.ts ([],q.2) [] (List.Sublist.refl _);have b5:q.1.length=k:=by
    rw[<-hq];have:=congrArg List.length (Wx C (o.take k) ([],0));simp at this;show (yz (o.take k) C).1.length=k;rw[yz,this];omega
   simp[go_sem,U,e5,e7,e8,e9,I,a0,Own.one a2];refine qD.giveB (e:=104) (sz:=2) (bt:=32) (zv := .agg [aI 0,.lst true []]) (xs:=q.1.map cRel) (cRel ⟨o[k].up.ar,(insF C o[k].lo o[k].up.ts q.2).1⟩) R (by simp[go_sem]) (by simp[go_sem]) (by simp[go_sem]) rfl rfl (by omega) (by omega) ?_ ai ?_ (wT _) (wT [_]) (by simp;omega) ?_
   .rcases ho with h|⟨b,h,hc⟩
    .exact .inl h
    .refine .inr ⟨b,h,?_⟩
     rw[a5 b (ai b (by rw[h];rfl))];exact hc
   .refine ⟨.hf _ (HF.sc _),?_,trivial⟩
    exact Own.rd (Zc a2 fun b h=>by have:=a4 b h;omega) (zX _).ok fun r hr c hc=>by
     obtain⟨n,_,rfl⟩:=qp.1 hr;simp at hc;subst hc;exact HF.sc _
   intro T l ae aa af ay az;have ak:R<st2.mu.length:=(qj.1 a0).1;simp[go_sem,e7,I,w1]
   try refine⟨I,Keep.mk' ?_⟩
   try refine Keep.mk' ?_
   refine⟨by simp[go_sem,U],by simp[go_sem,e1],by simp[go_sem,e6,a3,insB],by simp[go_sem],?_,fun i hi=>?_,fun b h=>?_,by simp[go_sem];omega,fun _=>by simp[go_sem];exact az⟩
   .rw [a3,insB,zg]
    simpa[go_sem] using ae
   .simp [go_sem]
    rw[aa i (by omega) (by omega) (fun h=>by have:=ah i h;omega),a5 i (by omega)];exact hs i hi
   .simp [go_sem]at h
    have:=af b h;omega
 .have ag:k=o.length:=by omega
  subst ag;rw[q8]at ho e6;simp[go_sem,U,e7];exact⟨ho,hs,ah,an,ao⟩
end
end GR
namespace JG
open Y1 JE JF
def nF:Nd := .mk 1 (bA [102]) 0 [] 0
theorem tabOf{E:EnvJ}(g:qZ qc E)(n:Nat){f:j1}{l:List (List AV×AV)}(h:l.all (fun p=>eqLi (eqV 64) (p.1.map (nV 64)) p.1&&Ve E n f p.1 p.2)=true):jn qc f (j5 (tabX l)):=by
 refine ZZ (Z0 fun p i=>?_);have:=qH.1 h p i;rw[qr]at this;rw[vY (fun a b=>Qu) this.1];exact uR g this.2
theorem WB{f:j1}{l:List (List AV×AV)}(h:l.all (fun p=>eqLi (eqV 64) (p.1.map (nV 64)) p.1)=true)(i:∀ p,p∈l->qe qc f p.1 p.2):jn qc f (j5 (tabX l)):=by
 refine ZZ (Z0 fun p g=>?_);rw[vY (fun a b=>Qu) (qH.1 h p g)];exact i p g
theorem Yj{l:List (j1×je)}{f:j1}{h:je}(i:∀ p,p∈l->jn qc p.1 p.2)(j:jn qc f h):∀ p,p∈(f,h) :: l->jn qc p.1 p.2:=fun p g=>by
 rcases qw.1 g with rfl|g
 .exact j
 .exact i p g
end JG
namespace GS
open P1 E1 EO F4 GB G5 GP GR
abbrev rBs(l:List Bool):List AV:=[lB l]
abbrev lBB(l:List (List Bool)):AV := .lst false (l.map rBs)
theorem hf_lB(l:List Bool):HF (lB l):=HF.lst fun r i c g=>by
 obtain⟨n,_,rfl⟩:=qp.1 i;simp at g;subst g;exact HF.sc _
theorem WC(l:List (List Bool)):HF (lBB l):=HF.lst fun r i c g=>by
 obtain⟨n,_,rfl⟩:=qp.1 i;simp at g;subst g;exact hf_lB n
theorem py{ts:TS}{sc:Sc}(F:Fit9 ts sc)(j:sumI sc.atoms<=5):∀ b,b∈defB ts sc->b.up.ts.length<=1000/\b.up.ts.Pairwise (·<·)/\WA b:=fun b g=>by
 obtain⟨f,hf,rfl⟩:=qp.1 g;have l:=(F.f1 f hf).2;have o:=F.p;have i:(zU sc f.sorts).length<=1000:=by
  refine zY (Wu _ _ _) ?_;have:sumI sc.atoms ^ f.sorts.length<=125:=by
   rcases (show f.sorts.length=0\/f.sorts.length=1\/f.sorts.length=2\/f.sorts.length=3 by omega) with e|e|e|e<;>rw[e]<;>rcases (show sumI sc.atoms=1\/sumI sc.atoms=2\/sumI sc.atoms=3\/sumI sc.atoms=4\/sumI sc.atoms=5 by omega) with d|d|d|d|d<;>rw[d]<;>decide
  omega
 exact⟨i,Wv _ _ _,by simp;omega,by simp,by simp[sorted]⟩
def fixS(g:List Bool)(i l:List Rl)(j:Nat):List Rl:=l.mapIdx fun f r=>if f<j/\g.getD f true=false then i.getD f noR else r
theorem qfV(i:List Bool)(j g:List Rl):fixS i j g 0=g:=by
 refine jy fun f=>?_
 simp[fixS]
theorem qfW(i:List Bool)(l g:List Rl)(j:Nat):(fixS i l g j).length=g.length:=by simp[fixS]
theorem qfX(i:List Bool)(o g:List Rl)(j:Nat)(h:j<g.length):fixS i o g (j+1)=if i.getD j true=false then (fixS i o g j).set j (o.getD j noR) else fixS i o g j:=by
 refine jy fun f=>?_
 by_cases l:i.getD j true=false
 .rw [if_pos l,List.getElem?_set]
  simp only[fixS,List.getElem?_mapIdx,List.length_mapIdx];by_cases hf:j=f
  .subst hf
   rw[if_pos rfl,if_pos h,qz h];simp only[qW,Nat.lt_succ_self,l,and_self,if_true]
  .rw [if_neg hf]
   cases g[f]? with
   |none=>rfl
   |some r=>simp only[qW];congr 1;by_cases p:f<j<;>simp[p,show (f<j+1)=(f<j) by simp;omega]
 .rw [if_neg l]
  simp only[fixS,List.getElem?_mapIdx];cases g[f]? with
  |none=>rfl
  |some r =>
   simp only[qW];congr 1;by_cases hf:f=j
   .subst hf;rw[if_neg (fun h=>l h.2),if_neg (fun h=>l h.2)]
   .by_cases p:f<j<;>simp[p,show (f<j+1)=(f<j) by simp;omega]
theorem qfY(j:List Bool)(i:List Bd)(g:List (List Bool))(k:Nat)(h:k≠0):anyS j i g k=fixS j (zV i (g.getD 0 [])) (zV i (g.getD k [])) i.length:=by
 rw[anyS,if_neg h];refine jy fun f=>?_
 simp only[fixS,List.getElem?_mapIdx];cases o:(zV i (g.getD k []))[f]? with
 |none=>rfl
 |some r =>
  have l:=(qj.1 o).1;rw[w8]at l;simp only[qW];congr 1;cases j.getD f true<;>simp[l]
theorem Own.put{sz:Nat}{mu:Mu}{av:AV}{xs:List (List AV)}{b:Nat}(h:av = .sl b sz 0 xs.length)(g:mu[b]?=some (.arr xs.flatten))(w:z6 sz xs){i:Nat}{r:List AV}(j:r.length=sz)(l:i<xs.length):Own (mu.set b (.arr (putCells xs.flatten (i*sz) r))) sz av (xs.set i r):=by
 refine .inr ⟨b,by rw[List.length_set];exact h,?_⟩;rw[zr (qj.1 g).1,ZG xs i r w j l]
abbrev vsT(ts:TS):List Bool:=ts.fields.map fun f=>f.var
end GS
namespace GU
open YF P1 E1 E3 EO EQ F4 GF GH GR GS
abbrev Ch:=Int×Int×Int
abbrev rC(c:Ch):List AV:=[aI c.1,aI c.2.1,aI c.2.2]
theorem Zd(l:List Ch):zj 3 (l.map rC):=fun r g=>by
 obtain⟨n,_,rfl⟩:=qp.1 g;exact⟨rfl,rfl⟩
abbrev lCh(l:List Ch):AV := .lst false (l.map rC)
def chA(g:List Bool)(s:Nat)(i:List (Int×Int)):List Ch:=(i.filter fun p=>decide (s=0)||g.getD p.1.toNat true).map fun p=>((s:Int),p.1,p.2)
def chs(g:List Bool)(i:List (Int×Int))(k:Nat):List Ch:=(qt k).flatMap fun s=>chA g s i
theorem WD(g:List Bool)(i:List (Int×Int))(k:Nat):chs g i (k+1)=chs g i k++chA g k i:=by
 rw[chs,List.range_succ,List.flatMap_append];simp[chs]
theorem pz(i:List Bool)(s:Nat)(g:List (Int×Int))(j:Nat)(h:j<g.length):chA i s (g.take (j+1))=chA i s (g.take j)++(if (decide (s=0)||i.getD g[j].1.toNat true)=true then [((s:Int),g[j].1,g[j].2)] else []):=by
 rw[jH h,chA,List.filter_append,zg];by_cases l:(decide (s=0)||i.getD g[j].1.toNat true)=true
 .rw [if_pos l,show [g[j]].filter (fun p=>decide (s=0)||i.getD p.1.toNat true)=[g[j]] from List.filter_cons_of_pos (p:=fun p:Int×Int=>decide (s=0)||i.getD p.1.toNat true) l];rfl
 .rw [if_neg l,show [g[j]].filter (fun p=>decide (s=0)||i.getD p.1.toNat true)=[] from List.filter_cons_of_neg (p:=fun p:Int×Int=>decide (s=0)||i.getD p.1.toNat true) l];rfl
theorem WE(i:List Bool)(s:Nat)(g:List (Int×Int)):(chA i s g).length<=g.length:=by
 rw[chA,zH];exact List.length_filter_le ..
theorem WG(i:List Bool)(g:List (Int×Int)):∀ k,(chs i g k).length<=k*g.length
 | 0=>by simp[chs]
 |k+1=>by
  rw[WD,qX,Nat.succ_mul];have:=WG i g k;have:=WE i k g;omega
theorem WH:∀(g:List Bd) (k:Nat),∀ p,p∈qE g k->(k:Int)<=p.1/\p.1<(k+g.length:Nat)
 | [],k,p,h=>by simp[qE]at h
 |b :: g,k,p,h=>by
  simp only[qE,qG]at h;rcases h with h|h
  .simp only[yi,qp]at h
   obtain⟨t,_,rfl⟩:=h;simp;omega
  .have:=WH g (k+1) p h
   simp only[zu];omega
theorem qfZ(ts:TS)(sc:Sc)(T:List Bd)(N:Nat)(hS:sc.steps=N)(hN:N<=4)(hl:T.length<=1000)(hb:∀ x,x∈T->w7 x)(af:T.length<=ts.fields.length)(a9:(qE T 0).length<=100000) :
  qe qc 84 [eTS ts,eSc sc,lBd T] (lCh (chs (vsT ts) (qE T 0) N)):=by
 have a3:=Wl T hl hb;have ag:=Vb T 0 hb;have a5:=WH T 0;generalize hF:qE T 0=F at *
 refine qSV call84 func84 rfl ?_;simp[go_sem,hS];refine qk.upK N (fun k st=>st.tm 2=lBd T/\st.tm 3 = .ip (cTS ts)/\st.tm 12=aI N/\st.tm 13=aI k/\Own st.mu 3 (st.tm 7) ((chs (vsT ts) F k).map rC)) ?_ ?_
 .exact ⟨by simp[go_sem],by simp[go_sem],by simp[go_sem],by simp[go_sem],.inl (by simp[go_sem,chs])⟩
 rintro k st hk ⟨e2,e3,o,t,ho⟩;by_cases a6:k<N
 .have w1:qi.wrap ((k:Int)+1)=(k:Int)+1:=qg (by omega) (by omega)
  have ah:=WG (vsT ts) F k;have ad:k*F.length<=4*100000:=Nat.mul_le_mul (by omega) a9;simp[go_sem,e2,o,t,a6];refine qd.pure a3 (.cons (.hf (j6 _)) .nil) ?_;simp[go_sem];refine qk.upK F.length (fun j st2=>st2.tm 2=lBd T/\st2.tm 3 = .ip (cTS ts)/\st2.tm 12=aI N/\st2.tm 13=aI k/\st2.tm 8=aI k/\st2.tm 17=lP F/\st2.tm 18=aI F.length/\st2.tm 19=aI j/\Own st2.mu 3 (st2.tm 7) ((chs (vsT ts) F k++chA (vsT ts) k (F.take j)).map rC)) ?_ ?_
  .exact ⟨by simp[go_sem,e2],by simp[go_sem,e3],by simp[go_sem,o],by simp[go_sem,t],by simp[go_sem],by simp[go_sem],by simp[go_sem],by simp[go_sem],by simpa[go_sem,chA] using ho⟩
  clear e2 e3 o t;rintro j st2 hj ⟨e2,e3,o,t,e8,I,C,J,a0⟩;by_cases i:j<F.length
  .have w2:qi.wrap ((j:Int)+1)=(j:Int)+1:=qg (by omega) (by omega)
   have hm:=a5 _ (qy i);obtain⟨f,hf⟩:=Int.eq_ofNat_of_zero_le (show 0<=F[j].1 by have:=hm.1;simpa using this);have U:f<ts.fields.length:=by have:=hm.2;rw[hf]at this;simp at this;omega
   have a7:0<=F[j].1:=by omega
   have a8:F[j].1.toNat=f:=by omega
   have a1:F[j].1<ts.fields.length:=by omega
   have aa:(vsT ts).getD F[j].1.toNat true=ts.fields[f].var:=by rw[hf,Int.toNat_natCast,za,zp,qz U];rfl
   have ai:=WE (vsT ts) k (F.take j);have aj:=List.length_take_le j F;have hs:=pz (vsT ts) k F j i;rw[aa]at hs;have a2:∀(K:AV->Mu->Prop) (c:Cell),(∀ P l,Own l 3 P ((chs (vsT ts) F k++(chA (vsT ts) k (F.take j)++[((k:Int),F[j].1,F[j].2)])).map rC)->K P l)->qD qc (st2.mu++[c]) #[150,150] (st2.tm 7) (.lst true [[aI k,aI F[j].1,aI F[j].2]]) K:=fun K c hK=>by
    refine qD.ownB (e:=235) (sz:=3) (bt:=24) (zv := .agg [aI 0,aI 0,aI 0]) (xs:=(chs (vsT ts) F k++chA (vsT ts) k (F.take j)).map rC) (ys:=[rC ((k:Int),F[j].1,F[j].2)]) (by simp[go_sem]) (by simp[go_sem]) (by simp[go_sem]) rfl rfl (by omega) (by omega) (Own.push a0 _) (by simp[qM]) (Zd _) (Zd [_]) (by simp;omega) ?_;intro P l ab _ _ _;exact hK P l (by rw[<-zc,zg (l₂:=[_])];exact ab)
   by_cases hc:(decide (k=0)||ts.fields[f].var)=true
   .rw [if_pos hc]at hs
    by_cases R:k=0
    .subst R
     simp[go_sem,e8,I,C,J,i];refine a2 _ _ fun P l h1=>?_
     simp[go_sem,J,i,w2]
     try refine⟨i,Keep.mk' ?_⟩
     try refine Keep.mk' ?_
     refine⟨by simp[go_sem,e2],by simp[go_sem,e3],by simp[go_sem,o],by simp[go_sem,t],by simp[go_sem,e8],by simp[go_sem,I],by simp[go_sem,C],by simp[go_sem],?_⟩;rw[hs];simpa[go_sem] using h1
    .have hv:ts.fields[f].var=true:=by simpa[R] using hc
     simp[go_sem,e3,e8,I,C,J,i,R,a7,a8,a1,U,hv];refine a2 _ _ fun P l h1=>?_
     simp[go_sem,J,i,w2]
     try refine⟨i,Keep.mk' ?_⟩
     try refine Keep.mk' ?_
     refine⟨by simp[go_sem,e2],by simp[go_sem,e3],by simp[go_sem,o],by simp[go_sem,t],by simp[go_sem,e8],by simp[go_sem,I],by simp[go_sem,C],by simp[go_sem],?_⟩;rw[hs];simpa[go_sem] using h1
   .rw [if_neg hc,zO]at hs
    have R:¬k=0:=fun h=>hc (by simp[h])
    have hv:ts.fields[f].var=false:=by simpa[R] using hc
    simp[go_sem,e3,e8,I,C,J,i,R,a7,a8,a1,U,hv,w2]
    try refine⟨i,Keep.mk' ?_⟩
    try refine Keep.mk' ?_
    refine⟨by simp[go_sem,e2],by simp[go_sem,e3],by simp[go_sem,o],by simp[go_sem,t],by simp[go_sem,e8],by simp[go_sem,I],by simp[go_sem,C],by simp[go_sem],?_⟩;rw[hs];simpa[go_sem] using Own.push a0 _
  .have a4:j=F.length:=by omega
   subst a4;rw[q8]at a0;simp[go_sem,t,C,J,w1]
   try refine⟨a6,Keep.mk' ?_⟩
   try refine Keep.mk' ?_
   refine⟨by simp[go_sem,e2],by simp[go_sem,e3],by simp[go_sem,o],by simp[go_sem],?_⟩;rw[WD];simpa[go_sem] using a0
 .have a4:k=N:=by omega
  subst a4;simp[go_sem,o,t];exact Own.rd ho (Zd _).ok fun r hr c hc=>by
   obtain⟨n,_,rfl⟩:=qp.1 hr;simp at hc;rcases hc with rfl|rfl|rfl<;>exact HF.sc _
def selT(g:List Ch)(s f:Nat):List Int:=(g.filter fun c:Ch=>decide (c.1=(s:Int))&&decide (c.2.1=(f:Int))).map fun c=>c.2.2
def vy(g:List Ch)(s f:Nat)(b:Bd):Rl:=unR b.lo ⟨b.lo.ar,selT g s f⟩
def jh(i:List Bool)(j:List Bd)(g:List Ch)(s:Nat):List Rl:=j.mapIdx fun f b=>if s≠0/\i.getD f true=false then vy g 0 f b else vy g s f b
theorem Ze(i:List Bool)(g:List Bd)(j:List Ch)(s:Nat):(jh i g j s).length=g.length:=by simp[jh]
theorem Yk(j:List Bool)(g:List Bd)(i:List Ch)(s f:Nat)(h:f<g.length)(l:f<(jh j g i s).length):(jh j g i s)[f]=if s≠0/\j.getD f true=false then vy i 0 f g[f] else vy i s f g[f]:=by simp[jh]
theorem qf0(g:List Ch)(s f i:Nat)(h:i<g.length):selT (g.take (i+1)) s f=selT (g.take i) s f++(if g[i].1=s/\g[i].2.1=f then [g[i].2.2] else []):=by
 rw[jH h,selT,List.filter_append,zg];by_cases j:g[i].1=s/\g[i].2.1=f
 .rw [if_pos j,show [g[i]].filter (fun c:Ch=>decide (c.1=(s:Int))&&decide (c.2.1=(f:Int)))=[g[i]] from List.filter_cons_of_pos (p:=fun c:Ch=>decide (c.1=(s:Int))&&decide (c.2.1=(f:Int))) (by simpa using j)];rfl
 .rw [if_neg j,show [g[i]].filter (fun c:Ch=>decide (c.1=(s:Int))&&decide (c.2.1=(f:Int)))=[] from List.filter_cons_of_neg (p:=fun c:Ch=>decide (c.1=(s:Int))&&decide (c.2.1=(f:Int))) (by simpa using j)];rfl
theorem pA(g:List Ch)(s f:Nat):(selT g s f).length<=g.length:=by rw[selT,zH];exact List.length_filter_le ..
abbrev zR:List AV:=[aI 0,.lst true []]
def yq(L:List Rl)(n j:Nat):List (List AV):=(L.take j).map cRel++zt (n-j) zR
theorem pB(L:List Rl)(n j:Nat)(g:L.length=n)(h:j<=n):(yq L n j).length=n:=by simp[yq,g];omega
theorem pC(L:List Rl)(n j:Nat):z6 2 (yq L n j):=fun r g=>by
 simp only[yq,qG,qp,List.mem_replicate]at g;rcases g with ⟨q,_,rfl⟩|⟨_,rfl⟩<;>rfl
theorem qf1(L:List Rl)(n j:Nat)(i:L.length=n)(h:j<n):(yq L n j).set j (cRel (L[j]'(by omega)))=yq L n (j+1):=by
 unfold yq;have g:((L.take j).map cRel).length=j:=by simp;omega
 rw[List.set_append_right _ _ (by omega),g,Nat.sub_self,show n-j=n-(j+1)+1 by omega,List.replicate_succ,List.set_cons_zero,jH (show j<L.length by omega),zg,zc];rfl
theorem qf2(L:List Rl)(n:Nat)(g:L.length=n):yq L n n=L.map cRel:=by
 unfold yq;rw[<-g,q8,Nat.sub_self];simp
structure pD (b:Bd):Prop where
 l:b.lo.ts.length<=50000
def yA(sc:Sc)(g:List Bool)(i:List Bd)(j:List Ch)(N:Nat)(loop:Int):Md:=⟨sc,(qt N).map (jh g i j),loop⟩
theorem qf3(ts:TS)(sc:Sc)(o:List Bd)(C:List Ch)(loop:Int)(N:Nat)(hS:sc.steps=N)(hN:N<=4)(hl:o.length<=1000)(hb:∀ x,x∈o->pD x)(dd:o.length<=ts.fields.length)(de:C.length<=50000) :
  qe qc 86 [eTS ts,eSc sc,lBd o,aI loop,lCh C] (eMd (yA sc (vsT ts) o C N loop)):=by
 have bm:eMd (yA sc (vsT ts) o C N loop) = .agg [lI sc.atoms,aI N,lSt ((qt N).map (jh (vsT ts) o C)),aI loop]:=by rw[<-hS];rfl
 rw[bm];have J:=Ze (vsT ts) o C;have aq:=Yk (vsT ts) o C;clear bm;generalize hA:jh (vsT ts) o C=A at J aq⊢;refine qSV call86 func86 rfl ?_;simp[go_sem,hS];refine qk.upK N (fun k st=>st.tm 2=lBd o/\st.tm 4=lCh C/\st.tm 5 = .ip (cTS ts)/\st.tm 10 = .ptr 0 0/\st.tm 11 = .ptr 1 0/\st.tm 23=aI N/\st.tm 24=aI k /\
  ∃ s,st.mu[0]?=some (.arr [.lst true [],aI 0,.lst true [],aI 0])/\st.mu[1]?=some (.arr [lI sc.atoms,aI N,s,aI loop])/\Own st.mu 1 s (((qt k).map A).map fun r=>[lRel r])/\∀ b,qv s=some b->2<=b) ?_ ?_
 .exact ⟨by simp[go_sem],by simp[go_sem],by simp[go_sem],by simp[go_sem],by simp[go_sem],by simp[go_sem],by simp[go_sem],.lst true [],by simp[go_sem],by simp[go_sem],.inl (by simp),by simp[qv]⟩
 rintro k st hk ⟨e2,e4,e5,bn,bo,be,bg,s,h0,h1,ho,bh⟩;have cq:=(qj.1 h0).1;have df:=(qj.1 h1).1;by_cases bq:k<N
 .have w1:qi.wrap ((k:Int)+1)=(k:Int)+1:=qg (by omega) (by omega)
  have cr:(o.length:Int)<=4294967296:=by omega
  simp[go_sem,e2,be,bg,bq,cr];have br:∀ b,qv s=some b->b<st.mu.length:=fun b h=>Own.lt ho h
  have dh:2<=st.mu.length:=by omega
  have cs:(zt o.length [AV.sc (Value.int qi 0),AV.lst true []]).flatten=(yq (A k) o.length 0).flatten:=by simp[yq]
  generalize hR:st.mu.length=R at *
  refine qk.upK o.length (fun j st2=>st2.tm 2=lBd o/\st2.tm 4=lCh C/\st2.tm 5 = .ip (cTS ts)/\st2.tm 10 = .ptr 0 0/\st2.tm 11 = .ptr 1 0/\st2.tm 23=aI N/\st2.tm 24=aI k/\st2.tm 12=aI k/\st2.tm 13 = .sl R 2 0 o.length/\st2.tm 30=lBd o/\st2.tm 31=aI o.length/\st2.tm 32=aI j /\
   st2.mu[R]?=some (.arr (yq (A k) o.length j).flatten)/\∀ i,i<R->st2.mu[i]?=st.mu[i]?) ?_ ?_
  .exact ⟨by simp[go_sem,e2],by simp[go_sem,e4],by simp[go_sem,e5],by simp[go_sem,bn],by simp[go_sem,bo],by simp[go_sem,be],by simp[go_sem,bg],by simp[go_sem],by simp[go_sem],by simp[go_sem],by simp[go_sem],by simp[go_sem],by simp[go_sem,cs,<-hR],fun i hi=>by simp[go_sem];rw[qx (by omega)]⟩
  rintro j st2 hj ⟨f2,f4,f5,f10,f11,f23,f24,f12,f13,f30,f31,f32,a9,I⟩;have bu:R<st2.mu.length:=(qj.1 a9).1;have aa:st2.mu[1]?=some (.arr [lI sc.atoms,aI N,s,aI loop]):=by rw[I 1 (by omega)];exact h1
  by_cases t:j<o.length
  .have w2:qi.wrap ((j:Int)+1)=(j:Int)+1:=qg (by omega) (by omega)
   have bi:j<ts.fields.length:=by omega
   have bv:(vsT ts).getD j true=ts.fields[j].var:=by rw[za,zp,qz bi];rfl
   have au:(yq (A k) o.length j).flatten.length=o.length*2:=by rw[zZ (pC _ _ _),pB _ _ _ (J k) (by omega)]
   have a3:∀ s,j<(A s).length:=fun s=>by rw[J];exact t
   have ab:(yq (A k) o.length j).flatten.take (j*2)++aI ((A k)[j]'(a3 k)).ar :: lI ((A k)[j]'(a3 k)).ts :: (yq (A k) o.length j).flatten.drop (j*2+2)=(yq (A k) o.length (j+1)).flatten:=by
    rw[<-qf1 (A k) o.length j (J k) t,ZG _ j _ (pC _ _ _) rfl (by rw[pB _ _ _ (J k) (by omega)];exact t),yu _ _ _ (by rw[au];simp only[cRel,zu,List.length_nil];omega)];simp
   have bb:∀ c,(st2.mu++[c])[R]?=some (.arr (yq (A k) o.length j).flatten):=fun c=>by rw[qx bu];exact a9
   simp[go_sem,f12,f30,f31,f32,t];by_cases bj:k≠0/\ts.fields[j].var=false
   .obtain ⟨aw,hv⟩:=bj
    have a2:0<k:=by omega
    have ad:(A k)[j]'(a3 k)=(A 0)[j]'(a3 0):=by
     rw[aq k j t,aq 0 j t,if_pos ⟨aw,by rw[bv];exact hv⟩,if_neg (fun h=>h.1 rfl)]
    rw[ad]at ab;have bk:∀ c,(st2.mu++[c])[1]?=some (.arr [lI sc.atoms,aI N,s,aI loop]):=fun c=>by rw[qx (by omega)];exact aa
    have db:=a3 0;have T:(((qt k).map A).map fun r=>[lRel r]).flatten[0]?=some (lRel (A 0)):=by
     obtain⟨k',rfl⟩:∃ k',k=k'+1:=⟨k-1,by omega⟩;rw[List.range_succ_eq_map];simp
    have bw:(((qt k).map A).map fun r=>[lRel r]).length=k:=by simp
    generalize ae:(((qt k).map A).map fun r=>[lRel r])=rows at *
    have ct:rows[0]?=some [lRel (A 0)]:=by
     rw[<-ae];obtain⟨k',rfl⟩:∃ k',k=k'+1:=⟨k-1,by omega⟩;rw[List.range_succ_eq_map];rfl
    have ca:(rows.map List.length).sum=k:=by
     have:=zZ (sz:=1) (xs:=rows) (by rw[<-ae];intro r hr;obtain⟨n,_,rfl⟩:=qp.1 hr;rfl);rw[List.length_flatten]at this;omega
    have cb:rows.flatten.take 1=[lRel (A 0)]:=by
     cases cc:rows.flatten with
     |nil=>rw[cc]at T;cases T
     |cons x l=>rw[cc]at T;cases T;rfl
    simp[go_sem,f5,f11,f13,a2,bi,hv,bk];rcases ho with rfl|⟨c,rfl,cd⟩
    .refine OptK.intro (.ip [lRel (A 0)]) (by simp only[];simp[ct,bw];omega) ?_
     simp[go_sem,t,bb,J,au];refine OptK.intro ((st2.mu++[Cell.arr (cBd o[j])]).set R (.arr (yq (A k) o.length (j+1)).flatten)) (by rw[if_pos (by omega),ab]) ?_;simp[go_sem,f32,t,w2]
     try refine⟨t,Keep.mk' ?_⟩
     try refine Keep.mk' ?_
     refine⟨by simp[go_sem,f2],by simp[go_sem,f4],by simp[go_sem,f5],by simp[go_sem,f10],by simp[go_sem,f11],by simp[go_sem,f23],by simp[go_sem,f24],by simp[go_sem,f12],by simp[go_sem,f13],by simp[go_sem,f30],by simp[go_sem,f31],by simp[go_sem],?_,fun i hi=>?_⟩
     .simp only[zl];rw[zr (by simp;omega)]
     .simp only[zl];rw[zo (by omega),qx (by omega)];exact I i hi
    .have di:=(qj.1 cd).1
     have cf:∀ x,(st2.mu++[x])[c]?=some (.arr rows.flatten):=fun x=>by rw[qx (by omega),I c (by omega)];exact cd
     simp[go_sem,a2,cf,bw];refine OptK.intro (lRel (A 0)) (by rw[ca,if_pos (by omega),cb];rfl) ?_;simp[go_sem,t,bb,J,au];refine OptK.intro ((st2.mu++[Cell.arr (cBd o[j])]).set R (.arr (yq (A k) o.length (j+1)).flatten)) (by rw[if_pos (by omega),ab]) ?_;simp[go_sem,f32,t,w2]
     try refine⟨t,Keep.mk' ?_⟩
     try refine Keep.mk' ?_
     refine⟨by simp[go_sem,f2],by simp[go_sem,f4],by simp[go_sem,f5],by simp[go_sem,f10],by simp[go_sem,f11],by simp[go_sem,f23],by simp[go_sem,f24],by simp[go_sem,f12],by simp[go_sem,f13],by simp[go_sem,f30],by simp[go_sem,f31],by simp[go_sem],?_,fun i hi=>?_⟩
     .simp only[zl];rw[zr (by simp;omega)]
     .simp only[zl];rw[zo (by omega),qx (by omega)];exact I i hi
   .have ad:(A k)[j]'(a3 k)=vy C k j o[j]:=by
     rw[aq k j t,bv];by_cases aw:k=0
     .rw [if_neg (fun h=>h.1 aw)]
     .rw [if_neg (fun h=>bj h)]
    rw[ad]at ab;have cu:0<k->ts.fields[j].var=true:=fun aw=>by
     cases hv:ts.fields[j].var with
     |true=>rfl
     |false=>exact absurd ⟨by omega,hv⟩ bj
    generalize hX:st2.mu.length=X at *
    by_cases a2:0<k
    all_goals simp[go_sem,f4,f5,a2,bi,cu,hX]
    all_goals
     refine qk.upK C.length (fun i st3=>st3.tm 2=lBd o/\st3.tm 4=lCh C/\st3.tm 5 = .ip (cTS ts)/\st3.tm 10 = .ptr 0 0/\st3.tm 11 = .ptr 1 0/\st3.tm 23=aI N/\st3.tm 24=aI k/\st3.tm 12=aI k/\st3.tm 13 = .sl R 2 0 o.length/\st3.tm 30=lBd o/\st3.tm 31=aI o.length/\st3.tm 32=aI j /\
      st3.tm 14=aI j/\st3.tm 15 = .ptr X 0/\st3.tm 16 = .ptr (X+1) 0/\st3.tm 62=lCh C/\st3.tm 63=aI C.length/\st3.tm 64=aI i/\st3.mu[X]?=some (.arr (cBd o[j]))/\(∀ i,i<X->st3.mu[i]?=st2.mu[i]?) /\
      ∃ P,st3.mu[X+1]?=some (.arr [aI o[j].lo.ar,P])/\Own st3.mu 1 P ((selT (C.take i) k j).map rI)/\∀ b,qv P=some b->X+1<b) ?_ ?_
     .refine ⟨by simp[go_sem,f2],by simp[go_sem,f4],by simp[go_sem,f5],by simp[go_sem,f10],by simp[go_sem,f11],by simp[go_sem,f23],by simp[go_sem,f24],by simp[go_sem,f12],by simp[go_sem,f13],by simp[go_sem,f30],by simp[go_sem,f31],by simp[go_sem,f32],by simp[go_sem],by simp[go_sem],by simp[go_sem],by simp[go_sem],by simp[go_sem],by simp[go_sem],by simp[go_sem,hX],fun i hi=>by simp[go_sem];rw[qx (by omega)],.lst true [],by simp[go_sem,hX],.inl (by simp[selT]),by simp[qv]⟩
     rintro i st3 hi ⟨g2,g4,g5,ax,ay,az,b0,af,ag,b1,b2,b3,a4,b4,a5,b5,ah,ai,cg,U,P,b6,aj,a6⟩;by_cases a0:i<C.length
     .have w3:qi.wrap ((i:Int)+1)=(i:Int)+1:=qg (by omega) (by omega)
      have a7:=qf0 C k j i a0;have cj:=pA (C.take i) k j;have dc:=List.length_take_le i C;have ck:=(qj.1 b6).1;have bl:∀ c,(st3.mu++[c])[X]?=some (.arr (cBd o[j])):=fun c=>by rw[qx (by omega)];exact cg
      have b7:∀ c,(st3.mu++[c])[X+1]?=some (.arr [aI o[j].lo.ar,P]):=fun c=>by rw[qx ck];exact b6
      have cl:qv P≠some (X+1):=fun h=>by have:=a6 _ h;omega
      simp[go_sem,af,b5,ah,ai,a0];by_cases ak:C[i].1=(k:Int)
      .by_cases b8:C[i].2.1=(j:Int)
       .rw [if_pos ⟨ak,b8⟩]at a7
        simp[go_sem,a4,a5,b7,ak,b8];refine qD.ownB (e:=3) (sz:=1) (bt:=8) (zv:=aI 0) (xs:=(selT (C.take i) k j).map rI) (ys:=[rI C[i].2.2]) (by simp[go_sem]) (by simp[go_sem]) (by simp[go_sem]) rfl rfl (by omega) (by omega) (Own.push aj _) (by simp[qM]) (zX _) (zX [_]) (by simp;omega) ?_;intro al an a1 a8 b9 cv;have q1:an[X+1]?=some (.arr [aI o[j].lo.ar,P]):=by rw[a8 _ (by simp;omega) cl];exact b7 _
        have q0:an[X]?=some (.arr (cBd o[j])):=by rw[a8 _ (by simp;omega) (fun h=>by have:=a6 _ h;omega)];exact bl _
        have ql:=(qj.1 q1).1;have cm:∀ b,qv al=some b->X+1<b:=fun b h=>by have:=b9 b h;simp at this;omega
        simp[go_sem,a5,ai,a0,q1,w3,Own.one a1,Own.cells a1]
        try refine⟨a0,Keep.mk' ?_⟩
        try refine Keep.mk' ?_
        refine⟨by simp[go_sem,g2],by simp[go_sem,g4],by simp[go_sem,g5],by simp[go_sem,ax],by simp[go_sem,ay],by simp[go_sem,az],by simp[go_sem,b0],by simp[go_sem,af],by simp[go_sem,ag],by simp[go_sem,b1],by simp[go_sem,b2],by simp[go_sem,b3],by simp[go_sem,a4],by simp[go_sem,b4],by simp[go_sem,a5],by simp[go_sem,b5],by simp[go_sem,ah],by simp[go_sem],?_,fun i hi=>?_,al,?_,?_,cm⟩
        .simp only[zl];rw[zo (by omega)];exact q0
        .simp only[zl];rw[zo (by omega),a8 i (by simp;omega) (fun h=>by have:=a6 _ h;omega),qx (by omega)];exact U i hi
        .simp only[zl];exact zr ql
        .simp only[zl];rw[a7,zg];exact Own.set a1 _ (fun h=>by have:=cm _ h;omega)
       .rw [if_neg (fun h=>b8 h.2),zO]at a7
        simp[go_sem,a4,ai,a0,ak,b8,w3]
        try refine⟨a0,Keep.mk' ?_⟩
        try refine Keep.mk' ?_
        refine⟨by simp[go_sem,g2],by simp[go_sem,g4],by simp[go_sem,g5],by simp[go_sem,ax],by simp[go_sem,ay],by simp[go_sem,az],by simp[go_sem,b0],by simp[go_sem,af],by simp[go_sem,ag],by simp[go_sem,b1],by simp[go_sem,b2],by simp[go_sem,b3],by simp[go_sem,a4],by simp[go_sem,b4],by simp[go_sem,a5],by simp[go_sem,b5],by simp[go_sem,ah],by simp[go_sem],?_,fun i hi=>?_,P,?_,?_,a6⟩
        .simp only[zl];exact bl _
        .simp only[zl];rw[qx (by omega)];exact U i hi
        .simp only[zl];exact b7 _
        .simp only[zl];rw[a7];exact Own.push aj _
      .rw [if_neg (fun h=>ak h.1),zO]at a7
       simp[go_sem,ai,a0,ak,w3]
       try refine⟨a0,Keep.mk' ?_⟩
       try refine Keep.mk' ?_
       refine⟨by simp[go_sem,g2],by simp[go_sem,g4],by simp[go_sem,g5],by simp[go_sem,ax],by simp[go_sem,ay],by simp[go_sem,az],by simp[go_sem,b0],by simp[go_sem,af],by simp[go_sem,ag],by simp[go_sem,b1],by simp[go_sem,b2],by simp[go_sem,b3],by simp[go_sem,a4],by simp[go_sem,b4],by simp[go_sem,a5],by simp[go_sem,b5],by simp[go_sem,ah],by simp[go_sem],?_,fun i hi=>?_,P,?_,?_,a6⟩
       .simp only[zl];exact bl _
       .simp only[zl];rw[qx (by omega)];exact U i hi
       .simp only[zl];exact b7 _
       .simp only[zl];rw[a7];exact Own.push aj _
     .have ao:i=C.length:=by omega
      subst ao;rw[q8]at aj;simp[go_sem,ag,a4,b4,a5,ah,ai,cg,b6];have cj:=pA C k j;have cw:=vr o[j].lo ⟨o[j].lo.ar,selT C k j⟩ (by have:=(hb _ (qy t)).l;omega) (by show (selT C k j).length<=_;omega);have bc:∀ i,i<X->(cutM (fun i=>!decide (X<=i)) st3.mu 0)[i]?=st2.mu[i]?:=fun i hi=>by
       rw[jK,U i hi];simp only[yf,decide_eq_false (show ¬X<=i by omega),Bool.not_false,if_true];cases st2.mu[i]?<;>rfl
      refine qd.eff0 (qP.freeze (args1:=[eRel o[j].lo,eRel ⟨o[j].lo.ar,selT C k j⟩]) (fun i=>decide (X<=i)) ⟨.inl rfl,.inr ?_,trivial⟩ (qe.toSound _ cw (.cons (.hf (z8 _)) (.cons (.hf (z8 _)) .nil)))) ?_ ?_
      .exact Rd.aggs ⟨.hf _ (HF.sc _),Own.rd (Zc aj fun b h=>by have:=a6 b h;omega) (zX _).ok fun r hr c hc=>by
        obtain⟨n,_,rfl⟩:=qp.1 hr;simp at hc;subst hc;exact HF.sc _,trivial⟩
      .rintro r m ⟨h,rfl⟩
       cases h;have cn:(cutM (fun i=>!decide (X<=i)) st3.mu 0)[R]?=some (.arr (yq (A k) o.length j).flatten):=by rw[bc R bu];exact a9
       simp[go_sem,cn,t,au];have dj:(cutM (fun i=>!decide (X<=i)) st3.mu 0).length=st3.mu.length:=uu _ _ _;have ck:=(qj.1 b6).1;refine OptK.intro ((cutM (fun i=>!decide (X<=i)) st3.mu 0).set R (.arr (yq (A k) o.length (j+1)).flatten)) (by rw[if_pos (by omega)];exact congrArg (fun l=>some ((cutM (fun i=>!decide (X<=i)) st3.mu 0).set R (Cell.arr l))) ab) ?_;simp[go_sem,b3,t,w2]
       try refine⟨t,Keep.mk' ?_⟩
       try refine Keep.mk' ?_
       refine⟨by simp[go_sem,g2],by simp[go_sem,g4],by simp[go_sem,g5],by simp[go_sem,ax],by simp[go_sem,ay],by simp[go_sem,az],by simp[go_sem,b0],by simp[go_sem,af],by simp[go_sem,ag],by simp[go_sem,b1],by simp[go_sem,b2],by simp[go_sem],?_,fun i hi=>?_⟩
       .simp only[zl];rw[zr (by omega)]
       .simp only[zl];rw[zo (by omega),bc i (by omega)];exact I i hi
      .rintro r m ⟨h,_⟩
       cases h
  .have ao:j=o.length:=by omega
   subst ao;rw[qf2 _ _ (J k)]at a9;have cy:Own st2.mu 2 (.sl R 2 0 o.length) ((A k).map cRel) := .inr ⟨R,by simp[J],a9⟩;simp[go_sem,f11,f13,f31,f32,aa];refine qD.giveB (e:=105) (sz:=1) (bt:=24) (zv := .lst true []) (xs:=((qt k).map A).map fun r=>[lRel r]) [lRel (A k)] R (by simp[go_sem]) (by simp[go_sem]) (by simp[go_sem]) rfl rfl (by omega) (by omega) ?_ br ?_ ?_ ?_ (by simp;omega) ?_
   .rcases ho with h|⟨b,h,hc⟩
    .exact .inl h
    .exact .inr ⟨b,h,by rw[I b (br b (by rw[h];rfl))];exact hc⟩
   .exact ⟨Own.rd (Zc cy fun b h=>by cases h;exact qs _) (wT _).ok fun r hr c hc=>by
     obtain⟨n,_,rfl⟩:=qp.1 hr;exact JP n c hc,trivial⟩
   .intro r hr
    obtain⟨n,_,rfl⟩:=qp.1 hr;exact⟨rfl,rfl⟩
   .intro r hr
    simp at hr;subst hr;exact⟨rfl,rfl⟩
   intro al an a1 a8 b9 cv dk;have g1:an[1]?=some (.arr [lI sc.atoms,aI N,s,aI loop]):=by rw[a8 1 (by omega) (by omega) (fun h=>by have:=bh 1 h;omega)];exact aa
   have g0:an[0]?=some (.arr [.lst true [],aI 0,.lst true [],aI 0]):=by rw[a8 0 (by omega) (by omega) (fun h=>by have:=bh 0 h;omega),I 0 (by omega)];exact h0
   have l1:=(qj.1 g1).1;simp[go_sem,f11,f24,g1,w1,Own.one a1,Own.cells a1]
   try refine⟨bq,Keep.mk' ?_⟩
   try refine Keep.mk' ?_
   refine⟨by simp[go_sem,f2],by simp[go_sem,f4],by simp[go_sem,f5],by simp[go_sem,f10],by simp[go_sem,f11],by simp[go_sem,f23],by simp[go_sem],al,by simp[go_sem,g0],by simp[go_sem,l1],?_,fun b h=>by have:=b9 b h;omega⟩;rw[List.range_succ,zg,zg];simpa[go_sem] using Own.set a1 (.arr [lI sc.atoms,aI N,al,aI loop]) (fun h=>by have:=b9 1 h;omega)
 .have ao:k=N:=by omega
  subst ao;have cz:s.one=true:=Own.one ho;have dm:s.cells=[s]:=Own.cells ho;have cp:∀ c,(st.mu.set 0 c)[0]?=some c:=fun c=>zr cq
  simp[go_sem,bn,bo,be,bg,h0,h1,cz,cp];have da:=Own.set ho (i:=0) (.arr [lI sc.atoms,aI k,s,aI loop]) (fun h=>by have:=bh 0 h;omega);refine Rd.aggs ⟨.hf _ (zi _),.hf _ (HF.sc _),?_,.hf _ (HF.sc _),trivial⟩;exact Own.rd da (fun r hr=>by
   obtain⟨n,_,rfl⟩:=qp.1 hr;rfl) fun r hr c hc=>by
   obtain⟨n,_,rfl⟩:=qp.1 hr;simp at hc;subst hc;exact Z2 n
end GU
namespace GY
open YF P1 E3 GF GG GH GS GU
section
variable {C:Type}
def subs:List C->List C->List (List C)
 |c,[]=>[c]
 |c,a :: r=>subs c r++subs (c++[a]) r
theorem Vh:∀(r c:List C),(subs c r).length=2 ^ r.length
 | [],c=>rfl
 |a :: r,c=>by rw[subs,qX,Vh r,Vh r,zu,Nat.pow_succ];omega
theorem Yl:∀(r c x:List C),x∈subs c r↔∃ y,y.Sublist r/\x=c++y
 | [],c,x=>by simp[subs]
 |a :: r,c,x=>by
  rw[subs,qG,Yl r,Yl r];constructor
  .rintro (⟨y,h,rfl⟩|⟨y,h,rfl⟩)
   .exact ⟨y,h.cons _,rfl⟩
   .exact ⟨a :: y,h.cons_cons _,by simp⟩
  .rintro ⟨y,h,rfl⟩
   cases h with
   |cons _ h=>exact .inl ⟨y,h,rfl⟩
   |cons_cons _ h=>exact .inr ⟨_,h,by simp⟩
theorem Zf:∀(r c:List Ch),subL (c.map rC) (r.map rC)=(subs c r).map (List.map rC)
 | [],c=>rfl
 |a :: r,c=>by
  rw[yV,subL,subs,zg,Zf r c,show c.map rC++[rC a]=(c++[a]).map rC by simp,Zf r]
def deI:AV->Int
 | .sc (.int _ n)=>n
 |_=>0
def deC:List AV->Ch
 | [a,b,c]=>(deI a,deI b,deI c)
 |_=>(0,0,0)
theorem pE(c:List Ch):(c.map rC).map deC=c:=by
 rw[List.map_map];exact(List.map_congr_left fun x _=>rfl).trans (List.map_id c)
def uS(sc:Sc)(g:List Bool)(i:List Bd)(j:List Ch)(N:Nat):List Md:=(qt N).flatMap fun k:Nat=>(subs [] j).map fun c=>yA sc g i c N (k:Int)
theorem pF(sc:Sc)(g:List Bool)(i:List Bd)(j:List Ch)(N:Nat):jF (fun k c=>yA sc g i (c.map deC) N (k:Int)) (j.map rC) N=uS sc g i j N:=by
 unfold jF uS;congr 1;funext s;rw[show ([]:List (List AV))=([]:List Ch).map rC from rfl,Zf,List.map_map];exact List.map_congr_left fun c _=>by simp only[Function.comp_apply,pE]
theorem qf4(sc:Sc)(i:List Bool)(j:List Bd)(g:List Ch)(N:Nat):(uS sc i j g N).length=N*2 ^ g.length:=by
 rw[<-pF,Vc,show ([]:List (List AV))=([]:List Ch).map rC from rfl,Zf,zH,Vh]
theorem pG{sc:Sc}{j:List Bool}{l:List Bd}{o:List Ch}{N:Nat}{m:Md}:m∈uS sc j l o N↔∃(k:Nat) (c:List Ch),k<N/\c.Sublist o/\m=yA sc j l c N k:=by
 simp only[uS,Qf,yk,qp];constructor
 .rintro ⟨k,g,c,i,rfl⟩
  obtain⟨y,p,rfl⟩:=(Yl _ _ _).1 i;exact⟨k,_,g,p,rfl⟩
 .rintro ⟨k,c,g,i,rfl⟩
  exact⟨k,g,c,(Yl _ _ _).2 ⟨c,i,rfl⟩,rfl⟩
theorem qf5(l:List Ch):uM (l.map rC):=fun r i=>by
 obtain⟨n,_,rfl⟩:=qp.1 i;exact⟨rfl,rfl,fun c g=>by simp at g;rcases g with rfl|rfl|rfl<;>exact HF.sc _⟩
theorem qf6(ts:TS)(sc:Sc)(g:List Bd)(N:Nat)(l:sc.steps=N)(o:N<=4)(P:g.length<=1000)(U:∀ x,x∈g->w7 x)(hi:∀ x,x∈g->pD x)(i:g.length<=ts.fields.length)(p:(qE g 0).length<=100000)
  (r:(chs (vsT ts) (qE g 0) N).length<=14) (t:N*2 ^ (chs (vsT ts) (qE g 0) N).length<=16384)
  (h1:qe qc 82 [eTS ts,eSc sc] (aB true)) (h2:qe qc 83 [eTS ts,eSc sc,lBd g] (aB true)) :
  qe qc 29 [eTS ts,eSc sc,lBd g] (.tup [lMd (uS sc (vsT ts) g (chs (vsT ts) (qE g 0) N) N),aI 0]):=by
 rw[<-pF];generalize C:chs (vsT ts) (qE g 0) N=j at *
 have R:=qfZ ts sc g N l o P U i p;rw[C]at R;have I:(subL [] (j.map rC)).length=2 ^ j.length:=by
  rw[show ([]:List (List AV))=([]:List Ch).map rC from rfl,Zf,zH,Vh]
 refine qfE ts sc g (j.map rC) _ N l o (qf5 j) (by simpa using r) (by rw[I];omega) (by simpa using t) h1 h2 R fun k hk c T=>?_
 rw[show ([]:List (List AV))=([]:List Ch).map rC from rfl,Zf]at T;obtain⟨c',J,rfl⟩:=qp.1 T;obtain⟨y,hy,rfl⟩:=(Yl _ _ _).1 J;rw[pE];exact qf3 ts sc g _ k N l o P hi i (by have:=hy.length_le;simp;omega)
end
end GY
namespace GZ
open E1 GB GF GP GU GY
theorem pH(g:List Ch)(s f:Nat)(t:Int):t∈selT g s f↔((s:Int),(f:Int),t)∈g:=by
 simp only[selT,qp,y9,qr,decide_eq_true_eq];constructor
 .rintro ⟨⟨a,b,c⟩,⟨h,i,j⟩,rfl⟩
  simp only at i j;subst i j;exact h
 .intro h
  exact⟨_,⟨h,rfl,rfl⟩,rfl⟩
theorem WI:∀(g:List Bd) (k:Nat) (p t:Int),(p,t)∈qE g k↔∃(f:Nat) (h:f<g.length),p=((k+f:Nat):Int)/\t∈vw g[f]
 | [],k,p,t=>by simp[qE]
 |b :: g,k,p,t=>by
  simp only[qE,qG,yi,qp,vj,WI g (k+1)];constructor
  .rintro (⟨a,j,rfl,rfl⟩|⟨f,hf,rfl,i⟩)
   .exact ⟨0,by simp,by simp,by simpa using j⟩
   .exact ⟨f+1,by simpa using hf,by omega,by simpa using i⟩
  .rintro ⟨f,hf,rfl,i⟩
   cases f with
   |zero=>exact .inl ⟨t,by simpa using i,by simp,rfl⟩
   |succ f=>exact .inr ⟨f,by simpa using hf,by omega,by simpa using i⟩
theorem pI(r:List Bool)(g:List Bd)(N s f:Nat)(t:Int):((s:Int),(f:Int),t)∈chs r (qE g 0) N↔s<N/\(s=0\/r.getD f true=true)/\∃ h:f<g.length,t∈vw g[f]:=by
 simp only[chs,Qf,yk,chA,qp,y9,jT,decide_eq_true_eq,vj,Prod.exists];constructor
 .rintro ⟨C,i,p,U,⟨I,j⟩,h1,rfl,rfl⟩
  obtain⟨J,l,e,o⟩:=(WI _ _ _ _).1 I;have P:C=s:=by omega
  have R:J=f:=by omega
  subst P R;exact⟨i,by simpa using j,l,o⟩
 .rintro ⟨T,j,hf,o⟩
  exact⟨s,T,f,t,⟨(WI _ _ _ _).2 ⟨f,hf,by simp,o⟩,by simpa using j⟩,rfl,rfl,rfl⟩
theorem pJ(g:List Bool)(lo:Rl)(t:Int)(i:t∈lo.ts):∀(ts:List Int) (q:List Int×Nat),t∈q.1\/t∈ts->t∈(ts.foldl (js g lo) q).1
 | [],q,h=>by
  rcases h with h|h
  .exact h
  .exact absurd h qI
 |a :: ts,q,h=>by
  rw[List.foldl_cons];refine pJ g lo t i ts _ ?_;rcases h with h|h
  .refine .inl ?_
   unfold js;split<;>exact yC _ h
  .rcases qw.1 h with rfl|h
   .refine .inl ?_
    unfold js;rw[if_pos i];exact List.mem_append_right _ (qN.2 rfl)
   .exact .inr h
theorem pK(g:List Bool):∀(i:List Bd) (q:List Rl×Nat),∃ l,(i.foldl (insB g) q).1=q.1++l
 | [],q=>⟨[],by simp⟩
 |b :: i,q=>by
  obtain⟨l,h⟩:=pK g i (insB g q b);exact⟨_,by rw[List.foldl_cons,h];simp only[insB,zc];rfl⟩
theorem qf7(g:List Bd)(i:List Bool)(f:Nat)(h:f<g.length):∃ n,(zV g i)[f]?=some ⟨g[f].up.ar,(insF i g[f].lo g[f].up.ts n).1⟩:=by
 have e:g=g.take (f+1)++g.drop (f+1):=(u3 ..).symm;have p:yz g i=(g.drop (f+1)).foldl (insB i) (yz (g.take (f+1)) i):=by
  rw[yz,yz,<-Qe,u3]
 obtain⟨l,j⟩:=pK i (g.drop (f+1)) (yz (g.take (f+1)) i);rw[<-p,pu g i f h]at j;have o:(zV (g.take f) i).length=f:=by rw[w8];simp;omega
 refine⟨(yz (g.take f) i).2,?_⟩;unfold zV at o⊢;rw[j,insB,zc,qV (by omega),o];simp
theorem pL(b:Bd)(t:Int):t∈vw b↔t∈b.up.ts/\¬t∈b.lo.ts:=by simp[vw]
theorem qf8(g:List Bd)(i:List Bool)(f:Nat)(h:f<g.length)(r:g[f].lo.ar=g[f].up.ar)(C:sorted g[f].up.ts)(j:∀ t,t∈g[f].lo.ts->t∈g[f].up.ts)(ts:List Int)
  (l:∀ t,t∈ts↔t∈vw g[f]/\t∈((zV g i).getD f noR).ts):unR g[f].lo ⟨g[f].lo.ar,ts⟩=(zV g i).getD f noR:=by
 obtain⟨n,I⟩:=qf7 g i f h;rw[za,I]at l⊢;simp only[Option.getD_some]at l⊢;have o:(insF i g[f].lo g[f].up.ts n).1.Sublist g[f].up.ts:=by
  have:=Vf i g[f].lo g[f].up.ts ([],n) [] (List.Sublist.refl _);simpa[insF] using this
 have J:∀ t,t∈g[f].lo.ts->t∈(insF i g[f].lo g[f].up.ts n).1:=fun t h=>pJ i g[f].lo t h g[f].up.ts ([],n) (.inr (j t h))
 obtain⟨P,R⟩:=JY (g[f].lo.ts++ts);unfold unR;rw[r];congr 1;refine kD P (C.sublist o) fun x=>?_
 rw[R,qG,l x,pL];constructor
 .rintro (h|⟨_,h⟩)
  .exact J x h
  .exact h
 .intro h
  by_cases p:x∈g[f].lo.ts
  .exact .inl p
  .exact .inr ⟨⟨o.subset h,p⟩,h⟩
theorem qf9(sc:Sc)(l:List Bool)(g:List Bd)(i:List (List Bool))(N k:Nat)(hN:sc.steps=N)(hk:k<N)
  (ha:∀ b,b∈g->b.lo.ar=b.up.ar) (hs:∀ b,b∈g->sorted b.up.ts) (p:∀ b,b∈g->∀ t,t∈b.lo.ts->t∈b.up.ts) :
  anyM sc l g i k∈uS sc l g (chs l (qE g 0) N) N:=by
 refine pG.2 ⟨k,(chs l (qE g 0) N).filter fun c=>decide (c.2.2∈((zV g (i.getD c.1.toNat [])).getD c.2.1.toNat noR).ts),hk,List.filter_sublist,?_⟩;unfold anyM yA;have I:sc.steps.toNat=N:=by omega
 rw[I];congr 1;refine List.map_congr_left fun s o=>?_
 rw[yk]at o;have key:∀(s f:Nat) (hf:f<g.length),s<N->(s=0\/l.getD f true=true) ->
   vy ((chs l (qE g 0) N).filter fun c=>decide (c.2.2∈((zV g (i.getD c.1.toNat [])).getD c.2.1.toNat noR).ts)) s f g[f]=(zV g (i.getD s [])).getD f noR:=fun s f hf J hc=>by
  have P:=qy hf;refine qf8 g (i.getD s []) f hf (ha _ P) (hs _ P) (p _ P) _ fun t=>?_
  rw[pH,y9,pI];simp only[decide_eq_true_eq,Int.toNat_natCast];constructor
  .rintro ⟨⟨_,_,_,h⟩,C⟩;exact⟨h,C⟩
  .rintro ⟨h,C⟩;exact⟨⟨J,hc,hf,h⟩,C⟩
 refine List.ext_getElem (by rw[pw,Ze]) fun f T C=>?_
 have hf:f<g.length:=by rw[pw]at T;exact T
 rw[Yk _ _ _ _ _ hf];have U:∀ j,f<(zV g j).length:=fun j=>by rw[w8];exact hf
 have hg:∀ j,(zV g j)[f]'(U j)=(zV g j).getD f noR:=fun j=>by rw[za,qz (U j)];rfl
 by_cases R:s=0
 .subst R
  rw[if_neg (by simp),key 0 f hf o (.inl rfl)];simp only[anyS,if_true];exact hg _
 .simp only[anyS,if_neg R,List.getElem_mapIdx]
  by_cases r:l.getD f true=true
  .rw [if_pos r,if_neg (fun e=>by rw[r]at e;exact absurd e.2 (by simp)),key s f hf o (.inr r)]
   exact hg _
  .rw [if_neg r,if_pos ⟨R,by simpa using r⟩,key 0 f hf (by omega) (.inl rfl)]
end GZ
namespace GN
open E3
instance:DecidableEq Sc:=fun a b=>decidable_of_iff (a.atoms=b.atoms/\a.steps=b.steps) (by
 obtain⟨a1,a2⟩:=a;obtain⟨b1,b2⟩:=b;simp)
instance:DecidableEq Md:=fun a b=>decidable_of_iff (a.sc=b.sc/\a.states=b.states/\a.loop=b.loop) (by
 obtain⟨a1,a2,a3⟩:=a;obtain⟨b1,b2,b3⟩:=b;simp)
end GN
namespace GV
open E3 F1 GH
theorem qgA(l:List Md):HF (lMd l):=HF.lst fun r i c g=>by
 obtain⟨n,_,rfl⟩:=qp.1 i;simp at g;rcases g with rfl|rfl|rfl|rfl<;>first|exact HF.sc _|exact zi _|exact Z9 _
def mdZ:Md:=⟨⟨[],0⟩,[],0⟩
theorem qgB(mu:Mu):Rd mu (.agg [.lst true [],aI 0,.lst true [],aI 0]) (eMd mdZ):=
 Rd.aggs ⟨.wk _ true _ (.hf _ (HF.lst fun r g=>by simp at g)),.hf _ (HF.sc _),.wk _ true _ (.hf _ (HF.lst fun r g=>by simp at g)),.hf _ (HF.sc _),trivial⟩
end GV
namespace GW
open YF P1 E1 E4 E9 EL EO ER EW GA GF G5 GQ GR
theorem pM:∀(l:List Int) (x i:Int),0<=x->ud l x i = -1\/∃(j:Nat) (h:j<l.length),ud l x i=i+j/\0<=x-sumI (l.take j)/\x-sumI (l.take j)<l[j]
 | [],x,i,_ => .inl rfl
 |a :: l,x,i,h=>by
  rw[ud];by_cases g:x<a
  .exact .inr ⟨0,by simp,by simp[g],by simp[sumI];exact h,by simp[sumI];exact g⟩
  .rw [if_neg g]
   rcases pM l (x-a) (i+1) (by omega) with e|⟨j,o,p,r,t⟩
   .exact .inl e
   .refine .inr ⟨j+1,by simpa using o,by rw[p];push_cast;omega,?_,?_⟩
    .simp only[List.take_succ_cons,sumI,List.foldr_cons]at r⊢;omega
    .simp only[List.take_succ_cons,sumI,List.foldr_cons,List.getElem_cons_succ]at t⊢;omega
def Ym(n:Int)(ds:List Int)(p:Int):Int:=ds.foldl (fun p d=>p*n+d) p
theorem pN(n:Int)(i:0<n):∀(k:Nat) (r:Int),0<=r->r<n ^ k->Ym n (digs n k r) 0=r
 | 0,r,j,g=>by
  have:r=0:=by rw[Int.pow_zero]at g;omega
  subst this;rfl
 |k+1,r,j,g=>by
  have l:r / n<n ^ k:=Int.ediv_lt_of_lt_mul i (by rw[<-Int.pow_succ];exact g);rw[digs,Ym,Qe];show Ym n (digs n k (r / n)) 0*n+r % n=r;rw[pN n i k (r / n) (Int.ediv_nonneg j (by omega)) l,Int.mul_comm];exact Int.mul_ediv_add_emod r n
theorem pO(sc:Sc)(J:∀ a,a∈sc.atoms->0<=a):∀(l ds:List Int) (p:Int),ds.length=l.length->(∀ s,s∈l->0<=s)->(∀(i:Nat) (h:i<ds.length) (h2:i<l.length),0<=ds[i]/\vt sc ds[i]=l[i])->Ym (sumI sc.atoms) ds p∈tupR sc l p
 | [],[],p,_,_,_=>by simp[tupR,Ym]
 |s :: l,d :: ds,p,o,I,h=>by
  rw[tupR,Qf];obtain⟨r,g⟩:=h 0 (by simp) (by simp);simp only[List.getElem_cons_zero]at r g;have P:=I s (by simp);rcases pM sc.atoms d 0 r with e|⟨j,R,T,e2,e3⟩
  .rw [vt,e]at g;omega
  .rw [vt,T]at g
   have t:s.toNat=j:=by omega
   have U:gI sc.atoms s.toNat=sc.atoms[j]:=by rw[t];exact v6 R
   refine⟨(d-sumI (sc.atoms.take j)).toNat,yk.2 (by rw[U];omega),?_⟩;have:=pO sc J l ds (p*sumI sc.atoms+d) (by simpa using o) (fun s hs=>I s (by simp[hs])) (fun i hi C=>h (i+1) (by simpa using hi) (by simpa using C));rw[t,show sumI (sc.atoms.take j)+((d-sumI (sc.atoms.take j)).toNat:Int)=d by omega];exact this
 | [],_ :: _,_,o,_,_=>by simp at o
 |_ :: _,[],_,o,_,_=>by simp at o
theorem qgC(sc:Sc)(g:GSc sc)(C:0<sumI sc.atoms)(l:List Int)(R:l.length<=3)(T:∀ s,s∈l->0<=s/\s<sc.atoms.length):∀ x,x∈zU sc l->x∈tupR sc l 0:=fun x I=>by
 have j:=g.sum sc.atoms.length;rw[q8]at j;have U:=Za (sumI sc.atoms) j.1 j.2 l.length R;unfold zU jr at I;obtain⟨r,hr,rfl⟩:=qp.1 I;obtain⟨h1,h2⟩:=y9.1 hr;rw[yk]at h1;have p:(r:Int)<sumI sc.atoms ^ l.length:=by omega
 have hf:=pN (sumI sc.atoms) C l.length r (by omega) p;have J:=pO sc (fun a ha=>(g.2 a ha).1) l (digs (sumI sc.atoms) l.length r) 0 (Zb _ _ _) (fun s t=>(T s t).1) (fun i P o=>?_)
 .rw [hf]at J;exact J
 .have hd:=Wt (sumI sc.atoms) C j.2 l.length r _ (qy P)
  refine⟨hd.1,?_⟩;have:=UP.1 h2 i o;rw[v6 P,v6 o]at this;simpa using this
theorem qgD(ts:TS)(sc:Sc)(F:Fit9 ts sc)(t:yp sc=true):qe qc 82 [eTS ts,eSc sc] (aB true):=by
 have P:=F.g;simp only[yp,qr,decide_eq_true_eq,qH]at t;obtain⟨h1,R,T,U,h5⟩:=t;have p:=F.ns;refine qSV call82 func82 rfl ?_;have n1:¬(4:Int)<sc.atoms.length:=by omega
 simp[go_sem,n1,p];have C:=fun a b c:Int=>Yb a b c
 refine qd.pure (C sc.steps 1 4) (wk3I _ _ _) ?_;simp[go_sem,R,T];refine qk.upK sc.atoms.length (fun k st=>st.tm 2 = .ip (cTS ts)/\st.tm 3 = .ip [lI sc.atoms,aI sc.steps]/\st.tm 27=lI sc.atoms/\st.tm 28=aI sc.atoms.length/\st.tm 29=aI k) ?_ ?_
 .exact ⟨by simp[go_sem],by simp[go_sem],by simp[go_sem],by simp[go_sem],by simp[go_sem]⟩
 rintro k st hk ⟨e2,I,o,j,l⟩;by_cases i:k<sc.atoms.length
 .have w1:qi.wrap ((k:Int)+1)=(k:Int)+1:=qg (by omega) (by omega)
  have J:=U _ (qy i);simp[go_sem,o,j,l,i];refine qd.pure (C sc.atoms[k] 1 5) (wk3I _ _ _) ?_;simp[go_sem,l,i,J.1,J.2,w1]
  try refine⟨i,Keep.mk' ?_⟩
  try refine Keep.mk' ?_
  exact⟨by simp[go_sem,e2],by simp[go_sem,I],by simp[go_sem,o],by simp[go_sem,j],by simp[go_sem]⟩
 .have r:k=sc.atoms.length:=by omega
  simp[go_sem,I,j,l,r];refine qd.pure (J0 sc P) (.cons (.hf (zA sc)) .nil) ?_;simp[go_sem,h5];exact .hf _ (HF.sc _)
theorem qgE(n:Int)(r:Rl)(U:0<=n)(a0:n<=12)(k:Nat)(hk:r.ar=k)(k1:1<=k)(k3:k<=3)(hl:r.ts.length<=1000000000)(hs:r.ts.Pairwise (·<·))(P:∀ t,t∈r.ts->0<=t/\t<n ^ k):qe qc 109 [aI n,eRel r] (aB true):=by
 have C:=qdT n U (by omega) k k3;refine qSV call109 func109 rfl ?_;have n1:¬n<0:=by omega
 have n2:¬ 12<n:=by omega
 have n3:¬r.ar<1:=by omega
 have n4:¬ 3<r.ar:=by omega
 simp[go_sem,n1,n2,n3,n4];refine qk.upK r.ts.length (fun j st=>st.tm 0=aI n/\st.tm 3 = .ip [aI r.ar,lI r.ts]/\st.tm 25=lI r.ts/\st.tm 26=aI r.ts.length/\st.tm 27=aI j/\∃ last:Int,st.tm 5=aI last/\∀(i:Nat) (h:i<r.ts.length),j<=i->last<r.ts[i]) ?_ ?_
 .exact ⟨by simp[go_sem],by simp[go_sem],by simp[go_sem],by simp[go_sem],by simp[go_sem],-1,by simp[go_sem],fun i h _=>by have:=(P _ (qy h)).1;omega⟩
 rintro j st hj ⟨R,T,p,l,o,last,e5,I⟩;by_cases g:j<r.ts.length
 .have w1:qi.wrap ((j:Int)+1)=(j:Int)+1:=qg (by omega) (by omega)
  have a1:=I j g (qs _);have a2:=P _ (qy g);have m1:¬r.ts[j]<=last:=by omega
  have m2:¬n ^ k<=r.ts[j]:=by omega
  simp[go_sem,R,T,p,l,o,e5,g,m1];refine qd.pure C (by rw[hk];exact .cons (.hf (HF.sc _)) (.cons (.hf (HF.sc _)) .nil)) ?_;simp[go_sem,o,g,m2,w1]
  try refine⟨g,Keep.mk' ?_⟩
  try refine Keep.mk' ?_
  exact⟨by simp[go_sem,R],by simp[go_sem,T],by simp[go_sem,p],by simp[go_sem,l],by simp[go_sem],r.ts[j],by simp[go_sem],fun i h hi=>List.pairwise_iff_getElem.1 hs j i g h (by omega)⟩
 .have J:j=r.ts.length:=by omega
  simp[go_sem,l,o,J];exact .hf _ (HF.sc _)
structure BndV (ts:TS) (sc:Sc) (bs:List Bd):Prop where
 len:bs.length=ts.fields.length
 lo:∀(i:Nat) (h:i<bs.length) (h2:i<ts.fields.length),bs[i].lo.ar=ts.fields[i].sorts.length/\bs[i].up.ar=ts.fields[i].sorts.length
 so:∀ b,b∈bs->b.lo.ts.Pairwise (·<·)/\b.up.ts.Pairwise (·<·)
 sub:∀ b,b∈bs->∀ t,t∈b.lo.ts->t∈b.up.ts
 full:∀(i:Nat) (h:i<bs.length) (h2:i<ts.fields.length),∀ t,t∈bs[i].up.ts->t∈zU sc ts.fields[i].sorts
theorem pP{a b:Rl}(h:∀ t,t∈a.ts->t∈b.ts):(diR a b).ts=[]:=by
 simp only[diR,List.filter_eq_nil_iff];intro t g;simp[h t g]
theorem qgF(sc:Sc)(l:List Int):∀ t,t∈zU sc l->0<=t/\t<(sumI sc.atoms ^ l.length).toNat:=fun t g=>qfM _ _ _ t g
theorem pQ(sc:Sc)(g:GSc sc)(l:List Int)(j:l.length<=3):(zU sc l).length<=8000:=by
 have i:=g.sum sc.atoms.length;rw[q8]at i;have o:=Za (sumI sc.atoms) i.1 i.2 l.length j;refine zY (Wu _ _ _) ?_;omega
theorem WJ{a b:List Int}(g:a.Pairwise (·<·))(h:∀ t,t∈a->t∈b):a.length<=b.length:=jU (qeM g) h
theorem relT(ts:TS)(sc:Sc)(F:Fit9 ts sc)(l:sumI sc.atoms<=12)(f:Fld)(hf:f∈ts.fields)(r:Rl)(o:r.ar=f.sorts.length)(C:r.ts.Pairwise (·<·))(i:∀ t,t∈r.ts->t∈zU sc f.sorts):qe qc 109 [aI (sumI sc.atoms),eRel r] (aB true)/\r.ts.length<=8000:=by
 have R:=WJ C i;have I:=pQ sc F.g f.sorts (F.f1 f hf).2;have T:=F.p;have j:=F.g.sum sc.atoms.length;rw[q8]at j;have J:=Za (sumI sc.atoms) j.1 j.2 f.sorts.length (F.f1 f hf).2;exact⟨qgE _ r (by omega) l f.sorts.length o (F.f1 f hf).1 (F.f1 f hf).2 (by omega) C fun t P=>by have:=qgF sc f.sorts t (i t P);omega,by omega⟩
theorem pR(ts:TS)(sc:Sc)(F:Fit9 ts sc)(f:Fld)(hf:f∈ts.fields)(r:Rl)(J:r.ts.length<=8000)(i:∀ t,t∈r.ts->t∈zU sc f.sorts):qe qc 97 [eRel r,eRel ⟨f.sorts.length,tupR sc f.sorts 0⟩] (aB true):=by
 have j:=U8 sc F.g (fun a l=>(F.g.2 a l).1) f.sorts (F.fs f hf) 0;have o:=(F.f1 f hf).2;have C:(20:Nat) ^ f.sorts.length<=8000:=by
  rcases (show f.sorts.length=0\/f.sorts.length=1\/f.sorts.length=2\/f.sorts.length=3 by omega) with e|e|e|e<;>rw[e]<;>decide
 have h:=inU r ⟨f.sorts.length,tupR sc f.sorts 0⟩ (by omega) (by show (tupR sc f.sorts 0).length<=_;omega)
 rwa[pP fun t I=>qgC sc F.g F.p f.sorts o (F.fs f hf) t (i t I),decide_eq_true rfl]at h
theorem qgG(fs:List Fld)(p:List Bd)(T:p.length=fs.length)(hn:fs.length<=1000000)(r:AV)(j:j1)(caps:List AV)(t:r = .fn (.func j) [] caps)(U:HF r)
  (h:∀(i:Nat) (h1:i<fs.length) (h2:i<p.length),∃ args',WKs ([JO fs[i],eBd p[i]]++caps) args'/\qe qc j args' (aB true)) :
  qe qc 163 [.lst false (fs.map jo),lBd p,r] (aB true):=by
 subst t;refine qSV call163 func163 rfl ?_;simp[go_sem,T];refine qk.upK fs.length (fun k st=>st.tm 0 = .lst false (fs.map jo)/\st.tm 1=lBd p/\st.tm 2 = .fn (.func j) [] caps/\st.tm 14=aI fs.length/\st.tm 15=aI k) ?_ ?_
 .exact ⟨by simp[go_sem],by simp[go_sem],by simp[go_sem],by simp[go_sem],by simp[go_sem]⟩
 rintro k st hk ⟨J,P,R,l,o⟩;by_cases g:k<fs.length
 .have w1:qi.wrap ((k:Int)+1)=(k:Int)+1:=qg (by omega) (by omega)
  obtain⟨args',hw,hc⟩:=h k g (by omega);have C:k<p.length:=by omega
  simp[go_sem,l,o,g];refine qm.intro (by kernel_rfl) ?_;simp[go_sem,J,P,R,g,C];refine qd.clo hc (by simpa using hw) ?_;simp[go_sem,o,g,w1]
  try refine⟨g,Keep.mk' ?_⟩
  try refine Keep.mk' ?_
  exact⟨by simp[go_sem,J],by simp[go_sem,P],by simp[go_sem,R],by simp[go_sem,l],by simp[go_sem]⟩
 .have I:k=fs.length:=by omega
  simp[go_sem,l,o,I];exact .hf _ (HF.sc _)
theorem qnP(ts:TS)(sc:Sc)(l:List Bd)(F:Fit9 ts sc)(a0:sumI sc.atoms<=12)(B:BndV ts sc l):qe qc 83 [eTS ts,eSc sc,lBd l] (aB true):=by
 have a8:=F.nf;have a4:∀(i:Nat) (T:i<ts.fields.length) (U:i<l.length),qe qc 164 [JO ts.fields[i],eBd l[i],.ip [aI (sumI sc.atoms)],.ip [lI sc.atoms,aI sc.steps]] (aB true):=fun i T U=>by
  obtain⟨a1,a2⟩:=B.lo i U T;have o:=qy T;have J:=qy U;obtain⟨s1,s2⟩:=B.so _ J;have P:=B.full i U T;have a5:∀ t,t∈l[i].lo.ts->t∈zU sc ts.fields[i].sorts:=fun t ht=>P t (B.sub _ J t ht)
  obtain⟨v1,l1⟩:=relT ts sc F a0 _ o l[i].lo a1 s1 a5;obtain⟨v2,l2⟩:=relT ts sc F a0 _ o l[i].up a2 s2 P;have i1:=inU l[i].lo l[i].up (by omega) (by omega);rw[pP (B.sub _ J),decide_eq_true rfl]at i1;have i2:=pR ts sc F _ o l[i].up l2 P;have a6:=EW.Yc sc F.g (fun a ha=>(F.g.2 a ha).1) ts.fields[i].sorts (F.fs _ o) (F.f1 _ o).1 (F.f1 _ o).2;have w2:∀ r:Rl,WKs [aI (sumI sc.atoms),eRel r] [aI (sumI sc.atoms),eRel r]:=fun r => .cons (.hf (HF.sc _)) (.cons (.hf (z8 _)) .nil)
  have wr:∀(r:Rl) (x:Int),r.ar=x->WK (.agg [aI x,lI r.ts]) (eRel r):=fun r x e=>by subst e;exact .hf (z8 r)
  have wa:=wr l[i].lo _ a1;have wb:=wr l[i].up _ a2;refine qSV call164 func164 rfl ?_;simp[go_sem,a1,a2];refine qd.pure v1 (.cons (.hf (HF.sc _)) (.cons wa .nil)) ?_;simp[go_sem,a2];refine qd.pure v2 (.cons (.hf (HF.sc _)) (.cons wb .nil)) ?_;simp[go_sem];refine qm.intro (by kernel_rfl) ?_;simp[go_sem,a1,a2];refine qd.pure i1 (.cons wa (.cons wb .nil)) ?_;simp[go_sem,a2];refine qd.pure a6 (.cons (.hf (zA _)) (.cons (.hf (zi _)) .nil)) ?_;simp[go_sem];refine qd.pure i2 (.cons wb (.cons (.hf (z8 _)) .nil)) ?_;simp[go_sem];exact .hf _ (HF.sc _)
 have j:HF (.ip [lI sc.atoms,aI sc.steps]):=HF.ip fun c p=>by simp at p;rcases p with rfl|rfl;exact zi _;exact HF.sc _
 have I:HF (.ip [aI (sumI sc.atoms)]):=HF.ip fun c p=>by simp at p;subst p;exact HF.sc _
 have a3:HF (.fn (.func 164) [] [.ip [aI (sumI sc.atoms)],.ip [lI sc.atoms,aI sc.steps]]):=HF.fn (fun c p=>by simp at p) (fun c p=>by simp at p;rcases p with rfl|rfl;exact I;exact j);have C:=qgG ts.fields l B.len (by omega) _ _ _ rfl a3 fun i T U=>⟨_,by simpa using WKs.cons (.hf (kh _)) (.cons (.hf (Wk _)) (.cons (.hf I) (.cons (.hf j) .nil))),a4 i T U⟩
 refine qSV call83 func83 rfl ?_;simp[go_sem];refine qd.pure (J0 sc F.g) (.cons (.hf (zA sc)) .nil) ?_;simp[go_sem];refine qd.eff0 (qP.freeze (args1:=[.lst false (ts.fields.map jo),lBd l,.fn (.func 164) [] [.ip [aI (sumI sc.atoms)],.ip [lI sc.atoms,aI sc.steps]]]) (fun _=>true) ⟨.inl rfl,.inl rfl,.inr ?_,trivial⟩ (qe.toSound _ C (.cons (.hf (U0 ts.fields)) (.cons (.hf (j6 _)) (.cons (.hf a3) .nil))))) ?_ ?_
 .refine .fn _ _ _ _ _ rfl rfl (fun k x y R hy=>by simp at R) (fun k x y R hy=>?_)
  match k with
  | 0=>simp at R hy;subst R;subst hy;exact ER.Rd.ip1 (x:=aI (sumI sc.atoms)) (by simp[cutM]) (.hf _ (HF.sc _))
  | 1=>simp at R hy;subst R;subst hy;exact .hf _ j
  |k+2=>simp at R
 .rintro r m ⟨h,rfl⟩
  cases h;simp[go_sem];exact .hf _ (HF.sc _)
 .rintro r m ⟨h,_⟩
  cases h
end GW
namespace GX
open YF P1 E3 E4 EO ER G5 GQ GR GW
theorem qgH(xs:List Int)(l:AV)(p:Int->Bool)(hf:EO.FnOk qc l (fun x=>aI x) (·∈xs) (fun x=>aB (p x)))(R:xs.length<=1000000000):qe qc 248 [lI xs,l] (aI (jQ p xs 0)):=by
 refine qSV call248 func248 rfl ?_;simp[go_sem];refine qk.up xs.length (fun k st=>st.tm 0=lI xs/\st.tm 1=l/\st.tm 7=aI xs.length/\st.tm 8=aI k/\st.mu=[]/\jQ p (xs.drop k) k=jQ p xs 0) ?_ ?_
 .simp [go_sem]
 rintro k st T ⟨C,I,o,r,J,i⟩;by_cases g:k<xs.length
 .rw [kJ _ _ _ _ g]at i
  simp[go_sem,C,I,o,r,J,g];refine FnOk.call (enc:=fun x=>aI x) hf (qy g) ?_;by_cases j:p xs[k]=true
  .rw [if_pos j]at i
   simp[go_sem,j];rw[<-i];exact .hf _ (HF.sc _)
  .rw [if_neg j]at i
   simp only[Bool.not_eq_true]at j;simp[go_sem,C,I,o,r,g,j];exact⟨qg (by omega) (by omega),i⟩
 .have t:k=xs.length:=by omega
  subst t;rw[yH]at i;simp[go_sem,o,r,J];rw[<-i];exact .hf _ (HF.sc _)
theorem qgI(xs:List Int)(g:AV)(p:Int->Bool)(hf:EO.FnOk qc g (fun x=>aI x) (·∈xs) (fun x=>aB (p x)))(i:xs.length<=1000000000):qe qc 186 [lI xs,g] (aB (xs.any p)):=by
 refine qSV call186 func186 rfl ?_;simp[go_sem];refine qd.pure (qgH xs g p hf i) (.cons (.hf (zi _)) (.cons (.hf hf.1) .nil)) ?_;rw[<-U6 p xs 0 (by omega)];simp[go_sem];exact .hf _ (HF.sc _)
theorem qgJ(ts:TS)(sc:Sc)(F:Fit9 ts sc)(f:Fld)(hf:f∈ts.fields):qe qc 108 [eTS ts,JO f] (aB true):=by
 have t:=F.f1 f hf;have o:=F.fs f hf;have C:=F.ns;have i:HF (.ip (cTS ts)):=HF.ip fun c g=>JV _ c g
 have p:∀ s,s∈f.sorts->qe qc 187 [aI s,.ip (cTS ts)] (aB false):=fun s I=>by
  have:=o s I;have r:¬s<0:=by omega
  have J:¬(ts.sorts.length:Int)<=s:=by omega
  refine qSV call187 func187 rfl ?_;simp[go_sem,r,J];exact .hf _ (HF.sc _)
 have j:HF (.fn (.func 187) [] [.ip (cTS ts)]):=HF.fn (fun c g=>by simp at g) (fun c g=>by simp only[qN]at g;subst g;exact i);have l:=qgI f.sorts (.fn (.func 187) [] [.ip (cTS ts)]) (fun _=>false) ⟨j,_,[],_,rfl,fun x P=>⟨[aI x,.ip (cTS ts)],by simpa using WKs.cons (.hf (HF.sc _)) (.cons (.hf i) .nil),p x P⟩⟩ (by omega);rw[show (f.sorts.any fun _=>false)=false by simp]at l;refine qSV call108 func108 rfl ?_;have r:¬(f.sorts.length:Int)<1:=by omega
 have R:¬(3:Int)<f.sorts.length:=by omega
 simp[go_sem,r,R];refine qd.pure l (.cons (.hf (zi _)) (.cons (.hf j) .nil)) ?_;simp[go_sem];exact .hf _ (HF.sc _)
structure MdV (ts:TS) (m:Md):Prop where
 f:Fit9 ts m.sc
 z:yp m.sc=true
 ns:(m.states.length:Int)=m.sc.steps
 l0:0<=m.loop
 l1:m.loop<m.states.length
 len:∀ s,s∈m.states->s.length=ts.fields.length
 ar:∀ s,s∈m.states->∀(i:Nat) (h:i<s.length) (h2:i<ts.fields.length),s[i].ar=ts.fields[i].sorts.length/\s[i].ts.Pairwise (·<·)/\∀ t,t∈s[i].ts->t∈zU m.sc ts.fields[i].sorts
 fix:∀(k:Nat) (h:k<m.states.length) (h0:0<m.states.length) (i:Nat) (h1:i<m.states[k].length) (h3:i<m.states[0].length) (h2:i<ts.fields.length),ts.fields[i].var=false->m.states[k][i]=m.states[0][i]
theorem qgK{sc:Sc}(h:yp sc=true):sumI sc.atoms<=12:=by
 simp only[yp,qr,decide_eq_true_eq]at h;exact h.2.2.2.2
theorem qgL(ts:TS)(m:Md)(V:MdV ts m):qe qc 40 [eTS ts,eMd m] (aB true):=by
 have F:=V.f;have a9:=V.ns;have al:=V.l0;have an:=V.l1;have ao:=F.s1;have aq:=F.s4;have au:=F.nf;have af:=qgK V.z;refine qSV call40 func40 rfl ?_;simp[go_sem];refine qd.pure (qgD ts m.sc F V.z) (.cons (.hf (zq _)) (.cons (.hf (zA _)) .nil)) ?_;have n1:¬m.loop<0:=by omega
 have n2:¬(m.states.length:Int)<=m.loop:=by omega
 simp[go_sem,a9,n1];have n3:¬m.sc.steps<=m.loop:=by omega
 simp[go_sem,n3];refine qd.pure (J0 m.sc F.g) (.cons (.hf (zA _)) .nil) ?_;simp[go_sem];refine qk.upK ts.fields.length (fun k st=>st.tm 2 = .ip (cTS ts)/\st.tm 3 = .ip (cMd m)/\st.tm 5=aI (sumI m.sc.atoms)/\st.tm 44 = .lst false (ts.fields.map jo)/\st.tm 45=aI ts.fields.length/\st.tm 46=aI k) ?_ ?_
 .exact ⟨by simp[go_sem],by simp[go_sem],by simp[go_sem],by simp[go_sem],by simp[go_sem],by simp[go_sem]⟩
 rintro k st hk ⟨I,C,J,a5,R,T⟩;by_cases i:k<ts.fields.length
 .have w1:qi.wrap ((k:Int)+1)=(k:Int)+1:=qg (by omega) (by omega)
  simp[go_sem,I,a5,R,T,i];refine qd.pure (qgJ ts m.sc F _ (qy i)) (.cons (.hf (zq _)) (.cons (.hf (kh _)) .nil)) ?_;simp[go_sem,T,i,w1]
  try refine⟨i,Keep.mk' ?_⟩
  try refine Keep.mk' ?_
  exact⟨by simp[go_sem,I],by simp[go_sem,C],by simp[go_sem,J],by simp[go_sem,a5],by simp[go_sem,R],by simp[go_sem]⟩
 have U:k=ts.fields.length:=by omega
 simp[go_sem,C,R,T,U];refine qk.upK m.states.length (fun k st=>st.tm 2 = .ip (cTS ts)/\st.tm 3 = .ip (cMd m)/\st.tm 5=aI (sumI m.sc.atoms)/\st.tm 56=lSt m.states/\st.tm 57=aI m.states.length/\st.tm 58=aI k) ?_ ?_
 .exact ⟨by simp[go_sem,I],by simp[go_sem,C],by simp[go_sem,J],by simp[go_sem],by simp[go_sem,a9],by simp[go_sem]⟩
 clear I C J a5 R T hk i U k st;rintro k st hk ⟨I,C,J,p,l,o⟩;by_cases i:k<m.states.length
 .have w1:qi.wrap ((k:Int)+1)=(k:Int)+1:=qg (by omega) (by omega)
  have aa:=qy i;have ab:=V.len _ aa;simp[go_sem,I,p,l,o,i,ab];refine qk.upK ts.fields.length (fun j st=>st.tm 2 = .ip (cTS ts)/\st.tm 3 = .ip (cMd m)/\st.tm 5=aI (sumI m.sc.atoms)/\st.tm 56=lSt m.states/\st.tm 57=aI m.states.length/\st.tm 58=aI k/\st.tm 9=lRel m.states[k]/\st.tm 69 = .lst false (ts.fields.map jo)/\st.tm 70=aI ts.fields.length/\st.tm 71=aI j) ?_ ?_
  .exact ⟨by simp[go_sem,I],by simp[go_sem,C],by simp[go_sem,J],by simp[go_sem,p],by simp[go_sem,l],by simp[go_sem,o],by simp[go_sem],by simp[go_sem],by simp[go_sem],by simp[go_sem]⟩
  clear I C J p l o st;rintro j st hj ⟨I,C,J,p,l,o,e9,a6,a0,a4⟩;by_cases t:j<ts.fields.length
  .have w2:qi.wrap ((j:Int)+1)=(j:Int)+1:=qg (by omega) (by omega)
   have a7:j<m.states[k].length:=by omega
   have a8:0<m.states.length:=by omega
   have ad:j<m.states[0].length:=by rw[V.len _ (qy a8)];exact t
   obtain⟨a1,a2,a3⟩:=V.ar _ aa j a7 t;have ae:=V.fix k i a8 j a7 ad t;have P:=qy t;obtain⟨v1,l1⟩:=relT ts m.sc F af _ P _ a1 a2 a3;have i2:=pR ts m.sc F _ P _ l1 a3;have ag:=EW.Yc m.sc F.g (fun a ha=>(F.g.2 a ha).1) ts.fields[j].sorts (F.fs _ P) (F.f1 _ P).1 (F.f1 _ P).2;have heq:=qd2 m.states[k][j] m.states[0][j] (by omega);generalize hr:m.states[k][j]=r at *
   generalize ah:m.states[0][j]=r0 at *
   simp[go_sem,e9,a6,a0,a4,t,a7,hr];have wr:WK (.agg [aI ts.fields[j].sorts.length,lI r.ts]) (eRel r):=by rw[<-a1];exact .hf (z8 r)
   have ai:WK (.agg [lI m.sc.atoms,aI m.sc.steps]) (eSc m.sc) := .hf (zA _);generalize hX:st.mu.length=X at *
   refine qm.intro (by kernel_rfl) ?_;have g0:∀ a b:Cell,(st.mu++[a,b])[X]?=some a:=fun a b=>by rw[qV (by omega),hX,Nat.sub_self];rfl
   have g1:∀ a b:Cell,(st.mu++[a,b])[X+1]?=some b:=fun a b=>by rw[qV (by omega),hX,Nat.add_sub_cancel_left];rfl
   simp[go_sem,J,hX,a1];refine qd.pure v1 (.cons (.hf (HF.sc _)) (.cons wr .nil)) ?_;simp[go_sem,C,hX];refine qd.pure ag (.cons ai (.cons (.hf (zi _)) .nil)) ?_;simp[go_sem];refine qd.pure i2 (.cons wr (.cons (.hf (z8 _)) .nil)) ?_;simp[go_sem];refine qm.intro (by kernel_rfl) ?_;cases hv:ts.fields[j].var with
   |true =>
    simp[go_sem,a4,t,hX,w2];exact Keep.mk' ⟨by simp[go_sem,I],by simp[go_sem,C],by simp[go_sem,J],by simp[go_sem,p],by simp[go_sem,l],by simp[go_sem,o],by simp[go_sem,e9],by simp[go_sem,a6],by simp[go_sem,a0],by simp[go_sem]⟩
   |false =>
    have aj:=ae hv;simp[go_sem,C,hX,a8,ad,ah];refine qd.pure heq (.cons wr (.cons (.hf (z8 _)) .nil)) ?_;rw[decide_eq_true aj];simp[go_sem,a4,t,w2];exact Keep.mk' ⟨by simp[go_sem,I],by simp[go_sem,C],by simp[go_sem,J],by simp[go_sem,p],by simp[go_sem,l],by simp[go_sem,o],by simp[go_sem,e9],by simp[go_sem,a6],by simp[go_sem,a0],by simp[go_sem]⟩
  .have ak:j=ts.fields.length:=by omega
   simp[go_sem,o,a0,a4,ak,w1]
   try refine⟨i,Keep.mk' ?_⟩
   try refine Keep.mk' ?_
   exact⟨by simp[go_sem,I],by simp[go_sem,C],by simp[go_sem,J],by simp[go_sem,p],by simp[go_sem,l],by simp[go_sem]⟩
 .have U:k=m.states.length:=by omega
  simp[go_sem,l,o,U];exact .hf _ (HF.sc _)
end GX
namespace HA
open P1 E1 GF GQ GR GS GU GW GX GZ
section
variable {g:List Bd}{ts:TS}
theorem pS(c:List Ch)(s f:Nat)(b:Bd)(t:Int):t∈(vy c s f b).ts↔t∈b.lo.ts\/((s:Int),(f:Int),t)∈c:=by
 unfold vy unR;rw[(JY _).2,qG,pH]
theorem pT(c:List Ch)(s f:Nat)(b:Bd):sorted (vy c s f b).ts:=(JY _).1
theorem pU{sc:Sc}(B:BndV ts sc g){i:List Bool}{N:Nat}{c:List Ch}(j:c.Sublist (chs i (qE g 0) N))(s f:Nat)(hf:f<g.length) :
  (∀ t,t∈g[f].lo.ts->t∈(vy c s f g[f]).ts)/\∀ t,t∈(vy c s f g[f]).ts->t∈g[f].up.ts:=by
 refine⟨fun t h=>(pS ..).2 (.inl h),fun t h=>?_⟩;rcases (pS ..).1 h with h|h
 .exact B.sub _ (qy hf) t h
 .obtain ⟨_,_,_,h⟩:=(pI ..).1 (j.subset h)
  exact((pL ..).1 h).1
theorem pV{sc:Sc}(B:BndV ts sc g){i:List Bool}{N:Nat}{c:List Ch}(j:c.Sublist (chs i (qE g 0) N))(s f:Nat)(hf:f<g.length)(l:f<(jh i g c s).length) :
  (jh i g c s)[f].ar=g[f].lo.ar/\sorted (jh i g c s)[f].ts/\(∀ t,t∈g[f].lo.ts->t∈(jh i g c s)[f].ts)/\∀ t,t∈(jh i g c s)[f].ts->t∈g[f].up.ts:=by
 rw[Yk _ _ _ _ _ hf];split
 .exact ⟨rfl,pT ..,pU B j _ _ hf⟩
 .exact ⟨rfl,pT ..,pU B j _ _ hf⟩
theorem qnQ{sc:Sc}(F:Fit9 ts sc)(z:yp sc=true)(B:BndV ts sc g){N k:Nat}(J:sc.steps=N)(hk:k<N){c:List Ch}(P:c.Sublist (chs (vsT ts) (qE g 0) N)):MdV ts (yA sc (vsT ts) g c N k):=by
 have l:∀ s,s∈(yA sc (vsT ts) g c N k).states->∃ j,s=jh (vsT ts) g c j:=fun s o=>by
  obtain⟨j,_,rfl⟩:=qp.1 o;exact⟨j,rfl⟩
 have C:(yA sc (vsT ts) g c N k).states.length=N:=by simp[yA]
 refine⟨F,z,by rw[C];exact J.symm,by simp[yA],by rw[C];simp only[yA];omega,fun s o=>?_,fun s o i h p=>?_,fun j h h0 i h1 h3 p R=>?_⟩
 .obtain ⟨j,rfl⟩:=l s o
  rw[Ze];exact B.len
 .obtain ⟨j,rfl⟩:=l s o
  have hf:i<g.length:=by rw[Ze]at h;exact h
  obtain⟨T,U,a3,a4⟩:=pV B P j i hf h;exact⟨T.trans (B.lo i hf p).1,U,fun t ht=>B.full i hf p t (a4 t ht)⟩
 .have hf:i<g.length:=by rw[B.len];exact p
  have r:(vsT ts).getD i true=false:=by
   rw[za];simp[p,R]
  simp only[yA,Zt,List.getElem_range,Yk _ _ _ _ _ hf];by_cases I:j=0
  .subst I;rfl
  .rw [if_pos ⟨I,r⟩,if_neg (by simp)]
end
end HA
namespace HB
end HB
namespace HC
end HC
namespace HD
end HD
namespace IG
end IG
namespace JH
open Y1 P1 YF E3 EW GF GH JB JE JF GP GR GS GU GY JG
def tsB:TS:=⟨[(bA [65],false)],[⟨bA [102],[0],true⟩],[],[]⟩
def scB(a s:Int):Sc:=⟨[a],s⟩
def bsB(l:List Int):List Bd:=[⟨⟨1,[]⟩,⟨1,l⟩⟩]
def l2:List Int:=[0,1]
def l5:List Int:=[0,1,2,3,4]
def pW:List (List AV×AV):=[([eSc (scB 2 1),lI [0]],eRel ⟨1,l2⟩),([eSc (scB 2 2),lI [0]],eRel ⟨1,l2⟩),([eSc (scB 5 3),lI [0]],eRel ⟨1,l5⟩)]
def pX:List (List AV×AV):=[([lBd (bsB l2)],lP [(0,0),(0,1)]),([lBd (bsB l5)],lP [(0,0),(0,1),(0,2),(0,3),(0,4)])]
noncomputable def K0:List (j1×je):=[(142,U1),(110,j5 (tabX pW)),(79,j5 (tabX pX))]
theorem pY:∀ p,p∈K0->jn qc p.1 p.2:=by
 intro p g;simp only[K0,qw,qI,or_false]at g;rcases g with rfl|rfl|rfl
 .exact qdQ
 .refine ZZ (Z0 fun p g=>?_)
  simp only[pW,qw,qI,or_false]at g;rcases g with rfl|rfl|rfl
  .exact Yc (scB 2 1) ⟨by decide,by decide⟩ (by decide) [0] (by intro s i;simp at i;subst i;decide) (by decide) (by decide)
  .exact Yc (scB 2 2) ⟨by decide,by decide⟩ (by decide) [0] (by intro s i;simp at i;subst i;decide) (by decide) (by decide)
  .exact Yc (scB 5 3) ⟨by decide,by decide⟩ (by decide) [0] (by intro s i;simp at i;subst i;decide) (by decide) (by decide)
 .refine ZZ (Z0 fun p g=>?_)
  simp only[pX,qw,qI,or_false]at g;rcases g with rfl|rfl
  .exact Wl (bsB l2) (by decide) (by intro x j;simp[bsB]at j;subst j;exact⟨by decide,by decide,by decide⟩)
  .exact Wl (bsB l5) (by decide) (by intro x j;simp[bsB]at j;subst j;exact⟨by decide,by decide,by decide⟩)
theorem wt:qZ qc (envL K0):=Wp pY
def insM(s:Int)(N:Nat):List Md:=uS (scB 2 s) (vsT tsB) (bsB l2) (chs (vsT tsB) (qE (bsB l2) 0) N) N
theorem insB(s:Int)(N:Nat)(l:s=N)(r:N<=2)(i:(chs (vsT tsB) (qE (bsB l2) 0) N).length<=14)(j:N*2 ^ (chs (vsT tsB) (qE (bsB l2) 0) N).length<=16384)
  (o:qe qc 82 [eTS tsB,eSc (scB 2 s)] (aB true)) (p:qe qc 83 [eTS tsB,eSc (scB 2 s),lBd (bsB l2)] (aB true)) :
  qe qc 29 [eTS tsB,eSc (scB 2 s),lBd (bsB l2)] (.tup [lMd (insM s N),aI 0]):=
 qf6 tsB (scB 2 s) (bsB l2) N l (by omega) (by decide) (by intro x g;simp[bsB]at g;subst g;exact⟨by decide,by decide,by decide⟩) (by intro x g;simp[bsB]at g;subst g;exact⟨by decide⟩) (by decide) (by decide) i j o p
theorem insB1:qe qc 29 [eTS tsB,eSc (scB 2 1),lBd (bsB l2)] (.tup [lMd (insM 1 1),aI 0]):=
 insB 1 1 rfl (by omega) (by decide +kernel) (by decide +kernel) (uR wt (n:=1000) (by kernel_rfl)) (uR wt (n:=1000) (by kernel_rfl))
theorem insB2:qe qc 29 [eTS tsB,eSc (scB 2 2),lBd (bsB l2)] (.tup [lMd (insM 2 2),aI 0]):=
 insB 2 2 rfl (by omega) (by decide +kernel) (by decide +kernel) (uR wt (n:=1000) (by kernel_rfl)) (uR wt (n:=1000) (by kernel_rfl))
theorem insB3:qe qc 29 [eTS tsB,eSc (scB 2 1),.lst false []] (.tup [lMd [],aI 1]):=uR wt (n:=1000) (by kernel_rfl)
theorem insB4:qe qc 29 [eTS tsB,eSc (scB 5 3),lBd (bsB l5)] (.tup [lMd [],aI 2]):=uR wt (n:=1000) (by kernel_rfl)
def pZ:List (List AV×AV):=[([eTS tsB,eSc (scB 2 1),lBd (bsB l2)],.tup [lMd (insM 1 1),aI 0]),([eTS tsB,eSc (scB 2 2),lBd (bsB l2)],.tup [lMd (insM 2 2),aI 0]),([eTS tsB,eSc (scB 2 1),.lst false []],.tup [lMd [],aI 1]),([eTS tsB,eSc (scB 5 3),lBd (bsB l5)],.tup [lMd [],aI 2])]
def Yn:Nd := .mk 34 (bA []) 0 [nF] 0
theorem inlB:qe qc 68 [eTS tsB,eNd Yn] (.tup [eNd Yn,aI 0]):=uR wt (n:=1000) (by kernel_rfl)
def p5:List (List AV×AV):=[([eTS tsB,eNd Yn],.tup [eNd Yn,aI 0])]
noncomputable def K1:List (j1×je):=(23,j5 (Wq K0)) :: (68,j5 (tabX p5)) :: K0
theorem p6:∀ p,p∈K1->jn qc p.1 p.2:=
 Yj (Yj pY (WB (by kernel_rfl) fun p g=>by
  simp only[p5,qN]at g;subst g;exact inlB)) (qfG wt)
def someB(m:Md):Bool:=decide (0<((m.states.getD 0 []).getD 0 ⟨0,[]⟩).ts.length)
def p7:List (List AV×AV):=(insM 1 1).map fun m=>([eTS tsB,eMd m,eNd Yn],.tup [aB (someB m),aI 0])
theorem holB:p7.all (fun p=>eqLi (eqV 64) (p.1.map (nV 64)) p.1&&Ve (envL K1) 3000 20 p.1 p.2)=true:=by kernel_rfl
def p8:List (List AV×AV):=[([eTS tsB,eSc (scB 2 1)],lBd (bsB l2)),([eTS tsB,eSc (scB 5 3)],lBd (bsB l5))]
theorem defB1:qe qc 72 [eTS tsB,eSc (scB 2 1)] (lBd (bsB l2)):=by
 have:=Wz tsB (scB 2 1) (Vg (by decide +kernel))
 rwa[show defB tsB (scB 2 1)=bsB l2 by decide +kernel]at this
theorem defB2:qe qc 72 [eTS tsB,eSc (scB 5 3)] (lBd (bsB l5)):=by
 have:=Wz tsB (scB 5 3) (Vg (by decide +kernel))
 rwa[show defB tsB (scB 5 3)=bsB l5 by decide +kernel]at this
noncomputable def K2:List (j1×je):=(72,j5 (tabX p8)) :: (29,j5 (tabX pZ)) :: (20,j5 (tabX p7)) :: K1
theorem qgM:∀ p,p∈K2->jn qc p.1 p.2:=
 Yj (Yj (Yj p6 (tabOf (Wp p6) 3000 holB)) (WB (by kernel_rfl) fun p g=>by
  simp only[pZ,qw,qI,or_false]at g;rcases g with rfl|rfl|rfl|rfl
  .exact insB1
  .exact insB2
  .exact insB3
  .exact insB4)) (WB (by kernel_rfl) fun p g=>by
  simp only[p8,qw,qI,or_false]at g;rcases g with rfl|rfl
  .exact defB1
  .exact defB2)
theorem headB:qe qc 24 [] (aB true):=uR (Wp qgM) (n:=3000) (by kernel_rfl)
end JH
namespace HE
open P1 E1 G5 GP GW
def wtR(rw:List Int)(k:Nat):Int:=if k<rw.length then rw.getD k 0 % 4 else 1
def selW(p:Int->Bool)(rw:List Int):List Int->Nat->List Int
 | [],_=>[]
 |t :: J,k=>(if p (wtR rw k)=true then [t] else [])++selW p rw J (k+1)
theorem ga(p:Int->Bool)(rw:List Int):∀(ts g:List Int) (k:Nat),selW p rw (ts++g) k=selW p rw ts k++selW p rw g (k+ts.length)
 | [],g,k=>by simp[selW]
 |t :: ts,g,k=>by
  rw[List.cons_append,selW,selW,ga p rw ts g (k+1),zc,zu,show k+1+ts.length=k+(ts.length+1) by omega]
theorem gb(p:Int->Bool)(rw:List Int)(ts:List Int)(k:Nat)(h:k<ts.length):selW p rw (ts.take (k+1)) 0=selW p rw (ts.take k) 0++(if p (wtR rw k)=true then [ts[k]] else []):=by
 rw[jH h,ga];have:(ts.take k).length=k:=by simp;omega
 simp[selW,this]
theorem uh(p:Int->Bool)(rw:List Int):∀(ts:List Int) (k:Nat),(selW p rw ts k).Sublist ts
 | [],k=>List.Sublist.refl _
 |t :: ts,k=>by
  rw[selW];split
  .exact (uh p rw ts (k+1)).cons_cons t
  .exact (uh p rw ts (k+1)).cons t
theorem ge{p q:Int->Bool}(h:∀ x,p x=true->q x=true)(rw:List Int):∀(ts:List Int) (k:Nat) (t:Int),t∈selW p rw ts k->t∈selW q rw ts k
 | [],k,t,g=>g
 |a :: ts,k,t,g=>by
  rw[selW,qG]at g⊢;rcases g with g|g
  .left
   split at g
   .rename_i i;rw[if_pos (h _ i)];exact g
   .exact absurd g qI
  .exact .inr (ge h rw ts (k+1) t g)
def Vi(rw:List Int)(b:Bd):Bd:=⟨⟨b.up.ar,selW (fun x=>decide (1<x)) rw b.up.ts 0⟩,⟨b.up.ar,selW (fun x=>decide (0<x)) rw b.up.ts 0⟩⟩
def zE(ts:TS)(sc:Sc)(raw:List (List Int)):List Bd:=(defB ts sc).mapIdx fun i b=>Vi (raw.getD i []) b
theorem uT(ts:TS)(sc:Sc)(raw:List (List Int)):(zE ts sc raw).length=ts.fields.length:=by simp[zE,defB]
theorem Vj(ts:TS)(sc:Sc)(raw:List (List Int))(i:Nat)(h:i<(zE ts sc raw).length)(g:i<ts.fields.length):(zE ts sc raw)[i]=Vi (raw.getD i []) ⟨⟨ts.fields[i].sorts.length,[]⟩,⟨ts.fields[i].sorts.length,zU sc ts.fields[i].sorts⟩⟩:=by
 simp[zE,defB]
theorem gg(ts:TS)(sc:Sc)(raw:List (List Int))(hf:∀ f,f∈ts.fields->sorted (zU sc f.sorts)):BndV ts sc (zE ts sc raw):=by
 have key:∀ b,b∈zE ts sc raw->∃(i:Nat) (g:i<ts.fields.length),b=Vi (raw.getD i []) ⟨⟨ts.fields[i].sorts.length,[]⟩,⟨ts.fields[i].sorts.length,zU sc ts.fields[i].sorts⟩⟩:=fun b j=>by
  obtain⟨i,o,rfl⟩:=vE.1 j;have g:i<ts.fields.length:=by rw[uT]at o;exact o
  exact⟨i,g,Vj ts sc raw i o g⟩
 refine⟨uT ..,fun i h g=>?_,fun b j=>?_,fun b j t l=>?_,fun i h g t l=>?_⟩
 .rw [Vj _ _ _ _ h g];exact⟨rfl,rfl⟩
 .obtain ⟨i,g,rfl⟩:=key b j
  have:=hf _ (qy g);exact⟨this.sublist (uh ..),this.sublist (uh ..)⟩
 .obtain ⟨i,g,rfl⟩:=key b j
  exact ge (fun x p=>by have:=of_decide_eq_true p;exact decide_eq_true (by omega)) _ _ _ t l
 .rw [Vj _ _ _ _ h g]at l
  exact(uh ..).subset l
end HE
namespace HF1
open GB
theorem qgN{a b:Ed}:a=b↔a.kind=b.kind/\a.state=b.state/\a.field=b.field/\a.tup=b.tup:=by
 cases a;cases b;simp
instance:DecidableEq Ed:=fun a b=>decidable_of_iff _ qgN.symm
end HF1
namespace HG
end HG
namespace HH
open E3 E4
theorem qgO(a b:List Int)(P:a.length<=1000000):qe qc 80 [lI a,lI b] (aB (decide (a=b))):=by
 refine qSV call80 func80 rfl ?_;by_cases C:a.length=b.length
 .have J:(a.length:Int)=b.length:=by omega
  simp[go_sem,C];refine qk.up a.length (fun k st=>st.tm 0=lI a/\st.tm 1=lI b/\st.tm 5=aI k/\∀(i:Nat) (h:i<k) (P:i<a.length) (hb:i<b.length),a[i]=b[i]) ?_ ?_
  .exact ⟨by simp[go_sem],by simp[go_sem],by simp[go_sem],fun i h=>absurd h (Nat.not_lt_zero i)⟩
  rintro k st hk ⟨p,r,t,l⟩;by_cases j:k<a.length
  .have g:k<b.length:=by omega
   have R:qi.wrap ((k:Int)+1)=(k:Int)+1:=qg (by omega) (by omega);simp[go_sem,p,r,t,j,g];refine qm.intro (by kernel_rfl) ?_;simp[go_sem,p,r,t,j,g];by_cases I:a[k]=b[k]
   .simp [go_sem,p,r,t,j,g,I,R]
    exact fun i hi _ _=>by
     by_cases h:i<k
     .exact l i h _ _
     .have:i=k:=by omega
      subst this;exact I
   .have o:¬a=b:=fun e=>I (by simp only[e])
    simp[go_sem,p,r,t,j,g,I];rw[decide_eq_false o];exact .hf _ (HF.sc _)
  .have T:a=b:=List.ext_getElem C fun i h U=>l i (by omega) h U
   simp[go_sem,p,r,t,show ¬k<a.length from j];rw[decide_eq_true T];exact .hf _ (HF.sc _)
 .have J:¬(a.length:Int)=b.length:=by omega
  have o:¬a=b:=fun e=>C (by rw[e])
  simp[go_sem,C,o];exact .hf _ (HF.sc _)
theorem qgP(a b:List Rl)(R:a.length<=1000000)(T:∀ r,r∈a->r.ts.length<=4611686018427387904):qe qc 81 [lRel a,lRel b] (aB (decide (a=b))):=by
 refine qSV call81 func81 rfl ?_;by_cases I:a.length=b.length
 .have P:(a.length:Int)=b.length:=by omega
  simp[go_sem,I];refine qk.up a.length (fun k st=>st.tm 0=lRel a/\st.tm 1=lRel b/\st.tm 5=aI k/\∀(i:Nat) (h:i<k) (R:i<a.length) (hb:i<b.length),a[i]=b[i]) ?_ ?_
  .exact ⟨by simp[go_sem],by simp[go_sem],by simp[go_sem],fun i h=>absurd h (Nat.not_lt_zero i)⟩
  rintro k st hk ⟨p,t,C,l⟩;by_cases j:k<a.length
  .have g:k<b.length:=by omega
   have U:qi.wrap ((k:Int)+1)=(k:Int)+1:=qg (by omega) (by omega);simp[go_sem,p,t,C,j,g];refine qm.intro (by kernel_rfl) ?_;simp[go_sem,p,t,C,j,g];refine qd.pure (qd3 a[k] b[k] (T _ (qy j))) (.cons (.hf (z8 _)) (.cons (.hf (z8 _)) .nil)) ?_;by_cases J:a[k]=b[k]
   .simp [go_sem,p,t,C,j,g,J,U]
    exact fun i hi _ _=>by
     by_cases h:i<k
     .exact l i h _ _
     .have:i=k:=by omega
      subst this;exact J
   .have o:¬a=b:=fun e=>J (by simp only[e])
    simp[go_sem,p,t,C,j,g,J];rw[decide_eq_false o];exact .hf _ (HF.sc _)
  .have he:a=b:=List.ext_getElem I fun i h h'=>l i (by omega) h h'
   simp[go_sem,p,t,C,show ¬k<a.length from j];rw[decide_eq_true he];exact .hf _ (HF.sc _)
 .have P:¬(a.length:Int)=b.length:=by omega
  have o:¬a=b:=fun e=>I (by rw[e])
  simp[go_sem,I,o];exact .hf _ (HF.sc _)
theorem gh(l:List Rl):HF (lRel l):=HF.lst fun r i c g=>by
 obtain⟨n,_,rfl⟩:=qp.1 i;simp at g;rcases g with rfl|rfl
 .exact HF.sc _
 .exact zi _
theorem qgQ{a b:Md}:a=b↔a.sc.atoms=b.sc.atoms/\a.sc.steps=b.sc.steps/\a.loop=b.loop/\a.states=b.states:=by
 obtain⟨⟨_,_⟩,_,_⟩:=a;obtain⟨⟨_,_⟩,_,_⟩:=b;simp;exact⟨fun h=>⟨h.1.1,h.1.2,h.2.2,h.2.1⟩,fun h=>⟨⟨h.1,h.2.1⟩,h.2.2.2,h.2.2.1⟩⟩
theorem qgR(a b:Md)(P:a.sc.atoms.length<=1000000)(hs:a.states.length<=1000000)(R:∀ s,s∈a.states->s.length<=1000000/\∀ r,r∈s->r.ts.length<=4611686018427387904):qe qc 28 [eMd a,eMd b] (aB (decide (a=b))):=by
 refine qSV call28 func28 rfl ?_;simp[go_sem];refine qd.pure (qgO a.sc.atoms b.sc.atoms P) (.cons (.hf (zi _)) (.cons (.hf (zi _)) .nil)) ?_;by_cases c0:a.sc.atoms=b.sc.atoms
 case neg =>
  have g:¬a=b:=fun e=>c0 (by rw[e])
  simp[go_sem,c0,g];exact .hf _ (HF.sc _)
 by_cases c1:a.sc.steps=b.sc.steps
 case neg =>
  have g:¬a=b:=fun e=>c1 (by rw[e])
  simp[go_sem,c0,c1,g];exact .hf _ (HF.sc _)
 by_cases c2:a.loop=b.loop
 case neg =>
  have g:¬a=b:=fun e=>c2 (by rw[e])
  simp[go_sem,c0,c1,c2,g];exact .hf _ (HF.sc _)
 by_cases c3:a.states.length=b.states.length
 case neg =>
  have g:¬a=b:=fun e=>c3 (by rw[e])
  have T:¬(a.states.length:Int)=b.states.length:=by omega
  simp[go_sem,c0,c1,c2,c3,g];exact .hf _ (HF.sc _)
 simp[go_sem,c0,c1,c2,c3];refine qk.up a.states.length (fun k st=>st.tm 2 = .ip (cMd a)/\st.tm 3 = .ip (cMd b)/\st.tm 5=aI k/\∀(i:Nat) (h:i<k) (P:i<a.states.length) (hb:i<b.states.length),a.states[i]=b.states[i]) ?_ ?_
 .exact ⟨by simp[go_sem,c0,c1,c2],by simp[go_sem],by simp[go_sem],fun i h=>absurd h (Nat.not_lt_zero i)⟩
 rintro k st hk ⟨p,t,C,o⟩;by_cases l:k<a.states.length
 .have j:k<b.states.length:=by omega
  have U:qi.wrap ((k:Int)+1)=(k:Int)+1:=qg (by omega) (by omega);have I:=R _ (qy l);simp[go_sem,p,t,C,l,j];refine qm.intro (by kernel_rfl) ?_;simp[go_sem,p,t,C,l,j];refine qd.pure (qgP a.states[k] b.states[k] I.1 I.2) (.cons (.hf (gh _)) (.cons (.hf (gh _)) .nil)) ?_;by_cases J:a.states[k]=b.states[k]
  .simp [go_sem,p,t,C,l,j,J,U]
   exact fun i hi _ _=>by
    by_cases h:i<k
    .exact o i h _ _
    .have:i=k:=by omega
     subst this;exact J
  .have g:¬a=b:=fun e=>J (by simp only[e])
   simp[go_sem,p,t,C,l,j,J];rw[decide_eq_false g];exact .hf _ (HF.sc _)
 .have he:a=b:=qgQ.2 ⟨c0,c1,c2,List.ext_getElem c3 fun i h h'=>o i (by omega) h h'⟩
  simp[go_sem,p,t,C,show ¬k<a.states.length from l];rw[decide_eq_true he];exact .hf _ (HF.sc _)
end HH
namespace HI
open E1 E3
def wthB(b:Bd)(r:Rl):Bool:=decide (b.lo.ar=r.ar)&&(decide (b.up.ar=r.ar)&&(inOk b.lo r&&inOk r b.up))
def wthS(g:List Bd)(s:List Rl):Bool:=decide (s.length=g.length)&&(g.zip s).all fun p=>wthB p.1 p.2
def cntB(g:List Bd)(m:Md):Bool:=m.states.all (wthS g)
theorem qgS{C:Type}{p:C->Bool}{l:List C}{k:Nat}(h:k<l.length)(g:p l[k]=false):l.all p=false:=by
 cases e:l.all p with
 |false=>rfl
 |true=>rw[qH.1 e _ (qy h)]at g;cases g
theorem WL{C:Type}{p:C->Bool}{l:List C}(h:∀(i:Nat) (g:i<l.length),p l[i]=true):l.all p=true:=qH.2 fun x j=>by
 obtain⟨i,g,rfl⟩:=vE.1 j;exact h i g
end HI
namespace I4
open E1 E3 EO ER EW F1 GD GF HI
theorem in_eq(a b:Rl):decide ((diR a b).ts=[])=inOk a b:=by
 rw[Bool.eq_iff_iff,decide_eq_true_eq];simp only[diR,List.filter_eq_nil_iff,inOk,qH];exact⟨fun h t g=>by have:=h t g;simpa using this,fun h t g=>by simpa using h t g⟩
theorem Yb(b:Bd)(r:Rl)(l:b.lo.ts.length<=1000000)(o:b.up.ts.length<=1000000)(g:r.ts.length<=1000000):qe qc 91 [eBd b,eRel r] (aB (wthB b r)):=by
 have i:=inU b.lo r l g;have j:=inU r b.up g o;rw[in_eq]at i j;refine qSV call91 func91 rfl ?_;unfold wthB;by_cases c1:b.lo.ar=r.ar
 .by_cases c2:b.up.ar=r.ar
  .simp [go_sem,c1,c2]
   refine qd.pure i (.cons (by rw[<-c1];exact .hf (z8 _)) (.cons (.hf (z8 _)) .nil)) ?_;cases c3:inOk b.lo r with
   |false =>
    simp[go_sem,c1,c2,c3];exact .hf _ (HF.sc _)
   |true =>
    simp[go_sem,c1,c2,c3];refine qd.pure j (.cons (.hf (z8 _)) (.cons (by rw[<-c2];exact .hf (z8 _)) .nil)) ?_;simp[go_sem,c1,c2,c3];exact .hf _ (HF.sc _)
  .simp [go_sem,c1,c2]
   exact .hf _ (HF.sc _)
 .simp [go_sem,c1]
  exact .hf _ (HF.sc _)
theorem qgT(g:List Bd)(s:List Rl)(hl:g.length<=1000000)(hb:∀ b,b∈g->b.lo.ts.length<=1000000/\b.up.ts.length<=1000000)(hs:∀ r,r∈s->r.ts.length<=1000000) :
  qe qc 90 [lBd g,lRel s,.fn (.func 91) [] []] (aB (wthS g s)):=by
 refine qSV call90 func90 rfl ?_;by_cases l:s.length=g.length
 case neg =>
  have I:¬g.length=s.length:=fun e=>l e.symm
  have hf:wthS g s=false:=by unfold wthS;rw[decide_eq_false l];rfl
  rw[hf];simp[go_sem,I];exact .hf _ (HF.sc _)
 simp[go_sem,l];refine qk.upK g.length (fun k st=>st.tm 0=lBd g/\st.tm 1=lRel s/\st.tm 2 = .fn (.func 91) [] []/\st.tm 14=aI g.length/\st.tm 15=aI k/\∀(i:Nat) (h:i<k) (R:i<g.length) (I:i<s.length),wthB g[i] s[i]=true) ?_ ?_
 .exact ⟨by simp[go_sem],by simp[go_sem],by simp[go_sem],by simp[go_sem],by simp[go_sem],fun i h=>absurd h (Nat.not_lt_zero i)⟩
 rintro k st hk ⟨T,U,e2,p,t,o⟩;by_cases j:k<g.length
 .have w1:qi.wrap ((k:Int)+1)=(k:Int)+1:=qg (by omega) (by omega)
  have C:k<s.length:=by omega
  obtain⟨b1,b2⟩:=hb _ (qy j);have hw:=Yb g[k] s[k] b1 b2 (hs _ (qy C));simp[go_sem,p,t,j];refine qm.intro (by kernel_rfl) ?_;simp[go_sem,T,U,e2,j,C];refine qd.pure hw (.cons (.hf (Wk _)) (.cons (.hf (z8 _)) .nil)) ?_;cases hq:wthB g[k] s[k] with
  |false =>
   have hf:wthS g s=false:=by
    unfold wthS;rw[qgS (k:=k) (by simp;omega) (by simpa using hq),Bool.and_false]
   rw[hf];simp[go_sem];exact .hf _ (HF.sc _)
  |true =>
   simp[go_sem,t,j,w1]
   try refine⟨j,Keep.mk' ?_⟩
   try refine Keep.mk' ?_
   refine⟨by simp[go_sem,T],by simp[go_sem,U],by simp[go_sem,e2],by simp[go_sem,p],by simp[go_sem],fun i h R I=>?_⟩;rcases Nat.lt_succ_iff_lt_or_eq.1 h with J|J
   .exact o i J R I
   .subst J;exact hq
 .have P:k=g.length:=by omega
  have hf:wthS g s=true:=by
   unfold wthS;rw[decide_eq_true l,Bool.true_and];exact WL fun i hi=>by
    simp only[List.length_zip]at hi;simpa using o i (by omega) (by omega) (by omega)
  rw[hf];simp[go_sem,p,t,P];exact .hf _ (HF.sc _)
theorem qgU(g:List Bd)(s:List Rl)(i:g.length<=1000000)(j:∀ b,b∈g->b.lo.ts.length<=1000000/\b.up.ts.length<=1000000)(l:∀ r,r∈s->r.ts.length<=1000000):qe qc 89 [lRel s,.ip [lBd g]] (aB (!wthS g s)):=by
 refine qSV call89 func89 rfl ?_;simp[go_sem];refine qd.pure (qgT g s i j l) (.cons (.hf (j6 _)) (.cons (.hf (Z2 _)) (.cons (.hf (qeO _)) .nil))) ?_;simp[go_sem];exact .hf _ (HF.sc _)
theorem qgV(xs:List (List Rl))(l:AV)(p:List Rl->Bool)(hf:EO.FnOk qc l lRel (·∈xs) (fun x=>aB (p x)))(R:xs.length<=1000000000):qe qc 170 [lSt xs,l] (aI (jQ p xs 0)):=by
 refine qSV call170 func170 rfl ?_;simp[go_sem];refine qk.up xs.length (fun k st=>st.tm 0=lSt xs/\st.tm 1=l/\st.tm 7=aI xs.length/\st.tm 8=aI k/\st.mu=[]/\jQ p (xs.drop k) k=jQ p xs 0) ?_ ?_
 .simp [go_sem]
 rintro k st T ⟨C,I,o,r,J,i⟩;by_cases g:k<xs.length
 .rw [kJ _ _ _ _ g]at i
  simp[go_sem,C,I,o,r,J,g];refine FnOk.call (enc:=lRel) hf (qy g) ?_;by_cases j:p xs[k]=true
  .rw [if_pos j]at i
   simp[go_sem,j];rw[<-i];exact .hf _ (HF.sc _)
  .rw [if_neg j]at i
   simp only[Bool.not_eq_true]at j;simp[go_sem,C,I,o,r,g,j];exact⟨qg (by omega) (by omega),i⟩
 .have t:k=xs.length:=by omega
  subst t;rw[yH]at i;simp[go_sem,o,r,J];rw[<-i];exact .hf _ (HF.sc _)
theorem qgW(xs:List (List Rl))(g:AV)(p:List Rl->Bool)(hf:EO.FnOk qc g lRel (·∈xs) (fun x=>aB (p x)))(i:xs.length<=1000000000):qe qc 92 [lSt xs,g] (aB (xs.any p)):=by
 refine qSV call92 func92 rfl ?_;simp[go_sem];refine qd.pure (qgV xs g p hf i) (.cons (.hf (Z9 _)) (.cons (.hf hf.1) .nil)) ?_;rw[<-U6 p xs 0 (by omega)];simp[go_sem];exact .hf _ (HF.sc _)
theorem containsU(g:List Bd)(m:Md)(p:g.length<=1000000)(C:m.states.length<=1000000)(t:∀ b,b∈g->b.lo.ts.length<=1000000/\b.up.ts.length<=1000000)(os:∀ s,s∈m.states->∀ r,r∈s->r.ts.length<=1000000):qe qc 34 [lBd g,eMd m] (aB (cntB g m)):=by
 have j:HF (.ip [lBd g]):=w6 (j6 g);have l:HF (.fn (.func 89) [] [.ip [lBd g]]):=HF.fn (fun c i=>by simp at i) (fun c i=>by simp at i;subst i;exact j);have i:=qgW m.states (.fn (.func 89) [] [.ip [lBd g]]) (fun s=>!wthS g s) ⟨l,_,[],[.ip [lBd g]],rfl,fun s o=>⟨[lRel s,.ip [lBd g]],by simpa using WKs.cons (.hf (Z2 s)) (.cons (.hf j) .nil),qgU g s p t (os s o)⟩⟩ (by omega);have e:(!m.states.any fun s=>!wthS g s)=cntB g m:=by
  unfold cntB;rw[List.not_any_eq_all_not];simp
 refine qSV call34 func34 rfl ?_;simp[go_sem];refine qd.pure i (.cons (.hf (Z9 _)) (.cons (.hf l) .nil)) ?_;rw[<-e];simp[go_sem];exact .hf _ (HF.sc _)
end I4
namespace YZ
open Y1
mutual
def depN:Nd->Int
 | .mk _ _ _ ks _=>yc ks+1
def yc:List Nd->Int
 | []=>0
 |k :: ks=>max (depN k) (yc ks)
end
mutual
theorem qgX:∀ n:Nd,0<=depN n
 | .mk _ _ _ ks _=>by simp only[depN];have:=WM ks;omega
theorem WM:∀ ks:List Nd,0<=yc ks
 | []=>by simp[yc]
 |k :: ks=>by simp only[yc];have:=WM ks;omega
end
theorem Zg(n:Nd):depN n=yc n.kids+1:=by
 obtain⟨op,t,i,ks,p⟩:=n;simp[depN,Nd.kids]
theorem qgY{ks:List Nd}{k:Nd}(h:k∈ks):depN k<=yc ks:=by
 induction ks with
 |nil=>simp at h
 |cons a l g =>
  simp only[yc];rcases qw.1 h with rfl|h
  .omega
  .have:=g h;omega
mutual
def preN:Nd->List Nd
 | .mk op t n ks p => .mk op t n ks p :: zm ks
def zm:List Nd->List Nd
 | []=>[]
 |k :: ks=>preN k++zm ks
end
theorem uU(n:Nd):preN n=n :: zm n.kids:=by
 obtain⟨op,t,i,ks,p⟩:=n;simp[preN,Nd.kids]
end YZ
namespace YA
open YS P1
def vN(k:Int):ByteArray:=⟨#[118]⟩++jf k
theorem gi(k:Int)(g : -9223372036854775808<=k)(i:k<=9223372036854775807):(jf k).size<=21:=by
 have:=Lib.itoa_length_le k g i;unfold jf;simpa[ByteArray.size] using this
def y0(ts:TS)(es:List (ByteArray×Bool))(nm:ByteArray):Bool:=decide (getK nm es≠some true)&&decide (means ts nm=[])
def zy(ts:TS)(es:List (ByteArray×Bool)):Nat->Int->Int
 | 0,k=>k+1
 |f+1,k=>if y0 ts es (vN (k+1))=true then k+1 else zy ts es f (k+1)
end YA
namespace YB
open P1 YX YA
def qu(ts:TS)(es:List (ByteArray×Bool)):Nat:=es.length+ts.fields.length+3*ts.sorts.length+1
def renI(ts:TS)(es:List (ByteArray×Bool))(env:IEnv)(nm:ByteArray)(body:Bool)(s:ISt):(IEnv×ByteArray)×ISt:=
 if body=true\/means ts nm≠[] then
  ((setK nm ⟨none,0,vN (zy ts es (qu ts es) s.last)⟩ (delK nm env),vN (zy ts es (qu ts es) s.last)),⟨zy ts es (qu ts es) s.last,s.cost⟩)
 else ((delK nm env,nm),s)
theorem gj{j C:Type} [DecidableEq j] {k:j} {v:C}:∀{es:List (j×C)},(es.map Prod.fst).Nodup->∀{x:j×C},x∈setK k v es↔x=(k,v)\/(x∈es/\x.1≠k)
 | [],_,x=>by simp[setK]
 |e :: es,h,x=>by
  rw[yV,jx]at h;unfold setK;by_cases i:k=e.1
  .rw [if_pos i,qw,qw]
   constructor
   .rintro (g|g)
    .exact .inl g
    .exact .inr ⟨.inr g,fun l=>h.1 (qp.2 ⟨x,g,by rw[l,i]⟩)⟩
   .rintro (g|⟨g|g,o⟩)
    .exact .inl g
    .exact absurd (by rw[g,i]) o
    .exact .inr g
  .rw [if_neg i,qw,qw,gj h.2]
   constructor
   .rintro (g|g|g)
    .exact .inr ⟨.inl g,fun l=>i (by rw[<-l,g])⟩
    .exact .inl g
    .exact .inr ⟨.inr g.1,g.2⟩
   .rintro (g|⟨g|g,o⟩)
    .exact .inr (.inl g)
    .exact .inl g
    .exact .inr (.inr ⟨g,o⟩)
end YB
namespace Q9
open Y1
def gk(nm:ByteArray)(p:Int):Nd := .mk 1 nm 0 [] p
end Q9
namespace PA
open P1 P2 Y1 Y2 Y9 Y15 Y16 Q6
section
variable {inn:Bool}{c c':Ck}{s s':Scp}
def ui(nm:ByteArray)(n:Nd):Prop:=anyN (fun n=>decide (n.name=nm)) n=true
theorem gl{p:Nd->Bool}:∀{ks:List Nd},j8 p ks=true↔∃ k,k∈ks/\anyN p k=true
 | []=>by simp[j8]
 |k :: ks=>by
  simp only[j8,jT,gl (ks:=ks),qw];constructor
  .rintro (h|⟨x,g,h⟩)
   .exact ⟨k,.inl rfl,h⟩
   .exact ⟨x,.inr g,h⟩
  .rintro ⟨x,rfl|g,h⟩
   .exact .inl h
   .exact .inr ⟨x,g,h⟩
theorem qgZ(n:Nd):ui n.name n:=by
 unfold ui;rw[Va];simp
theorem qg0{n k:Nd}{nm:ByteArray}(g:k∈n.kids)(h:ui nm k):ui nm n:=by
 unfold ui at h⊢;rw[Va,jT];exact .inr (gl.2 ⟨k,g,h⟩)
def zn(nm:ByteArray)(s:Scp):Option Kd:=(jE nm s).head?.map Prod.snd
theorem qg1(nm:ByteArray):zn nm []=none:=rfl
theorem uV(nm:ByteArray)(v:ByteArray×Kd)(s:Scp):zn nm (v :: s)=if v.1=nm then some v.2 else zn nm s:=by
 unfold zn;rw[jE];split<;>rfl
theorem wu(c:Ck)(s:Scp)(nm:ByteArray)(pos:Int):yY c s nm pos=match zn nm s with
  |some k => .ok (some k)
  |none=>match means c.ts nm with
   | [] => .error (40,pos)
   | [k] => .ok (some k)
   |_ => .error (44,pos):=by
 unfold yY zn;cases jE nm s with
 |nil=>rfl
 |cons v r=>rfl
theorem gn{n n':Nd}(j:n'.op=n.op)(l:n'.name=n.name)(r:n'.n=n.n)(t:n'.pos=n.pos)
  (C:zK c' n.op n.name=zK c n.op n.name) (I:n.op=1->yY c s n.name n.pos=yY c' s' n.name n.pos) (o:c'.ts.preds=c.ts.preds) (g:zf c' n.name=zf c n.name)
  (p:c'.ts.sorts.length=c.ts.sorts.length) (i:n'.kids.length=n.kids.length)
  (J:n.op=47->∀ ps,ya c s n.pos ps n.kids=ya c' s' n.pos ps n'.kids)
  (hB:(n.op=15\/n.op=45\/n.op=46)->∀ inn,zM c s inn n.name n.pos n.kids=zM c' s' inn n.name n.pos n'.kids)
  (P:¬n.op=1->¬n.op=47->¬(n.op=15\/n.op=45\/n.op=46)->∀ inn,qS c s inn n.kids=qS c' s' inn n'.kids):exam c s inn n=exam c' s' inn n':=by
 rw[yy,yy,j,l,r,t,C,o,g,p,i];by_cases a:(inn&&zK c n.op n.name)=true
 .rw [if_pos a,if_pos a]
 rw[if_neg a,if_neg a];by_cases b:n.op=1
 .rw [if_pos b,if_pos b];exact I b
 rw[if_neg b,if_neg b];by_cases d:n.op=47
 .rw [if_pos d,if_pos d]
  simp only[J d]
 rw[if_neg d,if_neg d];by_cases e:n.op=15\/n.op=45\/n.op=46
 .rw [if_pos e,if_pos e];exact hB e _
 rw[if_neg e,if_neg e,P b d e]
theorem gq(f:Nd->Nd):∀{ks:List Nd},(∀ k,k∈ks->exam c s inn k=exam c' s' inn (f k))->qS c s inn ks=qS c' s' inn (ks.map f)
 | [],_=>rfl
 |k :: ks,h=>by
  simp only[yV,qS];rw[h k (qU ..),gq f fun g i=>h g (qO _ i)]
theorem gr{pos:Int}(f:Nd->Nd):∀{ks:List Nd} {ps:List (ByteArray×Int)},(∀ k,k∈ks->exam c s true k=exam c' s' true (f k))->ya c s pos ps ks=ya c' s' pos ps (ks.map f)
 | [],ps,_=>by cases ps<;>rfl
 |k :: ks,[],_=>rfl
 |k :: ks,p :: ps,h=>by
  simp only[yV,ya];rw[h k (qU ..),gr f (ps:=ps) fun g i=>h g (qO _ i)]
theorem Vk{ks:List Nd}(h:∀ k,k∈ks->exam c s inn k=exam c' s' inn k):qS c s inn ks=qS c' s' inn ks:=by
 have:=gq (c:=c) (c':=c') (s:=s) (s':=s') (inn:=inn) id (ks:=ks) h
 rwa[List.map_id]at this
theorem gt{pos:Int}{ks:List Nd}{ps:List (ByteArray×Int)}(h:∀ k,k∈ks->exam c s true k=exam c' s' true k):ya c s pos ps ks=ya c' s' pos ps ks:=by
 have:=gr (c:=c) (c':=c') (s:=s) (s':=s') (pos:=pos) id (ks:=ks) (ps:=ps) h
 rwa[List.map_id]at this
structure uj (c c':Ck):Prop where
 preds:c'.ts.preds=c.ts.preds
 sorts:c'.ts.sorts=c.ts.sorts
 fields:c'.ts.fields=c.ts.fields
 calls:c'.calls=c.calls
 timed:c'.timed=c.timed
theorem uj.refl(c:Ck):uj c c:=⟨rfl,rfl,rfl,rfl,rfl⟩
theorem uj.callee(h:uj c c')(nm:ByteArray):zf c' nm=zf c nm:=by
 unfold zf;rw[h.preds,h.calls]
theorem uj.time(h:uj c c')(op:Int)(nm:ByteArray):zK c' op nm=zK c op nm:=by
 unfold zK;rw[h.callee,h.timed]
theorem uj.means(h:uj c c')(nm:ByteArray):means c'.ts nm=means c.ts nm:=by
 unfold P1.means;rw[h.fields,h.sorts]
theorem gu(o:uj c c'):∀(m:Nat) (n:Nd) (s s':Scp) (inn:Bool),szN n<=m->(∀ nm,ui nm n->zn nm s=zn nm s')->exam c s inn n=exam c' s' inn n
 | 0,n,_,_,_,P,_=>by obtain⟨op,nm,i,ks,p⟩:=n;simp[szN]at P
 |m+1,n,s,s',inn,P,h=>by
  have l:∀ k,k∈n.kids->∀(s s':Scp) (inn:Bool),(∀ nm,ui nm k->zn nm s=zn nm s')->exam c s inn k=exam c' s' inn k:=fun k l s s' inn R =>
   gu o m k s s' inn (by have:=yx l;omega) R
  have t:∀ k,k∈n.kids->∀ nm,ui nm k->zn nm s=zn nm s':=fun k l nm T=>h nm (qg0 l T)
  refine gn rfl rfl rfl rfl (o.time _ _) (fun _=>?_) o.preds (o.callee _) (by rw[o.sorts]) rfl (fun _ ps=>gt fun k g=>l k g s s' true (t k g)) (fun _ inn=>?_) (fun _ _ _ inn=>Vk fun k g=>l k g s s' inn (t k g))
  .rw [wu,wu,h _ (qgZ n),o.means]
  .cases C:n.kids with
   |nil=>rfl
   |cons k ks =>
    have j:∀ x,x∈k :: ks->x∈n.kids:=fun x I=>by rw[C];exact I
    simp only[zM];rw[l k (j k (qU ..)) s s' inn (t k (j k (qU ..)))];have U:∀ a,qS c ((n.name,a) :: s) inn ks=qS c' ((n.name,a) :: s') inn ks:=fun a=>Vk fun x I=>by
     have r:=j x (qO _ I);refine l x r _ _ inn fun nm J=>?_
     rw[uV,uV,t x r nm J]
    simp only[U]
def wf(ts:TS)(g:List (ByteArray×Nd)):TS:=⟨ts.sorts,ts.fields,ts.preds,g⟩
theorem qg2{C:Type}(g:C->C->Bool)(l:List C)(i:Nat):(repL g l)[i]?=(l[i]?).map fun x=>(l.take i).any fun y=>g x y:=by
 by_cases h:i<l.length
 .rw [kV g l h,qz h];rfl
 .rw [yF (by rw[uP];omega),yF (by omega)];rfl
theorem gw{C:Type}(g:C->C->Bool)(l:List C)(i:Nat):repB g l i=match l[i]? with|some x=>[(l.take i).any fun y=>g x y] | none=>[]:=by
 unfold repB;rw[List.take_add_one,qg2,List.drop_append];by_cases h:i<l.length
 .rw [qz h,List.length_take,uP,Nat.min_eq_left (by omega),List.drop_of_length_le (by simp;omega)]
  simp
 .rw [yF (by omega),List.drop_of_length_le (by simp;omega)]
  simp
def binB(op:Int):Bool:=decide (op=15)||decide (op=45)||decide (op=46)
end
end PA
namespace YC
open P1 Y1 YX YZ YA YB PA
section
variable {env:IEnv}{s:ISt}{es:List (ByteArray×Bool)}{F:Nat}{ts:TS}
abbrev XR(C:Type):=Except Dg (C×ISt)
def y5(E:Nd->ISt->XR (Nd×Int)):List (ByteArray×Int)->List Nd->IEnv->ISt->XR IEnv
 |p :: g,k :: ks,own,s=>match E k s with
  | .error e => .error e
  | .ok ((i,m),j)=>y5 E g ks (setK p.1 ⟨some i,m,⟨#[]⟩⟩ own) j
 |_,_,own,s => .ok (own,s)
def yR(E:IEnv->Nd->ISt->XR (Nd×Int))(R:IEnv->ByteArray->ISt->(IEnv×ByteArray)×ISt)(bin:Bool):Nat->IEnv->ByteArray->List Nd->ISt->XR (ByteArray×List Nd×Int)
 |_,_,t,[],s => .ok ((t,[],0),s)
 |i,env,t,k :: ks,s =>
  let r:=if bin=true/\i=1 then R env t s else ((env,t),s)
  match E r.1.1 k r.2 with
  | .error e => .error e
  | .ok ((o,m),p)=>match yR E R bin (i+1) r.1.1 r.1.2 ks p with
   | .error e => .error e
   | .ok ((g,j,C),l) => .ok ((g,o :: j,m+C),l)
def w9{C i:Type}(q:XR C)(g:C->ISt->XR i):XR i:=
 match q with
 | .error e => .error e
 | .ok (a,s)=>g a s
theorem Zh{C i:Type}{q:XR C}{g:C->ISt->XR i}{r:i×ISt}(h:w9 q g = .ok r):∃ a s,q = .ok (a,s)/\g a s = .ok r:=by
 unfold w9 at h;split at h
 .cases h
 .exact ⟨_,_,rfl,h⟩
def expI(ts:TS)(es:List (ByteArray×Bool)):Nat->IEnv->Nd->Bool->ISt->XR (Nd×Int)
 | 0,_,_,_,_ => .error (2,0)
 |f+1,env,n,i,s =>
  if s.cost+1<=4000 then
   if n.op=1 then wq env n (payS 1 s)
   else if n.op=47 then match ts.preds.find? fun p=>decide (p.name=n.name) with
    |none => .error (2,0)
    |some p=>w9 (y5 (fun k s=>expI ts es f env k i s) p.params n.kids [] (payS 1 s)) fun own g=>expI ts es f own p.body true g
   else w9 (yR (fun env k s=>expI ts es f env k i s) (fun env t s=>renI ts es env t i s) (binB n.op) 0 env n.name n.kids (payS 1 s)) fun r g => .ok ((.mk n.op r.1 n.n r.2.1 n.pos,1+r.2.2),g)
  else .error (2,0)
def jt(ts:TS)(n:Nd):Prop:=∀ x,x∈preN n->x.op=47->∃ p,(ts.preds.find? fun p=>decide (p.name=x.name))=some p/\p.params.length=x.kids.length
theorem qg3{ks:List Nd}{k x:Nd}(g:k∈ks)(i:x∈preN k):x∈zm ks:=by
 induction ks with
 |nil=>simp at g
 |cons a l j =>
  simp only[zm,qG];rcases qw.1 g with rfl|g
  .exact .inl i
  .exact .inr (j g)
theorem WN{n k x:Nd}(g:k∈n.kids)(i:x∈preN k):x∈preN n:=by
 rw[uU];exact qO _ (qg3 g i)
theorem vA(n:Nd):n∈preN n:=by rw[uU];exact qU ..
theorem jt.kid{n k:Nd}(h:jt ts n)(g:k∈n.kids):jt ts k:=fun x i=>h x (WN g i)
def pot(F:Nat)(s:ISt):Int:=s.cost*F-s.last
structure StOk (F:Nat) (s:ISt):Prop where
 l0:0<=s.last
 c0:0<=s.cost
 c1:s.cost<=4000
 p:0<=pot F s
theorem StOk.last(h:StOk F s):s.last<=4000*F:=by
 have g:s.cost*F<=4000*F:=Int.mul_le_mul_of_nonneg_right h.c1 (by omega);have:=h.p;unfold pot at this;omega
structure qZ (env:IEnv):Prop where
 nd:(env.map Prod.fst).Nodup
 sz:∀ e,e∈env->0<=e.2.size/\e.2.size<=4000
theorem qZ.nil:qZ []:=⟨by simp,fun e g=>by simp at g⟩
theorem qZ.set(h:qZ env){k:ByteArray}{v:IV}(i:0<=v.size/\v.size<=4000):qZ (setK k v env):=
 ⟨UW h.nd,fun e g=>by
  rcases (gj h.nd).1 g with rfl|⟨g,_⟩
  .exact i
  .exact h.sz e g⟩
theorem qZ.del(h:qZ env){k:ByteArray}:qZ (delK k env):=⟨qdI h.nd,fun e g=>h.sz e ((kv h.nd).1 g).1⟩
theorem Vl{nm:ByteArray}{body:Bool}(h:qZ env):qZ (renI ts es env nm body s).1.1:=by
 unfold renI;split
 .exact h.del.set ⟨by simp,by simp⟩
 .exact h.del
theorem WO(ts:TS)(es:List (ByteArray×Bool)):∀(f:Nat) (k:Int),k<zy ts es f k/\zy ts es f k<=k+f+1
 | 0,k=>by simp only[zy];omega
 |f+1,k=>by
  simp only[zy];have:=WO ts es f (k+1);split<;>omega
theorem WP{ts:TS}{es:List (ByteArray×Bool)}:∀{f:Nat} {k:Int},(∃ j:Nat,1<=j/\j<=f/\y0 ts es (vN (k+j))=true)->zy ts es f k<=k+f
 | 0,k,⟨j,i,l,_⟩=>by omega
 |f+1,k,⟨j,i,l,g⟩=>by
  simp only[zy];split
  .omega
  .rename_i o
   have p:j≠1:=fun e=>by subst e;exact o g
   have:=WP (ts:=ts) (es:=es) (f:=f) (k:=k+1) ⟨j-1,by omega,by omega,by rw[show k+1+((j-1:Nat):Int)=k+j by omega];exact g⟩;omega
def Free(ts:TS)(es:List (ByteArray×Bool)):Prop:=∀ l:Int,0<=l->∃ j:Nat,1<=j/\j<=qu ts es/\y0 ts es (vN (l+j))=true
theorem Vm(g:Free ts es){env:IEnv}{nm:ByteArray}{body:Bool}{s:ISt}(i:0<=s.last):0<=(renI ts es env nm body s).2.last/\(renI ts es env nm body s).2.last<=s.last+(qu ts es:Nat)/\(renI ts es env nm body s).2.cost=s.cost:=by
 unfold renI;split
 .have l:=WO ts es (qu ts es) s.last
  have j:=WP (g s.last i);refine⟨?_,j,rfl⟩;show 0<=zy ts es (qu ts es) s.last;omega
 .exact ⟨i,by show s.last<=_;omega,rfl⟩
structure Gos (F:Nat) (s s':ISt) (z:Int):Prop where
 l0:0<=s'.last
 c1:s'.cost<=4000
 z0:0<=z
 cz:s.cost+z<=s'.cost
 p:pot F s<=pot F s'
theorem Gos.ok{s':ISt}{z:Int}(g:Gos F s s' z)(h:StOk F s):StOk F s':=⟨g.l0,by have:=g.cz;have:=g.z0;have:=h.c0;omega,g.c1,by have:=g.p;have:=h.p;omega⟩
theorem Zi(F:Nat)(s:ISt)(n:Int):pot F (payS n s)=pot F s+n*F:=by
 unfold pot payS;simp only[Int.add_mul];omega
theorem Qa(h:StOk F s){n:Int}(g:0<=n)(i:s.cost+n<=4000):Gos F s (payS n s) n:=
 ⟨h.l0,i,g,jw _,by rw[Zi];have:0<=n*(F:Int):=Int.mul_nonneg g (by omega);omega⟩
theorem qg4{n n':Nd}{s':ISt}{z:Int}(h:StOk F s)(o:qZ env)(t:s.cost+1<=4000)(e:wq env n (payS 1 s) = .ok ((n',z),s')):Gos F s s' z:=by
 have i:=Qa h (n:=1) (by omega) t;unfold wq at e;cases l:getK n.name env with
 |none=>rw[l]at e;cases e;exact i
 |some v =>
  rw[l]at e;have C:=o.sz _ ((Z5 o.nd).1 l);obtain⟨I,r,P⟩:=v;cases I with
  |none=>cases e;exact i
  |some a =>
   simp only at e;split at e
   .rename_i J
    have j:0<=r/\r<=4000:=C;cases e;have g:=Qa (i.ok h) j.1 J;exact⟨g.l0,g.c1,j.1,by have:=g.cz;have:=i.cz;omega,by have:=g.p;have:=i.p;omega⟩
   .cases e
theorem WQ{E:Nd->ISt->XR (Nd×Int)}:∀{ks:List Nd} {ps:List (ByteArray×Int)} {own i:IEnv} {s s':ISt},(∀ k n' z s s',k∈ks->StOk F s->E k s = .ok ((n',z),s')->Gos F s s' z)->StOk F s->qZ own ->
  y5 E ps ks own s = .ok (i,s')->qZ i/\Gos F s s' 0
 | [],ps,own,i,s,s',_,h,j,e=>by
  have e:Except.ok (own,s)=(Except.ok (i,s'):XR IEnv):=by cases ps<;>exact e
  cases e;exact⟨j,h.l0,h.c1,by omega,by omega,jw _⟩
 |k :: ks,[],own,i,s,s',_,h,j,e=>by
  cases e;exact⟨j,h.l0,h.c1,by omega,by omega,jw _⟩
 |k :: ks,p :: ps,own,i,s,s',o,h,j,e=>by
  simp only[y5]at e;split at e
  .cases e
  .rename_i r m s1 t
   have g:=o k r m s s1 (qU ..) h t;have C:m<=4000:=by have:=g.cz;have:=g.c1;have:=h.c0;omega
   obtain⟨I,l⟩:=WQ (fun k n' z s s' J=>o k n' z s s' (qO _ J)) (g.ok h) (j.set (v:=⟨some r,m,⟨#[]⟩⟩) ⟨g.z0,C⟩) e;exact⟨I,l.l0,l.c1,by omega,by have:=g.cz;have:=g.z0;have:=l.cz;omega,by have:=g.p;have:=l.p;omega⟩
def dueN(F:Nat)(bin:Bool)(i:Nat):Int:=if bin=true/\i<=1 then F else 0
theorem Vn(F:Nat)(bin:Bool)(i:Nat):0<=dueN F bin i:=by unfold dueN;split<;>omega
theorem gx{bin:Bool}{i:Nat}(h:¬(bin=true/\i=1)):dueN F bin i=dueN F bin (i+1):=by
 unfold dueN;by_cases g:bin=true
 .by_cases j:i=1
  .exact absurd ⟨g,j⟩ h
  .by_cases l:i<=1
   .rw [if_pos ⟨g,l⟩,if_pos ⟨g,by omega⟩]
   .rw [if_neg (by omega),if_neg (by omega)]
 .rw [if_neg (fun h=>g h.1),if_neg (fun h=>g h.1)]
theorem gy{E:IEnv->Nd->ISt->XR (Nd×Int)}{R:IEnv->ByteArray->ISt->(IEnv×ByteArray)×ISt}{bin:Bool}(hR:∀ env nm s,0<=s.last->qZ env->qZ (R env nm s).1.1/\0<=(R env nm s).2.last/\(R env nm s).2.last<=s.last+(F:Int)/\(R env nm s).2.cost=s.cost) :
  ∀{ks:List Nd} {i:Nat} {env:IEnv} {nm l:ByteArray} {s s':ISt} {o:List Nd} {m:Int},(∀ env k n' z s s',k∈ks->StOk F s->qZ env->E env k s = .ok ((n',z),s')->Gos F s s' z)->0<=s.last->0<=s.cost->s.cost<=4000->dueN F bin i<=pot F s->qZ env ->
  yR E R bin i env nm ks s = .ok ((l,o,m),s')->0<=s'.last/\s'.cost<=4000/\0<=m/\s.cost+m<=s'.cost/\pot F s-dueN F bin i<=pot F s'
 | [],i,env,nm,l,s,s',o,m,_,C,c0,c1,hp,J,e=>by
  cases e;have:=Vn F bin i;exact⟨C,c1,by omega,by omega,by omega⟩
 |k :: ks,i,env,nm,l,s,s',o,m,hE,C,c0,c1,hp,J,e=>by
  simp only[yR]at e;obtain⟨r,t⟩:∃ r,r=if bin=true/\i=1 then R env nm s else ((env,nm),s):=⟨_,rfl⟩
  rw[<-t]at e;have P:qZ r.1.1/\0<=r.2.last/\r.2.cost=s.cost/\dueN F bin (i+1)<=pot F r.2/\pot F s-dueN F bin i<=pot F r.2-dueN F bin (i+1):=by
   by_cases I:bin=true/\i=1
   .rw [if_pos I]at t
    obtain⟨a1,a2,a3,a4⟩:=hR env nm s C J;have d1:dueN F bin i=F:=if_pos ⟨I.1,by omega⟩;have d2:dueN F bin (i+1)=0:=if_neg (by omega);subst t;have a0:pot F s-F<=pot F (R env nm s).2:=by unfold pot;rw[a4];omega
    rw[d1]at hp;rw[d1,d2];exact⟨a1,a2,a4,by omega,by omega⟩
   .rw [if_neg I]at t
    subst t;have d':dueN F bin i=dueN F bin (i+1)\/(bin=true/\i=1):=by
     unfold dueN;by_cases j:bin=true
     .by_cases T:i=1
      .exact .inr ⟨j,T⟩
      .left
       by_cases h0:i<=1
       .rw [if_pos ⟨j,h0⟩,if_pos ⟨j,by omega⟩]
       .rw [if_neg (by omega),if_neg (by omega)]
     .left;rw[if_neg (fun h=>j h.1),if_neg (fun h=>j h.1)]
    have a5:dueN F bin i=dueN F bin (i+1):=d'.elim id fun h=>absurd h I
    exact⟨J,C,rfl,by show _<=pot F s;omega,by show _<=pot F s-_;omega⟩
  obtain⟨b1,b2,b3,b4,b5⟩:=P;split at e
  .cases e
  .rename_i k' m1 s1 T
   have U:StOk F r.2:=⟨b2,by omega,by omega,by have:=Vn F bin (i+1);omega⟩;have g:=hE r.1.1 k k' m1 r.2 s1 (qU ..) U b1 T;split at e
   .cases e
   .rename_i a6 a7 m2 s2 h2
    have:=gy hR (fun env k n' z s s' hk=>hE env k n' z s s' (qO _ hk)) g.l0 (by have:=g.cz;have:=g.z0;omega) g.c1 (by have:=g.p;omega) b1 h2;obtain⟨q1,q2,q3,q4,q5⟩:=this;cases e;have:=g.cz;have:=g.z0;have:=g.p;exact⟨q1,q2,by omega,by omega,by omega⟩
theorem j9(ts:TS){es:List (ByteArray×Bool)}(g:Free ts es):∀(f:Nat) {env:IEnv} {n n':Nd} {body:Bool} {s s':ISt} {z:Int},StOk (qu ts es) s->qZ env->expI ts es f env n body s = .ok ((n',z),s')->Gos (qu ts es) s s' z
 | 0,_,_,_,_,_,_,_,_,_,e=>by cases e
 |f+1,env,n,n',body,s,s',z,h,r,e=>by
  simp only[expI]at e;split at e
  .rename_i R
   have i:=Qa h (n:=1) (by omega) R;split at e
   .exact qg4 h r R e
   .split at e
    .split at e
     .cases e
     .rename_i p _
      .obtain ⟨own,s1,C,e⟩:=Zh e
       obtain⟨T,g1⟩:=WQ (F:=qu ts es) (fun k n' z s s' _ I J=>j9 ts g f I r J) (i.ok h) .nil C;have j:=j9 ts g f (g1.ok (i.ok h)) T e;exact⟨j.l0,j.c1,j.z0,by have:=j.cz;have:=g1.cz;have:=i.cz;omega,by have:=j.p;have:=g1.p;have:=i.p;omega⟩
    ·.obtain ⟨⟨l,o,m⟩,s1,C,e⟩:=Zh e
      cases e;have U:dueN (qu ts es) (binB n.op) 0<=pot (qu ts es) (payS 1 s):=by
       rw[Zi];have:=h.p;unfold dueN;split<;>omega
      have:=gy (F:=qu ts es) (fun env t s hl P=>⟨Vl P,Vm g hl⟩) (fun env k n' z s s' _ I P J=>j9 ts g f I P J) i.l0 (by have:=(i.ok h).c0;exact this) i.c1 U r C;obtain⟨q1,q2,q3,q4,q5⟩:=this;have a0:dueN (qu ts es) (binB n.op) 0<=(qu ts es:Nat):=by unfold dueN;split<;>omega
      rw[Zi]at q5;have a1:0<=(l,o,m).snd.snd:=q3;have a2:(payS 1 s).cost+(l,o,m).snd.snd<=s'.cost:=q4;exact⟨q1,q2,by omega,by have:=i.cz;omega,by omega⟩
  .cases e
end
end YC
namespace E6
end E6
namespace YD
open Y1
theorem gA{lo sz:Nat}{mu l:Mu}{av:AV}{xs:List (List AV)}(h:OwnF lo mu sz av xs)(o:lo<=l.length)(p:∀ i,lo<=i->i<mu.length->l[i]?=mu[i]?):OwnF lo l sz av xs:=by
 obtain⟨r,g,_⟩:=h;refine⟨?_,g,o⟩;rcases r with rfl|⟨b,rfl,j⟩
 .exact .inl rfl
 .exact .inr ⟨b,rfl,by rw[p b (g b _ _ _ rfl) (qj.1 j).1];exact j⟩
theorem WR(l:List Nd):zj 5 (l.map cNd):=fun r g=>by
 obtain⟨n,_,rfl⟩:=qp.1 g;exact⟨Z3 n,JS n⟩
theorem appNd{mu:Mu}{lo:Nat}{s:AV}{xs:List Nd}{k:Nd}{K:AV->Mu->Prop}(g:OwnF lo mu 5 s (xs.map cNd))(t:xs.length<=100000)(o:∀ av l,OwnF lo l 5 av ((xs++[k]).map cNd)->(∀ i,i<lo->l[i]?=mu[i]?)->K av l) :
  qD qc mu #[34,34] s (.lst true [cNd k]) K:=by
 refine qD.ownF (lo:=lo) (e:=36) (sz:=5) (bt:=64) (zv := .agg [aI 0,aS ⟨#[]⟩,aI 0,.lst true [],aI 0]) (xs:=xs.map cNd) (ys:=[cNd k]) (by simp[go_sem]) (by simp[go_sem]) (by simp[go_sem]) rfl rfl (by omega) (by omega) g (by simp[qM]) (WR xs) (WR [k]) (by simp;omega) ?_;intro av l h r;exact o av l (by rw[zg];exact h) r
end YD
namespace YE
open P1 P2 Y1 Y9 YX YZ YB YC
mutual
def cntT:Nd->Int
 | .mk _ _ _ ks _=>1+yr ks
def yr:List Nd->Int
 | []=>0
 |k :: ks=>cntT k+yr ks
end
theorem WS(n:Nd):cntT n=1+yr n.kids:=by
 obtain⟨op,t,i,ks,p⟩:=n;simp[cntT,Nd.kids]
mutual
theorem WT:∀ n:Nd,1<=cntT n
 | .mk _ _ _ ks _=>by simp only[cntT];have:=Vo ks;omega
theorem Vo:∀ ks:List Nd,0<=yr ks
 | []=>by simp[yr]
 |k :: ks=>by simp only[yr];have:=WT k;have:=Vo ks;omega
end
mutual
theorem gB:∀ n:Nd,depN n<=cntT n
 | .mk _ _ _ ks _=>by simp only[cntT,depN];have:=gC ks;omega
theorem gC:∀ ks:List Nd,yc ks<=yr ks
 | []=>by simp[yc,yr]
 |k :: ks=>by
  simp only[yr,yc];have:=gB k;have:=gC ks;have:=WT k;have:=Vo ks;omega
end
section
variable {C:Type}{R:IEnv->ByteArray->ISt->(IEnv×ByteArray)×ISt}{es:List (ByteArray×Bool)}{E:Nd->ISt->XR (Nd×Int)}
def vB(env:IEnv):Prop:=∀ e,e∈env->∀ a,e.2.arg=some a->e.2.size=cntT a/\Small a
theorem WU{g:Type} [DecidableEq g] {k:g} {v:C}:∀{es:List (g×C)},getK k es=some v->(k,v)∈es
 | [],h=>by simp[getK]at h
 |e :: es,h=>by
  unfold getK at h;split at h
  .rename_i i;cases h;subst i;exact qU ..
  .exact qO _ (WU h)
theorem Vp{g:Type} [DecidableEq g] {k:g} {v:C}:∀{es:List (g×C)} {x:g×C},x∈setK k v es->x=(k,v)\/x∈es
 | [],x,h=>by simp[setK]at h;exact .inl h
 |e :: es,x,h=>by
  unfold setK at h;split at h
  .rcases qw.1 h with h|h
   .exact .inl h
   .exact .inr (qO _ h)
  .rcases qw.1 h with h|h
   .exact .inr (by rw[h];exact qU ..)
   .exact (Vp h).imp id (qO _)
theorem qg5{ts:TS}{env:IEnv}{nm:ByteArray}{body:Bool}{s:ISt}(h:vB env):vB (renI ts es env nm body s).1.1:=by
 have i:vB (delK nm env):=fun e g=>h e (UX.subset g)
 unfold renI;split
 .intro e g a j
  rcases Vp g with rfl|g
  .cases j
  .exact i e g a j
 .exact i
theorem gD:∀{ks:List Nd} {ps:List (ByteArray×Int)} {own g:IEnv} {s s':ISt},(∀ k n' z s s',k∈ks->E k s = .ok ((n',z),s')->z=cntT n'/\Small n')->vB own->y5 E ps ks own s = .ok (g,s')->vB g
 | [],ps,own,g,s,s',_,i,e=>by
  have e:Except.ok (own,s)=(Except.ok (g,s'):XR IEnv):=by cases ps<;>exact e
  cases e;exact i
 |k :: ks,[],own,g,s,s',_,i,e=>by cases e;exact i
 |k :: ks,p :: ps,own,g,s,s',l,i,e=>by
  simp only[y5]at e;split at e
  .cases e
  .rename_i C m s1 r
   refine gD (fun k n' z s s' t=>l k n' z s s' (qO _ t)) (fun e j a o=>?_) e;rcases Vp j with rfl|j
   .cases o
    exact l k _ m s s1 (qU ..) r
   .exact i e j a o
theorem gE{E:IEnv->Nd->ISt->XR (Nd×Int)}{bin:Bool}(C:∀ env nm s,vB env->vB (R env nm s).1.1) :
  ∀{ks:List Nd} {i:Nat} {env:IEnv} {nm l:ByteArray} {s s':ISt} {j:List Nd} {m:Int},(∀ env k n' z s s',k∈ks->vB env->E env k s = .ok ((n',z),s')->z=cntT n'/\Small n')->vB env ->
  yR E R bin i env nm ks s = .ok ((l,j,m),s')->m=yr j/\j.length=ks.length/\∀ k,k∈j->Small k
 | [],i,env,nm,l,s,s',j,m,_,_,e=>by
  cases e;exact⟨rfl,rfl,fun k p=>absurd p qI⟩
 |k :: ks,i,env,nm,l,s,s',j,m,I,J,e=>by
  simp only[yR]at e;obtain⟨r,P⟩:∃ r,r=if bin=true/\i=1 then R env nm s else ((env,nm),s):=⟨_,rfl⟩
  rw[<-P]at e;have o:vB r.1.1:=by
   rw[P];split
   .exact C _ _ _ J
   .exact J
  split at e
  .cases e
  .rename_i T U s1 h1
   have g:=I r.1.1 k T U r.2 s1 (qU ..) o h1;split at e
   .cases e
   .rename_i a0 a1 m2 s2 h2
    obtain⟨q1,q2,q3⟩:=gE C (fun env k n' z s s' p=>I env k n' z s s' (qO _ p)) o h2;cases e;refine⟨by simp only[yr];rw[g.1,q1],by simp[q2],fun x t=>?_⟩;rcases qw.1 t with rfl|t
    .exact g.2
    .exact q3 x t
theorem Yo(ts:TS)(o:∀ p,p∈ts.preds->WfN p.body)(es:List (ByteArray×Bool)):∀(f:Nat) {env:IEnv} {n n':Nd} {body:Bool} {s s':ISt} {z:Int},vB env->WfN n->expI ts es f env n body s = .ok ((n',z),s')->z=cntT n'/\Small n'
 | 0,_,_,_,_,_,_,_,_,_,e=>by cases e
 |f+1,env,n,n',body,s,s',z,j,l,e=>by
  simp only[expI]at e;split at e
  .split at e
   .rename_i C
    have g:n.kids=[]:=by
     have r:=l.shape;unfold shp at r;rw[if_pos (.inl C)]at r;simp only[qo]at r;exact List.map_eq_nil_iff.1 r.symm
    unfold wq at e;split at e
    .cases e
     exact⟨by rw[WS,g];rfl,l.small⟩
    .rename_i v I
     split at e
     .cases e
      refine⟨by rw[WS];show 1=1+yr n.kids;rw[g];rfl,.mk _ (by show n.kids.length<=1000;rw[g];simp) fun k i=>?_⟩;have i:k∈n.kids:=i;rw[g]at i;exact absurd i qI
     .rename_i a T
      split at e
      .cases e
       exact j _ (WU I) _ T
      .cases e
   .split at e
    .split at e
     .cases e
     .rename_i p U
      obtain⟨own,s1,J,e⟩:=Zh e;have ho:=gD (fun k n' z s s' i P=>Yo ts o es f j (l.kid i) P) (fun e j=>absurd j qI) J;exact Yo ts o es f ho (o p (List.mem_of_find?_eq_some U)) e
    .obtain ⟨⟨a0,R,m⟩,s1,J,e⟩:=Zh e
     cases e;obtain⟨q1,q2,q3⟩:=gE (fun env t s h=>qg5 h) (fun env k n' z s s' i I P=>Yo ts o es f I (l.kid i) P) j J;refine⟨by rw[WS];show 1+m=_;rw[q1];rfl,.mk _ ?_ q3⟩;show R.length<=1000;have:=l.len;omega
  .cases e
theorem gF:∀{ks:List Nd} {ps:List (ByteArray×Int)} {own:IEnv} {s:ISt} {d:Dg},(∀ k s d,E k s = .error d->d=(2,0))->y5 E ps ks own s = .error d->d=(2,0)
 | [],ps,own,s,d,_,e=>by
  have e:Except.ok (own,s)=(Except.error d:XR IEnv):=by cases ps<;>exact e
  cases e
 |k :: ks,[],own,s,d,_,e=>by cases e
 |k :: ks,p :: ps,own,s,d,g,e=>by
  simp only[y5]at e;split at e
  .rename_i j i
   cases e;exact g _ _ _ i
  .exact gF g e
theorem gG{E:IEnv->Nd->ISt->XR (Nd×Int)}{bin:Bool}:∀{ks:List Nd} {i:Nat} {env:IEnv} {nm:ByteArray} {s:ISt} {d:Dg},(∀ env k s d,E env k s = .error d->d=(2,0))->yR E R bin i env nm ks s = .error d->d=(2,0)
 | [],i,env,nm,s,d,_,e=>by cases e
 |k :: ks,i,env,nm,s,d,g,e=>by
  simp only[yR]at e;split at e
  .rename_i j l
   cases e;exact g _ _ _ _ l
  .split at e
   .rename_i j o
    cases e;exact gG g o
   .cases e
theorem gH{i:Type}{q:XR C}{g:C->ISt->XR i}{d:Dg}(h:w9 q g = .error d):q = .error d\/∃ a s,q = .ok (a,s)/\g a s = .error d:=by
 unfold w9 at h;split at h
 .cases h;exact .inl rfl
 .exact .inr ⟨_,_,rfl,h⟩
theorem Yp(ts:TS)(es:List (ByteArray×Bool)):∀(f:Nat) {env:IEnv} {n:Nd} {body:Bool} {s:ISt} {d:Dg},expI ts es f env n body s = .error d->d=(2,0)
 | 0,_,_,_,_,_,e=>by cases e;rfl
 |f+1,env,n,body,s,d,e=>by
  simp only[expI]at e;split at e
  .split at e
   .unfold wq at e
    split at e
    .cases e
    .split at e
     .cases e
     .split at e
      .cases e
      .cases e;rfl
   .split at e
    .split at e
     .cases e;rfl
     .rcases gH e with e|⟨own,g,i,e⟩
      .exact gF (fun k s d h=>Yp ts es f h) e
      .exact Yp ts es f e
    .rcases gH e with e|⟨own,g,i,e⟩
     .exact gG (fun env k s d h=>Yp ts es f h) e
     .cases e
  .cases e;rfl
def outI(ts:TS)(es:List (ByteArray×Bool))(n:Nd):Except Dg Nd:=
 match expI ts es 4001 [] n false ⟨0,0⟩ with
 | .error d => .error d
 | .ok ((g,z),_)=>if z<=400/\depN g<=24 then .ok g else .error (2,n.pos)
theorem qg6{ts:TS}{n:Nd}{d:Dg}(h:outI ts es n = .error d):d.1=2:=by
 unfold outI at h;split at h
 .rename_i i g
  cases h;rw[Yp ts es _ g]
 .split at h
  .cases h
  .cases h;rfl
end
end YE
namespace YG
open YS P1 Y1 Y9 YX YZ YA YB YC YE Q6
def valD(l:List UInt8):Nat:=l.foldl (fun a b=>10*a+(b.toNat-48)) 0
theorem gJ(u:Nat):valD (Lib.decDigits u)=u:=by
 induction u using Nat.strongRecOn with
 |_ u g =>
  rw[Lib.decDigits];split
  .rename_i h
   simp only[valD,List.foldl_cons,List.foldl_nil];rw[UInt8.toNat_ofNat_of_lt' (by simp[UInt8.size];omega)];omega
  .rename_i h
   have:=g (u / 10) (by omega);unfold valD at this⊢;rw[Qe,this];simp only[List.foldl_cons,List.foldl_nil];rw[UInt8.toNat_ofNat_of_lt' (by simp[UInt8.size];omega)];omega
theorem qg7{a b:Nat}(h:jf (a:Int)=jf (b:Int)):a=b:=by
 have g:Lib.decDigits a=Lib.decDigits b:=by
  unfold jf Lib.itoa at h;rw[if_neg (by omega),if_neg (by omega)]at h;simp only[Int.toNat_natCast]at h;have h:=congrArg (fun x:ByteArray=>x.data.toList) h;simpa using h
 rw[<-gJ a,g,gJ]
theorem qg8{p a b:ByteArray}(h:p++a=p++b):a=b:=by
 have h:=congrArg (fun x:ByteArray=>x.data.toList) h;simp only[ByteArray.data_append,Array.toList_append]at h;have:=List.append_cancel_left h;cases a;cases b;simp at this;rw[this]
theorem gK{a b:Nat}(h:vN (a:Int)=vN (b:Int)):a=b:=qg7 (qg8 h)
def badL(ts:TS)(es:List (ByteArray×Bool)):List ByteArray:=es.map Prod.fst++(ts.fields.map (fun f=>f.name)++ts.sorts.flatMap fun s=>[s.1,s.1++uI,s.1++uJ])
theorem qg9(ts:TS)(es:List (ByteArray×Bool)):(badL ts es).length+1=qu ts es:=by
 have:∀ l:List (ByteArray×Bool),(l.flatMap fun s=>[s.1,s.1++uI,s.1++uJ]).length=3*l.length:=by
  intro l;induction l with
  |nil=>rfl
  |cons a l g=>rw[wB,qX,g];simp;omega
 unfold badL qu;rw[qX,qX,this,zH,zH];omega
theorem qhA{ts:TS}{es:List (ByteArray×Bool)}{nm:ByteArray}(h:y0 ts es nm=false):nm∈badL ts es:=by
 unfold y0 at h;unfold badL;rw[Bool.and_eq_false_iff]at h;rcases h with h|h
 .have h:getK nm es=some true:=by simpa using h
  exact yC _ (qp.2 ⟨_,WU h,rfl⟩)
 .refine List.mem_append_right _ ?_
  have h:means ts nm≠[]:=by simpa using h
  unfold means at h;by_cases hf:j7 ts.fields nm=[]
  .rw [hf,List.nil_append]at h
   refine List.mem_append_right _ ?_;have:∀(g:List (ByteArray×Bool)) (i:Nat),ua i g nm≠[]->nm∈g.flatMap fun s=>[s.1,s.1++uI,s.1++uJ]:=by
    intro g;induction g with
    |nil=>intro i h;exact absurd rfl h
    |cons s g t =>
     intro i h;rw[wB,qG];by_cases j:wX i s nm=[]
     .refine .inr (t (i+1) ?_)
      simpa[ua,j] using h
     .left
      unfold wX at j;by_cases l:s.1=nm
      .simp [l]
      by_cases o:s.2=true/\s.1++uI=nm
      .simp [o.2]
      by_cases p:s.2=true/\s.1++uJ=nm
      .simp [p.2]
      exact absurd (by simp[l,o,p]) j
   exact this ts.sorts 0 h
  .refine yC _ ?_
   obtain⟨k,r⟩:=List.exists_mem_of_ne_nil _ hf;unfold j7 at r;obtain⟨f,hf,e⟩:=List.mem_filterMap.1 r;split at e
   .rename_i C
    exact qp.2 ⟨f,hf,C⟩
   .cases e
theorem gL(ts:TS)(es:List (ByteArray×Bool)):Free ts es:=by
 intro l J;by_cases g:∃ j:Nat,1<=j/\j<=qu ts es/\y0 ts es (vN (l+j))=true
 .exact g
 exfalso;obtain⟨L,rfl⟩:∃ L:Nat,l=L:=⟨l.toNat,by omega⟩;have o:∀ x,x∈(qt (qu ts es)).map (fun i=>vN ((L+(i+1):Nat):Int))->x∈badL ts es:=fun x t=>by
  obtain⟨i,C,rfl⟩:=qp.1 t;rw[yk]at C;refine qhA ?_;cases I:y0 ts es (vN ((L+(i+1):Nat):Int)) with
  |false=>rfl
  |true=>exact absurd ⟨i+1,by omega,by omega,by rw[show (L:Int)+((i+1:Nat):Int)=((L+(i+1):Nat):Int) by omega];exact I⟩ g
 have p:((qt (qu ts es)).map (fun i=>vN ((L+(i+1):Nat):Int))).Nodup:=by
  refine List.pairwise_map.2 (List.nodup_range.imp fun r e=>r ?_);have:=gK e;omega
 have:=jU p o;rw[zH,List.length_range]at this;have:=qg9 ts es;omega
def putN(es:List (ByteArray×Bool))(l:List Nd):List (ByteArray×Bool):=l.foldl (fun es n=>setK n.name true es) es
def yS(ts:TS)(n:Nd):List (ByteArray×Bool):=ts.preds.foldl (fun T p=>putN T (preN p.body)) (putN [] (preN n))
def yB(ts:TS)(n:Nd):Nd×Int:=
 if (yg ts [] n).1≠0 then (nd0,(yg ts [] n).1)
 else if anyN (fun n=>decide (n.op=47)) n=false then (n,0)
 else match outI ts (yS ts n) n with
  | .error d=>(nd0,d.1)
  | .ok g=>(g,0)
theorem WV(p:Nd->Bool):∀(m:Nat) (n:Nd),szN n<=m->anyN p n=(preN n).any p
 | 0,n,g=>by obtain⟨op,nm,i,ks,q⟩:=n;simp[szN]at g
 |m+1,n,g=>by
  rw[Va,uU,List.any_cons];congr 1;have:∀ l:List Nd,(∀ k,k∈l->k∈n.kids)->j8 p l=(zm l).any p:=by
   intro l;induction l with
   |nil=>intro _;rfl
   |cons k l o =>
    intro j;simp only[j8,zm,List.any_append];rw[o fun x r=>j x (qO _ r),WV p m k (by have:=yx (j k (qU ..));omega)]
  exact this n.kids fun k t=>t
end YG
namespace YH
open Y1 Y6 YX
theorem qhB(mu:Mu):Rd mu eN0 (eNd nd0) := .agg _ _ rfl fun k x y g i=>by
 match k with
 | 0=>simp[nd0,cNd]at g i;subst g;subst i;exact .hf _ (HF.sc _)
 | 1=>simp[nd0,cNd]at g i;subst g;subst i;exact .hf _ (HF.sc _)
 | 2=>simp[nd0,cNd]at g i;subst g;subst i;exact .hf _ (HF.sc _)
 | 3=>simp[nd0,cNd,cNds]at g i;subst g;subst i;exact .wk _ true [] (.hf _ (HF.lst fun r j=>absurd j qI))
 | 4=>simp[nd0,cNd]at g i;subst g;subst i;exact .hf _ (HF.sc _)
 |k+5=>simp at g
theorem Vq(mu:Mu)(d:Int):Rd mu (.tup [eN0,aI d]) (.tup [eNd nd0,aI d]) := .tup _ _ rfl fun k x y g i=>by
 match k with
 | 0=>simp at g i;subst g;subst i;exact qhB _
 | 1=>simp at g i;subst g;subst i;exact .hf _ (HF.sc _)
 |k+2=>simp at g
end YH
end Go.Proofs.YtpagnklaanbmbaaGreatDoor
namespace Go.EvW
open Go Go.Ev Go.RowKit Go.ChangeShapes Go.WideShapes
section
variable {C H:Type}{c:C->List AV}{fs:List (qf×Nat)}{cs:List zS}{N:Nat}{P:qb}{t:qf}{w:qh}
def CR(w:qh)(xs:List AV)(cs:List zS):Prop:=
 cs.length=xs.length/\∀(k:Nat) x,xs[k]?=some x->VRel ⟨(·<w.heap.size),[]⟩ w.heap x (cs.getD k j2)
theorem CR.nil(w:qh):CR w [] []:=⟨rfl,by simp⟩
theorem CR.one{x:AV}{v:zS}(h:VRel ⟨(·<w.heap.size),[]⟩ w.heap x v):CR w [x] [v]:=⟨rfl,fun k y g=>by
 cases k with
 |zero=>simp at g;subst g;simpa using h
 |succ k=>simp at g⟩
theorem CR.app{xs ys:List AV}{ds:List zS}(h:CR w xs cs)(k:CR w ys ds):CR w (xs++ys) (cs++ds):=by
 refine⟨by simp[h.1,k.1],fun i x g=>?_⟩;by_cases j:i<xs.length
 .rw [qx j]at g
  have:=h.2 i x g;rw[za]at this⊢;rw[qx (by rw[h.1];exact j)];exact this
 .rw [qV (by omega)]at g
  have:=k.2 _ x g;rw[za]at this⊢;rw[qV (by rw[h.1];omega),h.1];exact this
def y6(P:qb)(t:qf)(d:DataW H):Prop:=(d.weights P t).all (·<=reachBytes)=true
theorem y6.all{e:qf}:∀{ds:List (DataW H)},(DataW.weightsAll P e ds).all (·<=reachBytes)=true->∀(i:Nat) d,ds[i]?=some d->y6 P e d
 | [],_,i,d,g=>by simp at g
 |x :: r,h,i,d,g=>by
  simp only[DataW.weightsAll,List.all_append,qr]at h;cases i with
  |zero=>simp at g;subst g;exact h.1
  |succ i=>exact y6.all h.2 i d (by simpa using g)
theorem y6.each:∀{ts:List qf} {ds:List (DataW H)},(DataW.weightsEach P ts ds).all (·<=reachBytes)=true->∀(i:Nat) t d,ts[i]?=some t->ds[i]?=some d->y6 P t d
 | [],ds,_,i,t,d,g,_=>by simp at g
 |t0 :: ts,[],_,i,t,d,_,j=>by simp at j
 |t0 :: ts,x :: r,h,i,t,d,g,j=>by
  simp only[DataW.weightsEach,List.all_append,qr]at h;cases i with
  |zero=>simp at g j;subst g;subst j;exact h.1
  |succ i=>exact y6.each h.2 i t d (by simpa using g) (by simpa using j)
def ShT(P:qb)(n:Nat)(t:qf){C:Type}(c:C->List AV)(ok:C->Prop):Prop:=
 ∀(H:Type) (g:qf×zS->H) (w:qh) (i:List zS) (x:DataW H×List MemPlace),
  DataW.trod g P w 0 (fun _=>true) true n t i=some x->y6 P t x.1->∃ a,ok a/\CR w (c a) i
def ShU(P:qb)(N:Nat)(t:qf){C:Type}(c:C->List AV)(ok:C->Prop):Prop:=∀ n,n<N->ShT P n t c ok
theorem ShU.le{M:Nat}{ok:C->Prop}(h:ShU P N t c ok)(g:M<=N):ShU P M t c ok:=fun n i=>h n (by omega)
theorem ShU.map{i:Type}{ok:C->Prop}{c':i->List AV}{g:i->Prop}(h:ShU P N t c ok)(f:C->i)(l:∀ a,c' (f a)=c a)(o:∀ a,ok a->g (f a)):ShU P N t c' g:=by
 intro n p H j w r x I J;obtain⟨a,R,T⟩:=h n p H j w r x I J;exact⟨f a,o a R,by rw[l];exact T⟩
theorem ShU.int{k:IntKind}(g:P.underlying t=some (.int k))(N:Nat):ShU P N t (fun n:Int=>[.sc (.int k n)]) (fun n=>(Lit.int k n).wf=true):=by
 intro n o H j w p x h _;obtain⟨i,rfl,_,l⟩:=DataW.trod_int g h;exact⟨i,l,.one (.sc _ rfl)⟩
theorem ShU.bool(g:P.underlying t=some .bool)(N:Nat):ShU P N t (fun b:Bool=>[.sc (.bool b)]) (fun _=>True):=by
 intro n l H j w o x h _;obtain⟨i,rfl,_⟩:=DataW.trod_bool g h;exact⟨i,trivial,.one (.sc _ rfl)⟩
theorem ShU.string(j:P.underlying t=some .string)(N:Nat):ShU P N t (fun s:ByteArray=>[.sc (.string s)]) (fun s=>s.size<=140737488351232):=by
 intro n p H l w r x h g;obtain⟨i,rfl,rfl,C⟩:=DataW.trod_string j h;refine⟨i,?_,.one (.sc _ rfl)⟩;unfold y6 at g;simp only[DataW.weights,List.all_cons,List.all_nil,Bool.and_true,decide_eq_true_eq]at g;have e:i.data.toList.length=i.size:=Array.length_toList;have o:i.size<=reachBytes:=by rw[<-e];exact g
 exact zY o (yj rfl)
theorem gM{a:Addr}{n:Nat}(h:w.cells? 0 a n=some cs):cs.length=n/\∀ i,i<n->w.cell? (a.add i)=some (cs.getD i j2):=by
 unfold World.cells? at h;rw[if_pos (Nat.zero_le _)]at h;have j:=mapM_some_length h;refine⟨by simpa using j,fun i l=>?_⟩;have:=mapM_some_get h i i (by simp[l]);have g:i<cs.length:=by simp at j;omega
 rw[this,za,qz g];rfl
theorem gN{a:Addr}{v:zS}(h:w.cell? a=some v):∃ arr e g,w.heap[a.block]?=some (.cells arr e g)/\a.spot=none/\arr[a.off]?=some v:=by
 unfold World.cell? at h;split at h
 .rename_i c e g i
  split at h
  .cases h
  .rename_i j
   exact⟨c,e,g,i,by simpa using j,h⟩
 .cases h
theorem qhC [Inhabited C] {p:Nat->C->Prop} (n:Nat) (h:∀ i,i<n->∃ a,p i a):∃ l:List C,l.length=n/\∀(i:Nat) a,l[i]?=some a->p i a:=by
 induction n with
 |zero=>exact⟨[],rfl,by simp⟩
 |succ n o =>
  obtain⟨l,r,t⟩:=o (fun i j=>h i (by omega));obtain⟨a,I⟩:=h n (by omega);refine⟨l++[a],by simp[r],fun i b g=>?_⟩;by_cases j:i<l.length
  .rw [qx j]at g;exact t i b g
  .rw [qV (by omega)]at g
   have:i-l.length=0:=by
    cases J:i-l.length with
    |zero=>rfl
    |succ q=>rw[J]at g;simp at g
   rw[this]at g;simp at g;subst g;have:i=n:=by omega
   subst this;exact I
theorem ShU.slice{e:qf} [Inhabited C] {c:C->List AV} {ok:C->Prop} (ht:P.underlying t=some (.slice e)) (he:ShU P N e c ok) (a4:∀ a,ok a->(c a).length=P.cellsOf e) (J:0<P.cellsOf e) (af:Nat.blt 0 (P.bytesOf e)=true) :
  ShU P (N+1) t (fun l:List C=>[.lst false (l.map c)]) (fun l=>l.length<=140737488351232/\∀ a,a∈l->ok a):=by
 intro n hn H ag w cs x h hw;rcases DataW.trod_slice ht h with ⟨rfl,_⟩|⟨a,len,cap,g,R,m,rfl,rfl,rfl,_,hl,hc,ax,a5,_,_⟩
 .exact ⟨[],⟨by simp,by simp⟩,.one (.nil _)⟩
 .have ah:(DataW.weightsAll P e (g.map (·.1))).all (·<=reachBytes)=true:=by
   unfold y6 at hw;simp only[DataW.weights,ht,List.all_cons,List.all_append,qr]at hw;exact hw.2.1
  have ai:len<=140737488351232:=by
   unfold y6 at hw;simp only[DataW.weights,ht,List.all_cons,List.all_append,qr,decide_eq_true_eq]at hw;have I:=hw.1;have aj:1<=P.bytesOf e:=yj af;have h2:((g.map (·.1)).length+(R.map (·.1)).length)*1<=((g.map (·.1)).length+(R.map (·.1)).length)*P.bytesOf e:=Nat.mul_le_mul_left _ aj;simp only[zH]at I h2;have h3:reachBytes<=140737488351232:=yj rfl;have h4:=zY h2 (zY I h3);omega
  have key:∀ i,i<len->∃ b,ok b/\∃ o,w.cells? 0 (a.add (i*P.cellsOf e)) (P.cellsOf e)=some o/\CR w (c b) o:=by
   intro i hi;have I:=a5 i hi;have a6:i<g.length:=by omega
   rw[qz a6]at I;obtain⟨o,h2,h3⟩:=Option.bind_eq_some_iff.1 I;obtain⟨b,h4,h5⟩:=he m (by omega) H ag w o _ h3 (y6.all ah i _ (by rw[zp,qz a6];rfl));exact⟨b,h4,o,h2,h5⟩
  obtain⟨l,a7,p⟩:=qhC len key;refine⟨l,⟨by rw[a7];exact ai,fun b U=>?_⟩,.one ?_⟩
  .obtain ⟨i,hi⟩:=List.mem_iff_getElem?.1 U
   exact(p i b hi).1
  .have ak:(l.map c).length=len:=by simp[a7]
   rw[<-ak];cases Nat.eq_zero_or_pos len with
   |inl h0 =>
    have:l=[]:=vH (by omega);subst this;exact .emp _ a cap (by simp)
   |inr hp =>
    have al:0<l.length:=by omega
    obtain⟨_,ay,I,_⟩:=p 0 l[0] (qz al);obtain⟨an,a0⟩:=gM I;have ao:=a0 0 J;obtain⟨arr,el,fr,U,hs,_⟩:=gN ao;have T:∀ k:Nat,a.spot=none->(a.add k).spot=none/\(a.add k).off=a.off+k:=by
     intro k hk;unfold Addr.add;split<;>simp_all
    have a8:∀(b:Addr) (j:Nat),(b.add j).block=b.block:=by
     intro b j;unfold Addr.add;split<;>rfl
    have e0:((a.add (0*P.cellsOf e)).add 0).block=a.block/\((a.add (0*P.cellsOf e)).add 0).spot=a.spot:=by
     unfold Addr.add;split<;>simp_all
    rw[e0.1]at U;rw[e0.2]at hs;have hz:z6 (P.cellsOf e) (l.map c):=fun r hr=>by
     obtain⟨b,aq,rfl⟩:=qp.1 hr;obtain⟨i,hi⟩:=List.mem_iff_getElem?.1 aq;exact a4 b (p i b hi).1
    have ar:=zZ hz;refine .lst false (l.map c) (P.cellsOf e) a cap arr el fr (fun k=>arr.getD (a.off+k) j2) U hs (by omega) (by simp) (Array.getElem?_eq_some_iff.1 U).1 hz ?_ ?_
    all_goals
     intro k x hk;have a9:k<(l.map c).length*P.cellsOf e:=by rw[<-ar];exact(qj.1 hk).1
     have hq:k / P.cellsOf e<l.length:=by
      rw[zH]at a9;exact Nat.div_lt_of_lt_mul (by rw[Nat.mul_comm];exact a9)
     have hr:k % P.cellsOf e<P.cellsOf e:=Nat.mod_lt _ J;have au:k / P.cellsOf e*P.cellsOf e+k % P.cellsOf e=k:=by
      have:=Nat.div_add_mod k (P.cellsOf e);rw[Nat.mul_comm]at this;exact this
     obtain⟨_,o,I,h2⟩:=p (k / P.cellsOf e) _ (qz hq);obtain⟨an,a0⟩:=gM I;have av:=a0 _ hr;have aa:(l.map c)[k / P.cellsOf e]?=some (c l[k / P.cellsOf e]):=by rw[zp,qz hq];rfl
     have hx:(c l[k / P.cellsOf e])[k % P.cellsOf e]?=some x:=by
      have ab:k % P.cellsOf e<(c l[k / P.cellsOf e]).length:=by rw[a4 _ (p _ _ (qz hq)).1];exact hr
      have:=VW hz aa (qz ab);rw[au]at this;rw[this]at hk;rw[qz ab];exact hk
     obtain⟨aw,az,b0,ad,b1,a3⟩:=gN av;have e1:((a.add (k / P.cellsOf e*P.cellsOf e)).add (k % P.cellsOf e)).block=a.block:=by rw[a8,a8]
     have e2:((a.add (k / P.cellsOf e*P.cellsOf e)).add (k % P.cellsOf e)).off=a.off+k:=by
      have a1:=(T (k / P.cellsOf e*P.cellsOf e) hs).2;have a2:=(T (k / P.cellsOf e*P.cellsOf e) hs).1;have:∀(b:Addr) (j:Nat),b.spot=none->(b.add j).off=b.off+j:=by
       intro b j U;unfold Addr.add;split<;>simp_all
      rw[this _ _ a2,a1];omega
     rw[e1,U]at ad;cases ad;rw[e2]at a3;have ae:arr.getD (a.off+k) j2=o.getD (k % P.cellsOf e) j2:=by
      rw[qF,a3];rfl
    .rw [ae];exact a3
    .show VRel _ _ x (arr.getD (a.off+k) j2)
     rw[ae];exact h2.2 _ x hx
def Vs(P:qb)(t:qf):Option (List (qf×Nat)):=match P.underlying t with|some (.struct g)=>some (g.toList.map fun f=>(f.type,f.offset))|_=>none
inductive ShF (P:qb) (N:Nat):Nat->List (qf×Nat)->{α:Type}->(α->List AV)->(α->Prop)->Prop where
 |nil (o:Nat):ShF P N o [] (fun _:Unit=>[]) (fun _=>True)
 |cons {o:Nat} {t:qf} {fs:List (qf×Nat)} {α β:Type} {c:α->List AV} {ok:α->Prop} {c':β->List AV} {ok':β->Prop} (h:ShU P N t c ok) (k:ShF P N (o+P.cellsOf t) fs c' ok') :
   ShF P N o ((t,o) :: fs) (fun x:α×β=>c x.1++c' x.2) (fun x=>ok x.1/\ok' x.2)
def Yq(P:qb)(fs:List (qf×Nat)):Nat:=(fs.map fun f=>P.cellsOf f.1).foldr (·+·) 0
theorem ShF.read{n o:Nat}{ok:C->Prop}(h:ShF P N o fs c ok)(I:n<N){H:Type}{enc:qf×zS->H}{w:qh}(cs:List zS)
  (j:cs.length=o+Yq P fs) (r:∀(i:Nat) f,fs[i]?=some f->∃ x,DataW.trod enc P w 0 (fun _=>true) true n f.1 ((cs.drop f.2).take (P.cellsOf f.1))=some x/\y6 P f.1 x.1) :
  ∃ a,ok a/\CR w (c a) (cs.drop o):=by
 induction h with
 |nil o =>
  refine⟨(),trivial,?_⟩;rw[List.drop_of_length_le (by simp[Yq]at j;omega)];exact .nil w
 | @cons o t fs C β c ok c' J h k R =>
  obtain⟨x,l,p⟩:=r 0 _ rfl;obtain⟨a,T,U⟩:=h n I H enc w _ x l p;have a0:Yq P ((t,o) :: fs)=P.cellsOf t+Yq P fs:=rfl;obtain⟨b,hb,hs⟩:=R (by omega) (fun i g hg=>r (i+1) g hg);refine⟨(a,b),⟨T,hb⟩,?_⟩;have e:cs.drop o=(cs.drop o).take (P.cellsOf t)++cs.drop (o+P.cellsOf t):=by
   rw[<-List.drop_drop,u3]
  rw[e];exact U.app hs
theorem ShU.struct{ok:C->Prop}(l:Vs P t=some fs)(hf:ShF P N 0 fs c ok)(r:P.cellsOf t=Yq P fs):ShU P (N+1) t c ok:=by
 intro n hn H o w cs x h I;unfold Vs at l;split at l
 .rename_i gs T
  simp only[qo]at l;subst l;obtain⟨U,m,rfl,rfl,hl,J,hg⟩:=DataW.trod_struct T h;have R:(DataW.weightsEach P (gs.toList.map (·.type)) (U.map (·.1))).all (·<=reachBytes)=true:=by
   unfold y6 at I;simp only[DataW.weights,T]at I;exact I
  obtain⟨a,ha,hr⟩:=hf.read (n:=m) (by omega) (w:=w) (enc:=o) cs (by rw[hl,r];simp) (fun i f hi=>by
   simp only[zp,Option.map_eq_some_iff]at hi;obtain⟨g,j,rfl⟩:=hi;have h1:=hg i g (by simpa using j);have p:i<U.length:=by
    rw[J];have:=(qj.1 j).1;simpa using this
   rw[qz p]at h1;exact⟨_,h1,y6.each R i _ _ (by rw[zp,j];rfl) (by rw[zp,qz p];rfl)⟩)
  exact⟨a,ha,by simpa using hr⟩
 .cases l
theorem ShU.arg1{c:C->AV}{ok:C->Prop}(h:∀ N,ShU P N t (fun a=>[c a]) ok)(g:∀(w:qh) (r:Reach) (b:Nat) (v:zS),Value.okWide P w r b t v->v.cells=#[v])
  {H:Type} {enc:qf×zS->H} {w:qh} {r:Reach} {b:Nat} {v:zS} {d:DataW H} {ps:List MemPlace} (i:Value.okWide P w r b t v) (l:DataW.Trod enc P w 0 (fun _=>true) true t v d ps) (o:y6 P t d) :
  ∃ a,ok a/\VRel ⟨(·<w.heap.size),[]⟩ w.heap (c a) v:=by
 obtain⟨n,p⟩:=l;obtain⟨a,I,j⟩:=h (n+1) n (by omega) H enc w _ _ p o;rw[g w r b v i]at j;have:=j.2 0 (c a) rfl;exact⟨a,I,by simpa using this⟩
theorem ShU.argS{ok:C->Prop}{fs:Array Field}(h:∀ N,ShU P N t c ok)(j:P.underlying t=some (.struct fs))
  {H:Type} {enc:qf×zS->H} {w:qh} {r:Reach} {b:Nat} {v:zS} {d:DataW H} {ps:List MemPlace} (g:Value.okWide P w r b t v) (l:DataW.Trod enc P w 0 (fun _=>true) true t v d ps) (o:y6 P t d) :
  ∃ a,ok a/\VRel ⟨(·<w.heap.size),[]⟩ w.heap (.agg (c a)) v:=by
 obtain⟨n,p⟩:=l;obtain⟨a,I,i⟩:=h (n+1) n (by omega) H enc w _ _ p o;unfold Value.okWide at g;rw[j]at g;obtain⟨R,rfl,_,_⟩:=g;refine⟨a,I,.agg _ _ (by simpa[Value.cells] using i.1) (fun k x J=>?_)⟩;have:=i.2 k x J;simpa[Value.cells,qF,za] using this
end
end Go.EvW
namespace Go.EvW
open Go Go.Ev Go.RowKit Go.ChangeShapes Go.WideShapes
section
variable {C:Type}{c:C->List AV}{ts:List qf}{P:qb}{t:qf}{w:qh}
def Yr(P:qb)(t:qf){C:Type}(c:C->AV)(ok:C->Prop):Prop:=
 ∀(H:Type) (g:qf×zS->H) (w:qh) (r:Reach) (b:Nat) (v:zS) (d:DataW H) (i:List MemPlace),Value.okWide P w r b t v->DataW.Trod g P w 0 (fun _=>true) true t v d i->y6 P t d ->
  ∃ a,ok a/\VRel ⟨(·<w.heap.size),[]⟩ w.heap (c a) v
theorem Yr.struct{ok:C->Prop}(g:(Vs P t).isSome=true)(h:∀ N,ShU P N t c ok):Yr P t (fun a => .agg (c a)) ok:=by
 intro H i w r b v d I j l o;unfold Vs at g;split at g
 .rename_i J p;exact ShU.argS h p j l o
 .simp at g
inductive ArgF (P:qb):List qf->{α:Type}->(α->List AV)->(α->Prop)->Prop where
 |nil:ArgF P [] (fun _:Unit=>[]) (fun _=>True)
 |cons {t:qf} {ts:List qf} {α β:Type} {c:α->AV} {ok:α->Prop} {c':β->List AV} {ok':β->Prop} (h:Yr P t c ok) (k:ArgF P ts c' ok'):ArgF P (t :: ts) (fun x:α×β=>c x.1 :: c' x.2) (fun x=>ok x.1/\ok' x.2)
theorem ArgF.read{ok:C->Prop}(h:ArgF P ts c ok){H:Type}{enc:qf×zS->H}{w:qh}{r:Reach}{b:Nat} :
  ∀{g:List zS} {ds:List (DataW H)} {ps:List MemPlace},DataW.TrodAll enc P w 0 (fun _=>true) true ts g ds ps->(∀(j:Nat) t v,ts[j]?=some t->g[j]?=some v->Value.okWide P w r b t v)->(DataW.weightsEach P ts ds).all (·<=reachBytes)=true ->
  ∃ a,ok a/\ds.length=ts.length/\g.length=(c a).length/\∀(k:Nat) x,(c a)[k]?=some x->VRel ⟨(·<w.heap.size),[]⟩ w.heap x (g.getD k j2):=by
 induction h with
 |nil =>
  intro g ds ps l _ _;obtain⟨rfl,rfl,rfl⟩:=trodAll_nil l;exact⟨(),trivial,rfl,rfl,by simp⟩
 | @cons t ts C β c ok c' T h k U =>
  intro g ds ps l R o;obtain⟨v,a0,d,a1,p,q,rfl,rfl,rfl,h1,h2⟩:=trodAll_cons l;simp only[DataW.weightsEach,List.all_append,qr]at o;obtain⟨a,ha,hr⟩:=h H enc w r b v d p (R 0 t v rfl rfl) h1 o.1;obtain⟨a',I,J,hl,hg⟩:=U h2 (fun j t v=>R (j+1) t v) o.2;refine⟨(a,a'),⟨ha,I⟩,by simp[J],by simp[hl],fun k x i=>?_⟩;cases k with
  |zero=>simp at i;subst i;simpa using hr
  |succ k =>
   simp only[ve]at i;simpa[za] using hg k x i
theorem gO(l:laidOutB P=true){H:Type}{enc:qf×zS->H}{W o:qh}{r:Nat->Bool}:∀{ts:List qf} {i:List zS} {ds:List (DataW H)} {ps:List MemPlace},
  (∀ t,t∈ts->P.readableRec t=true/\t<P.types.size)->DataW.TrodAll enc P W 0 (fun _=>true) true ts i ds ps->(∀ p∈ps,W.sameAt o p)->(∀ p∈ps,r p.block=true)->DataW.TrodAll enc P o 0 r true ts i ds ps
 | [],i,ds,ps,_,h,_,_=>by
  obtain⟨rfl,rfl,rfl⟩:=trodAll_nil h;exact trodAll_mk0
 |t :: ts,i,ds,ps,C,h,I,J=>by
  obtain⟨v,R,d,T,p,q,rfl,rfl,rfl,g1,U⟩:=trodAll_cons h;have j:=C t (by simp);exact trodAll_cons_mk (WideElems.Trod_stays l j.1 j.2 g1 (fun x g=>I x (by simp[g])) (fun x g=>J x (by simp[g])))
   (gO l (fun t j=>C t (by simp[j])) U (fun x g=>I x (by simp[g])) (fun x g=>J x (by simp[g])))
theorem qhD{f:j1}{fn:Func}{s:ChangeSpec}{tb:qf}{ok:C->Prop}(hp:fn.params=ts.toArray)(hF:ArgF P ts c ok)(hv:s.vars=[])
  (a0:∀(H:Type) (ds:List (DataW H)),ds.length=ts.length->s.fn H ds={ results:=[.lit (.bool true)],args:=ds }) (hr:fn.resultTypes=#[tb]) (a1:P.underlying tb=some .bool)
  (hl:laidOutB P=true) (a2:(ts.all fun t=>P.readableRec t&&decide (t<P.types.size))=true) (hS:∀ a,ok a->qe P f (c a) (aB true))
  (H:Type) (I:qf×zS->H) (W:qh) (base:Nat) (args:Array zS) (ds gs:List (DataW H)) (g:List MemPlace)
  (i:∀(j:Nat) t v,fn.params[j]?=some t->args[j]?=some v->Value.okWide P W .any base t v) (hW:DataW.Whole I P fn.params.toList s.vars false W args.toList ds gs g) (J:(DataW.weightsEach P fn.params.toList ds).all (·<=reachBytes)=true) (hT:wC (·<W.heap.size) W.heap) :
  Calls P f args W fun e W'=>∃ v,e = .returned v/\s.post I P fn false true false false W args v W':=by
 have a3:=hW;obtain⟨p,q,U,hV,R,aa,_⟩:=hW;rw[hv]at hV;obtain⟨hg,hq⟩:=trodVars_none hV;subst hg;subst hq;rw[zO]at R;subst R;rw[hp]at U i;obtain⟨a,ha,a4,a5,a6⟩:=hF.read (r := .any) (b:=base) U (fun j t v h1 h2=>i j t v (by simpa using h1) (by simpa using h2)) (by rw[hp]at J;exact J);have T:∀ x,x∈g->x.block<W.heap.size:=fun x l=>U.lt x l
 obtain⟨_,o⟩:=hS a ha;refine(o (·<W.heap.size) W args (Sim.empty (fun _ h=>h) hT) ⟨by simpa using a5,fun k x hk=>?_⟩).mono fun e W' ⟨a9,v,he,_,_,hb,a7⟩=>?_
 .have:=a6 k x hk
  simpa[qF,za] using this
 .have a8:v = .bool true:=by cases a7;rfl
  subst a8;refine⟨_,he,ds,[],g,[],g,[],a3,?_,?_,?_,World.keptBut_mono (fun x l=>⟨l,.inr (.inl l)⟩) (hb.frame (·∈g)),fun h=>by cases h⟩
  all_goals try rw[zO]
  all_goals try rw[a0 H ds a4]
  .rw [hr]
   exact trodAll_cons_mk (p':=[]) (shut_bool a1 true) trodAll_mk0
  .rw [hp]
   refine gO hl (fun t ht=>?_) U (fun x l=>hb.same (T x l)) (fun x l=>by simpa using T x l);have:=qH.1 a2 t ht;simpa using this
  .rw [hv];rfl
theorem ShF.cons'{N o o':Nat}{fs:List (qf×Nat)}{i:Type}{ok:C->Prop}{c':i->List AV}{g:i->Prop}(j:o+P.cellsOf t=o')(h:ShU P N t c ok)(k:ShF P N o' fs c' g) :
  ShF P N o ((t,o) :: fs) (fun x:C×i=>c x.1++c' x.2) (fun x=>ok x.1/\g x.2):=by
 subst j;exact .cons h k
theorem gP:∀{laid:List (String×DataW Unit)} {ps:List MemPlace},DataW.LaidVars P w laid ps->∀ x,x∈laid->∃ g t cs fuel p,P.globalNamed x.1=some g/\(P.globals[g]?).map (·.type)=some t/\w.var? P x.1=some cs/\DataW.trod (fun _=>()) P w 0 (fun _=>true) false fuel t cs.toList=some (x.2,p)
 | [],_,_,x,i=>by simp at i
 | (n,d) :: r,ps,h,x,i=>by
  obtain⟨g,t,cs,fuel,p,q,j,l,o,C,I,_⟩:=h;rcases qw.1 i with rfl|i
  .exact ⟨g,t,cs,fuel,p,j,l,o,C⟩
  .exact gP I x i
theorem qhE{e:qf}{n fuel:Nat}{k:IntKind}(U:P.underlying t=some (.array n e))(he:P.underlying e=some (.int k))(hc:P.cellsOf e=1)(C:P.cellsOf t=n){cs:List zS}{ns:List Int}{p:List MemPlace}
  (h:DataW.trod (fun _=>()) P w 0 (fun _=>true) false fuel t cs=some (.agg (ns.map fun i => .lit (.int k i)),p)):cs=ns.map fun i => .int k i:=by
 obtain⟨g,m,_,j,T,hn,l⟩:=DataW.trod_array U h;simp only[vj,DataW.agg.injEq]at j;have j:=j.1;have I:ns.length=n:=by have:=congrArg List.length j;simp at this;omega
 rw[C]at T;rw[hc]at l;apply List.ext_getElem
 .simp [T,I]
 .intro i h1 h2
  have J:=l i (by omega);rw[Nat.mul_one]at J;have o:i<g.length:=by omega
  rw[qz o]at J;obtain⟨z,R,e2,_⟩:=DataW.trod_int he J;have h4:(g[i]).1=DataW.lit (.int k z):=by rw[e2]
  have r:(ns.map fun i=>(DataW.lit (.int k i):DataW Unit))[i]?=(g.map (·.1))[i]?:=by rw[j]
  rw[zp,zp,qz o,qz (by omega)]at r;simp only[qW,qo]at r;rw[h4]at r;simp only[DataW.lit.injEq,Lit.int.injEq,true_and]at r;have h6:(cs.drop i).take 1=[cs[i]]:=by rw[List.drop_eq_getElem_cons h1];rfl
  rw[h6]at R;simp only[List.cons.injEq,and_true]at R;rw[R,Zt,r]
theorem qhF{name:String}{g:Nat}{cs:Array zS}(j:P.globalNamed name=some g)(h:w.var? P name=some cs):∃ e i,w.heap[g]?=some (.cells cs e i):=by
 unfold World.var? at h;rw[j]at h;simp only[Option.bind_some]at h;split at h
 .rename_i c e i l;cases h;exact⟨e,i,l⟩
 .cases h
end
end Go.EvW
namespace Go.Proofs.YtpagnklaanbmbaaGreatDoor
open Go Go.Ev Go.Proofs Tryz
namespace DT
open Go.EvW Y1 P1 YF
theorem unInt:qc.underlying 3=some (.int .i64):=by kernel_rfl
theorem gQ:qc.underlying 4=some .bool:=by kernel_rfl
theorem qhG:qc.underlying 9=some .string:=by kernel_rfl
theorem qhH:qc.underlying 28=some (.slice 3):=by kernel_rfl
theorem qhI:qc.underlying 22=some (.slice 100):=by kernel_rfl
theorem qhJ:qc.underlying 23=some (.slice 102):=by kernel_rfl
theorem qhK:qc.underlying 34=some (.slice 36):=by kernel_rfl
theorem qhL:qc.underlying 192=some (.slice 267):=by kernel_rfl
theorem qhM:qc.underlying 24=some (.slice 194):=by kernel_rfl
theorem qhN:qc.underlying 25=some (.slice 123):=by kernel_rfl
abbrev okI(n:Int):Prop := -9223372036854775808<=n/\n<=9223372036854775807
abbrev okS(s:ByteArray):Prop:=s.size<=140737488351232
instance:Inhabited Nd:=⟨.mk 0 ⟨#[]⟩ 0 [] 0⟩
instance:Inhabited Pd:=⟨⟨⟨#[]⟩,[],default⟩⟩
instance:Inhabited Fld:=⟨⟨⟨#[]⟩,[],false⟩⟩
theorem Qb(N:Nat):ShU qc N 3 (fun n:Int=>[aI n]) okI:=
 (ShU.int unInt N).map (fun n=>n) (fun _=>rfl) (fun n h=>by
  simp[Lit.wf,IntKind.min,IntKind.max,IntKind.signed,IntKind.bits]at h;exact h)
theorem WW(N:Nat):ShU qc N 4 (fun b:Bool=>[aB b]) (fun _=>True):=ShU.bool gQ N
theorem Zj(N:Nat):ShU qc N 9 (fun s:ByteArray=>[aS s]) okS:=ShU.string qhG N
theorem WX(N:Nat):ShU qc N 28 (fun xs:List Int=>[lI xs]) (fun l=>l.length<=140737488351232/\∀ x,x∈l->okI x):=
 ((ShU.slice qhH (Qb N) (fun _ _=>by kernel_rfl) (Nat.lt_of_lt_of_eq Nat.zero_lt_one (by kernel_rfl)) (by kernel_rfl)).le (by omega)).map (fun l=>l) (fun _=>rfl) fun _ h=>h
theorem qhO(N:Nat):ShU qc N 102 jo (fun f=>f.sorts.length<=140737488351232/\∀ x,x∈f.sorts->okI x):=
 ((ShU.struct (fs:=[(9,0),(28,1),(4,2)]) (by kernel_rfl) (.cons' (o':=1) (by kernel_rfl) (Zj N) (.cons' (o':=2) (by kernel_rfl) (WX N) (.cons' (o':=3) (by kernel_rfl) (WW N) (.nil 3)))) (by kernel_rfl)).map
  (fun x=>(⟨x.1,x.2.1,x.2.2.1⟩:Fld)) (fun _=>rfl) (fun x h=>h.2.1)).le (by omega)
theorem qhP(N:Nat):ShU qc N 100 uF (fun s=>okS s.1):=
 ((ShU.struct (fs:=[(9,0),(4,1)]) (by kernel_rfl) (.cons' (o':=1) (by kernel_rfl) (Zj N) (.cons' (o':=2) (by kernel_rfl) (WW N) (.nil 2))) (by kernel_rfl)).map
  (fun x=>((x.1,x.2.1):ByteArray×Bool)) (fun _=>rfl) (fun x h=>h.1)).le (by omega)
theorem Vt:∀ N:Nat,ShU qc N 36 cNd (fun _=>True)
 | 0=>fun n i=>absurd i (by omega)
 | N+1 =>
  have ks:ShU qc N 34 (fun l:List Nd=>[.lst false (l.map cNd)]) (fun _=>True):=((ShU.slice qhK (Vt N) (fun a _=>(Z3 a).trans (by kernel_rfl)) (Nat.lt_of_lt_of_eq (show 0<5 by omega) (by kernel_rfl)) (by kernel_rfl)).le (by omega)).map (fun l=>l) (fun _=>rfl) fun _ _=>trivial
  ((ShU.struct (fs:=[(3,0),(9,1),(3,2),(34,3),(3,4)]) (by kernel_rfl)
   (.cons' (o':=1) (by kernel_rfl) (Qb N) (.cons' (o':=2) (by kernel_rfl) (Zj N) (.cons' (o':=3) (by kernel_rfl) (Qb N) (.cons' (o':=4) (by kernel_rfl) ks (.cons' (o':=5) (by kernel_rfl) (Qb N) (.nil 5)))))) (by kernel_rfl))).map
   (fun x=>Nd.mk x.1 x.2.1 x.2.2.1 x.2.2.2.1 x.2.2.2.2.1) (fun x=>by rw[yw];rfl) fun _ _=>trivial
theorem qhQ(N:Nat):ShU qc N 267 cPm (fun p=>okI p.2):=
 ((ShU.struct (fs:=[(9,0),(3,1)]) (by kernel_rfl) (.cons' (o':=1) (by kernel_rfl) (Zj N) (.cons' (o':=2) (by kernel_rfl) (Qb N) (.nil 2))) (by kernel_rfl)).map
  (fun x=>((x.1,x.2.1):ByteArray×Int)) (fun _=>rfl) (fun x h=>h.2.1)).le (by omega)
theorem qhR(N:Nat):ShU qc N 192 (fun l:List (ByteArray×Int)=>[lPm l]) (fun l=>l.length<=140737488351232):=
 ((ShU.slice qhL (qhQ N) (fun _ _=>by kernel_rfl) (Nat.lt_of_lt_of_eq (show 0<2 by omega) (by kernel_rfl)) (by kernel_rfl)).le (by omega)).map (fun l=>l) (fun _=>rfl) fun _ h=>h.1
theorem qhS(N:Nat):ShU qc N 194 cPd (fun _=>True):=
 ((ShU.struct (fs:=[(9,0),(192,1),(36,2)]) (by kernel_rfl) (.cons' (o':=1) (by kernel_rfl) (Zj N) (.cons' (o':=2) (by kernel_rfl) (qhR N) (.cons' (o':=7) (by kernel_rfl) (Vt N) (.nil 7)))) (by kernel_rfl)).map
  (fun x=>(⟨x.1,x.2.1,x.2.2.1⟩:Pd)) (fun x=>by simp[cPd]) fun _ _=>trivial).le (by omega)
theorem qhT(N:Nat):ShU qc N 123 cFa (fun _=>True):=
 ((ShU.struct (fs:=[(9,0),(36,1)]) (by kernel_rfl) (.cons' (o':=1) (by kernel_rfl) (Zj N) (.cons' (o':=6) (by kernel_rfl) (Vt N) (.nil 6))) (by kernel_rfl)).map
  (fun x=>((x.1,x.2.1):ByteArray×Nd)) (fun x=>by simp[cFa]) fun _ _=>trivial).le (by omega)
structure okTA (ts:TS):Prop where
 so:∀ x,x∈ts.sorts->okS x.1
 nso:ts.sorts.length<=140737488351232
 nf:ts.fields.length<=140737488351232
 fl:∀ f,f∈ts.fields->f.sorts.length<=140737488351232/\∀ x,x∈f.sorts->okI x
theorem qhU(N:Nat):ShU qc N 27 cTS okTA:=by
 have s1:=(ShU.slice qhI (qhP N) (fun _ _=>by kernel_rfl) (Nat.lt_of_lt_of_eq (show 0<2 by omega) (by kernel_rfl)) (by kernel_rfl)).le (M:=N) (by omega);have i:=(ShU.slice qhJ (qhO N) (fun _ _=>by kernel_rfl) (Nat.lt_of_lt_of_eq (show 0<3 by omega) (by kernel_rfl)) (by kernel_rfl)).le (M:=N) (by omega);have j:=(ShU.slice qhM (qhS N) (fun a h=>(JW a).1.trans (by kernel_rfl)) (Nat.lt_of_lt_of_eq (show 0<7 by omega) (by kernel_rfl)) (by kernel_rfl)).le (M:=N) (by omega);have l:=(ShU.slice qhN (qhT N) (fun a h=>(kA a).1.trans (by kernel_rfl)) (Nat.lt_of_lt_of_eq (show 0<6 by omega) (by kernel_rfl)) (by kernel_rfl)).le (M:=N) (by omega);have st:=ShU.struct (t:=27) (fs:=[(22,0),(23,1),(24,2),(25,3)]) (by kernel_rfl) (.cons' (o':=1) (by kernel_rfl) s1 (.cons' (o':=2) (by kernel_rfl) i (.cons' (o':=3) (by kernel_rfl) j (.cons' (o':=4) (by kernel_rfl) l (.nil 4))))) (by kernel_rfl);exact(st.map (fun x=>(⟨x.1,x.2.1,x.2.2.1,x.2.2.2.1⟩:TS)) (fun _=>rfl) fun x h=>⟨h.1.2,h.1.1,h.2.1.1,h.2.1.2⟩).le (by omega)
theorem unU8:qc.underlying 5=some (.int .u8):=by kernel_rfl
theorem shU8(N:Nat):ShU qc N 5 (fun n:Int=>[.sc (.int .u8 n)]) (fun n=>0<=n/\n<=255):=
 (ShU.int unU8 N).map (fun n=>n) (fun _=>rfl) (fun n h=>by
  simp[Lit.wf,IntKind.min,IntKind.max,IntKind.signed,IntKind.bits]at h;exact h)
end DT
namespace QA
def bA:ByteArray:=⟨#[65]⟩
def bf:ByteArray:=⟨#[102]⟩
def bp:ByteArray:=⟨#[112]⟩
end QA
namespace QB
open Y1 Q6 Q9 QA
def nC:Nd := .mk 45 bf 0 [gk bA 2,.mk 47 bp 0 [gk bf 5] 3] 1
theorem h47:anyN (fun n=>decide (n.op=47)) nC=true:=by decide +kernel
end QB
namespace PB
open P1 P2 Y1 Y2 Y6 Y9 Y12 YW QB
section
variable {b':Kd}
def Sub(a b:Kd):Prop:=a.ar=b.ar/\∀ t,t∈a.ts->t∈b.ts
theorem qhV{n m:Nat}{a g b b':List Tp}(i:∀ t,t∈a->t∈g)(j:∀ t,t∈b->t∈b'):∀ t,t∈v7 n m a b->t∈v7 n m g b':=fun t l=>by
 obtain⟨x,y,⟨o,p⟩,hf⟩:=wZ.1 l;exact wZ.2 ⟨x,y,⟨i x o,j y p⟩,hf⟩
theorem qhW{n m:Nat}{a g b b':List Tp}(i:∀ t,t∈a->t∈g)(j:∀ t,t∈b->t∈b'):∀ t,t∈uH n m a b->t∈uH n m g b':=fun t l=>by
 obtain⟨x,y,⟨o,p⟩,hf⟩:=Z6.1 l;exact Z6.2 ⟨x,y,⟨i x o,j y p⟩,hf⟩
theorem Vu{a j b:Kd}(g:Sub a j)(i:Sub b b'):Sub (zD a b) (zD j b'):=by
 refine⟨by simp only[zD];rw[g.1,i.1],fun t l=>?_⟩;simp only[zD]at l⊢;rw[<-g.1,<-i.1];exact qhV g.2 i.2 t l
theorem qhX{a j b:Kd}(g:Sub a j)(i:Sub b b'):Sub (v8 a b) (v8 j b'):=by
 refine⟨by simp only[v8];rw[g.1,i.1],fun t l=>?_⟩;simp only[v8]at l⊢;rw[<-g.1,<-i.1];exact qhW g.2 i.2 t l
theorem wv{a b:Kd}{t:Tp}:t∈(kSum a b).ts↔t∈a.ts\/t∈b.ts:=by
 show t∈uni (uni [] a.ts) b.ts↔_;rw[vq,vq];simp
theorem gR{a g b:Kd}(i:Sub a g)(j:∀ t,t∈b.ts->t∈b'.ts):Sub (kSum a b) (kSum g b'):=
 ⟨i.1,fun t l=>wv.2 ((wv.1 l).imp (i.2 t) (j t))⟩
theorem Sub.refl(a:Kd):Sub a a:=⟨rfl,fun _ h=>h⟩
theorem Sub.trans{a b c:Kd}(h:Sub a b)(k:Sub b c):Sub a c:=⟨h.1.trans k.1,fun t g=>k.2 t (h.2 t g)⟩
theorem WY(a b:Kd):Sub a (kSum a b):=⟨rfl,fun t g=>wv.2 (.inl g)⟩
theorem qhY{a g:Kd}(i:Sub a g):Sub (kTr a) (kTr g):=⟨rfl,fun t j=>by
 obtain⟨x,l,e⟩:=Wb.1 j;exact Wb.2 ⟨x,i.2 x l,e⟩⟩
def Vv(k:Kd):Prop:=∀ t,t∈(zD k k).ts->t∈k.ts
theorem WZ:∀(f n:Nat) (a:Kd),Sub a (cloN f n a)
 | 0,n,a => .refl a
 |f+1,n,a=>by
  unfold cloN;split
  .exact (WY a _).trans (WZ f _ _)
  .exact .refl a
theorem W0{S:Kd}(i:Vv S):∀(f n:Nat) (a:Kd),Sub a S->Sub (cloN f n a) S
 | 0,n,a,h=>h
 |f+1,n,a,h=>by
  unfold cloN;split
  .refine W0 i f _ _ ⟨h.1,fun t g=>?_⟩
   rcases wv.1 g with g|g
   .exact h.2 t g
   .exact i t ((Vu h h).2 t g)
  .exact h
theorem W3{ns:Nat}(j:ns<=4):∀(f n:Nat) (a:Kd),okKd ns a->a.ar=2->70<=f+n->(n=0\/∃ p,okKd ns p/\p.ar=2/\n=p.ts.length/\a=kSum p (zD p p))->Vv (cloN f n a)
 | 0,n,a,g,C,hf,I=>by
  rcases I with rfl|⟨p,J,_,rfl,_⟩
  .omega
  .have:=okKd.le64 J j
   omega
 |f+1,n,a,g,C,hf,I=>by
  unfold cloN;split
  .rename_i U
   have hj:okKd ns (zD a a):=Yf g g (by omega) (by omega);refine W3 j f _ _ (Yd g hj (by simp only[zD];omega)) C (by omega) (.inr ⟨a,g,C,rfl,rfl⟩)
  .rename_i a0
   rcases I with rfl|⟨p,J,a1,rfl,rfl⟩
   .have:a.ts=[]:=vH (by omega)
    intro t l;obtain⟨x,y,⟨i,_⟩,_⟩:=wZ.1 l;rw[this]at i;exact absurd i qI
   .have o:∀ t,t∈(kSum p (zD p p)).ts->t∈p.ts:=by
     have a2:(kSum p (zD p p)).ts.Nodup:=g.nd;have P:∀ t,t∈p.ts->t∈(kSum p (zD p p)).ts:=(WY p _).2;intro t l;by_cases R:t∈p.ts
     .exact R
     .exfalso
      have r:(t :: p.ts).Nodup:=jx.2 ⟨R,J.nd⟩;have:=jU r (l₂:=(kSum p (zD p p)).ts) (fun x i=>by
       rcases qw.1 i with rfl|i
       .exact l
       .exact P x i)
      simp only[zu]at this;omega
    intro t l;have T:Sub (kSum p (zD p p)) p:=⟨rfl,o⟩;exact wv.2 (.inr ((Vu T T).2 t l))
theorem gS{ns:Nat}(g:ns<=4){a u:Kd}(h:Sub a u)(i:okKd ns u)(j:u.ar=2):Sub (kClo a) (kClo u):=
 W0 (W3 g 70 0 u i j (by omega) (.inl rfl)) 70 0 a (h.trans (WZ 70 0 u))
theorem gT(c:Ck):∀(m:Nat) (n:Nd) (s:Scp) (k:Option Kd),szN n<=m->exam c s true n = .ok k->exam c s false n = .ok k
 | 0,n,_,_,T,_=>by obtain⟨op,nm,i,ks,p⟩:=n;simp[szN]at T
 |m+1,n,s,k,T,h=>by
  have U:∀ x,x∈n.kids->∀(s:Scp) (g:Bool) (k:Option Kd),exam c s true x = .ok k->exam c s g x = .ok k:=fun x o s g k h=>by
   cases g with
   |true=>exact h
   |false=>exact gT c m x s k (by have:=yx o;omega) h
  have hL:∀(l:List Nd),(∀ x,x∈l->x∈n.kids)->∀(s:Scp) (g:Bool) (r:List (Option Kd)),qS c s true l = .ok r->qS c s g l = .ok r:=by
   intro l;induction l with
   |nil=>intro _ s g r h;exact h
   |cons x l P =>
    intro hl s g r h;simp only[qS]at h⊢;cases o:exam c s true x with
    |error e=>rw[o]at h;cases h
    |ok a =>
     rw[o]at h;rw[U x (hl x (qU ..)) s g a o];simp only at h⊢;cases j:qS c s true l with
     |error e=>rw[j]at h;cases h
     |ok J =>
      rw[j]at h;rw[P (fun y C=>hl y (qO _ C)) s g J j];exact h
  rw[yy]at h⊢;simp only[Bool.true_and,Bool.false_and,Bool.true_or,Bool.false_or,Bool.false_eq_true,if_false]at h⊢;split at h
  .cases h
  by_cases h1:n.op=1
  .rw [if_pos h1]at h⊢;exact h
  rw[if_neg h1]at h⊢;by_cases h47:n.op=47
  .rw [if_pos h47]at h⊢;exact h
  rw[if_neg h47]at h⊢;by_cases hb:n.op=15\/n.op=45\/n.op=46
  .rw [if_pos hb]at h⊢
   cases I:n.kids with
   |nil=>rw[I]at h;exact h
   |cons x l =>
    have t:∀ y,y∈x :: l->y∈n.kids:=fun y C=>by rw[I];exact C
    rw[I]at h;simp only[zM]at h⊢;cases o:exam c s true x with
    |error e=>rw[o]at h;cases h
    |ok a =>
     rw[o]at h;rw[U x (t x (qU ..)) s _ a o];cases a with
     |none=>cases h
     |some a =>
      simp only at h⊢;split at h
      .rename_i R
       rw[if_pos R];cases j:qS c ((n.name,a) :: s) true l with
       |error e=>rw[j]at h;cases h
       |ok J =>
        rw[j]at h;rw[hL l (fun y C=>t y (qO _ C)) _ _ J j];exact h
      .cases h
  rw[if_neg hb]at h⊢;cases j:qS c s true n.kids with
  |error e=>rw[j]at h;cases h
  |ok J =>
   rw[j]at h;rw[hL n.kids (fun y C=>C) _ _ J j];exact h
section
variable {ts:TS} (ok:okTS ts) (a b d:Nd)
include ok
end
end
end PB
namespace PC
open YS P1 P2 Y1 Y2 Y9 Y10 Y12 YZ YA PA YC YG Q1 Q3 Q4 PB
section
variable {nm:ByteArray}{es:List (ByteArray×Bool)}
theorem qhZ{a i b b':Kd}(j:Sub i a)(l:Sub b' b):Sub (Qw i b') (Qw a b):=⟨j.1,fun t g=>by
 simp only[Qw,y9,decide_eq_true_eq]at g⊢;exact⟨j.2 t g.1,l.2 t g.2⟩⟩
theorem qh0{op:Int}{a i b b':Kd}(g:Sub i a)(j:Sub b' b):Sub (ub op i b') (ub op a b):=by
 unfold ub;split
 .exact gR g j.2
 .split
  .exact qhZ g j
  .exact g
theorem qh1{ns:Nat}(g:ns<=4){op:Int}{a i:Kd}(h:Sub i a)(ok:okKd ns a)(j:a.ar=2):Sub (binK ns op i) (binK ns op a):=by
 unfold binK;split
 .exact gS g h ok j
 .split
  .exact gR (gS g h ok j) fun _ h=>h
  .exact qhY h
theorem apK1(ns:Nat)(op n pos:Int)(a:Kd):zL ns op n pos [some a]=if op=2 then .ok (some ⟨n,[]⟩) else if op=3 then .ok (some (zx ns 1)) else if op=4 then .ok (some (zx ns 2)) else
  if op=5 then .ok (some a) else if op=11\/op=12\/op=13 then (if a.ar=2 then .ok (some (binK ns op a)) else .error (42,pos)) else .ok none:=rfl
theorem apK2(ns : Nat)(op n pos : Int)(a b : Kd) : zL ns op n pos [some a, some b] = if op = 2 then .ok (some ⟨n, []⟩) else if op = 3 then .ok (some (zx ns 1)) else if op = 4 then .ok (some (zx ns 2)) else
      if op=6\/op=14\/op=7\/op=8\/op=32\/op=33 then (if a.ar=b.ar then .ok (some (ub op a b)) else .error (42,pos))
      else if op=9 then (if 1<=a.ar+b.ar-2/\a.ar+b.ar-2<=3 then .ok (some (zD a b)) else .error (42,pos))
      else if op=10 then (if a.ar+b.ar<=3 then .ok (some (v8 a b)) else .error (42,pos))
      else .ok none:=rfl
theorem qh2{ns:Nat}(J:ns<=4){op num pos:Int}{l l':List (Option Kd)}{T:Option Kd}(e1:op≠1)(a0:op≠15)
  (h1:op=5\/op=11\/op=12\/op=13->∃ a j,l=[some a]/\l'=[some j]/\Sub j a/\okKd ns a)
  (h2:op=6\/op=14\/op=7\/op=8\/op=32\/op=33\/op=9\/op=10->∃ a b j b',l=[some a,some b]/\l'=[some j,some b']/\Sub j a/\Sub b' b)
  (h:zL ns op num pos l = .ok T):∃ p,zL ns op num pos l' = .ok p/\(kd op=101->∃ k k',T=some k/\p=some k'/\Sub k' k):=by
 by_cases o:op=2
 .unfold zL at h⊢
  rw[if_pos o]at h⊢;cases h;exact⟨_,rfl,fun _=>⟨_,_,rfl,rfl,Sub.refl _⟩⟩
 by_cases r:op=3
 .unfold zL at h⊢
  rw[if_neg o,if_pos r]at h⊢;cases h;exact⟨_,rfl,fun _=>⟨_,_,rfl,rfl,Sub.refl _⟩⟩
 by_cases t:op=4
 .unfold zL at h⊢
  rw[if_neg o,if_neg r,if_pos t]at h⊢;cases h;exact⟨_,rfl,fun _=>⟨_,_,rfl,rfl,Sub.refl _⟩⟩
 by_cases g1:op=5\/op=11\/op=12\/op=13
 .obtain ⟨a,j,rfl,rfl,P,ok⟩:=h1 g1
  rw[apK1,if_neg o,if_neg r,if_neg t]at h⊢;by_cases U:op=5
  .rw [if_pos U]at h⊢
   cases h;exact⟨_,rfl,fun _=>⟨_,_,rfl,rfl,P⟩⟩
  have g:op=11\/op=12\/op=13:=by omega
  rw[if_neg U,if_pos g]at h⊢;by_cases i:a.ar=2
  .rw [if_pos i]at h
   rw[if_pos (P.1.trans i)];cases h;exact⟨_,rfl,fun _=>⟨_,_,rfl,rfl,qh1 J P ok i⟩⟩
  .rw [if_neg i]at h;cases h
 by_cases g2:op=6\/op=14\/op=7\/op=8\/op=32\/op=33\/op=9\/op=10
 .obtain ⟨a,b,j,b',rfl,rfl,C,I⟩:=h2 g2
  have q1:=C.1;have q2:=I.1;rw[apK2,if_neg o,if_neg r,if_neg t]at h⊢;by_cases g3:op=6\/op=14\/op=7\/op=8\/op=32\/op=33
  .rw [if_pos g3]at h⊢
   by_cases i:a.ar=b.ar
   .rw [if_pos i]at h
    rw[if_pos (by omega)];cases h;exact⟨_,rfl,fun _=>⟨_,_,rfl,rfl,qh0 C I⟩⟩
   .rw [if_neg i]at h;cases h
  rw[if_neg g3]at h⊢;by_cases e9:op=9
  .rw [if_pos e9]at h⊢
   by_cases i:1<=a.ar+b.ar-2/\a.ar+b.ar-2<=3
   .rw [if_pos i]at h
    rw[if_pos (by omega)];cases h;exact⟨_,rfl,fun _=>⟨_,_,rfl,rfl,Vu C I⟩⟩
   .rw [if_neg i]at h;cases h
  have R:op=10:=by omega
  rw[if_neg e9,if_pos R]at h⊢;by_cases i:a.ar+b.ar<=3
  .rw [if_pos i]at h
   rw[if_pos (by omega)];cases h;exact⟨_,rfl,fun _=>⟨_,_,rfl,rfl,qhX C I⟩⟩
  .rw [if_neg i]at h;cases h
 refine⟨none,Wc o r t (by omega) (by omega) (by omega) (by omega) (by omega) (by omega) (by omega) (by omega) (by omega) (by omega) (by omega) (by omega),fun hk=>?_⟩;have:=J5 hk;omega
theorem qh3{c:Ck}{n k:Nd}(h:yn c n=false)(i:k∈n.kids):yn c k=false:=by
 rw[U2,Bool.or_eq_false_iff]at h;have g:=h.2;rw[List.any_eq_false]at g;simpa using g k i
theorem W4{c:Ck}{b b':Bool}:∀{ks:List Nd} {s:Scp},(∀ k,k∈ks->∀ s,exam c s b k=exam c s b' k)->qS c s b ks=qS c s b' ks
 | [],s,_=>by simp only[qS]
 |k :: ks,s,h=>by
  simp only[qS];rw[h k (qU ..) s,W4 fun k g s=>h k (qO _ g) s]
theorem qh4{c:Ck}{b b':Bool}{pos:Int}:∀{ks:List Nd} {s:Scp},(∀ k,k∈ks->∀ s,exam c s b k=exam c s b' k)->zM c s b nm pos ks=zM c s b' nm pos ks
 | [],s,_=>by simp only[zM]
 |k :: ks,s,h=>by
  simp only[zM];rw[h k (qU ..) s];cases exam c s b' k with
  |error e=>rfl
  |ok a =>
   cases a with
   |none=>rfl
   |some a =>
    simp only;rw[W4 (s:=(nm,a) :: s) fun k g s=>h k (qO _ g) s]
theorem gU(c:Ck):∀(m:Nat) (n:Nd) (s:Scp) (b b':Bool),szN n<=m->yn c n=false->exam c s b n=exam c s b' n
 | 0,n,_,_,_,g,_=>by obtain⟨op,nm,i,ks,p⟩:=n;simp[szN]at g
 |m+1,n,s,b,b',g,h=>by
  have j:∀ b b' k,k∈n.kids->∀ s,exam c s b k=exam c s b' k:=fun b b' k l s=>gU c m k s b b' (by have:=yx l;omega) (qh3 h l)
  have o:zK c n.op n.name=false:=by rw[U2,Bool.or_eq_false_iff]at h;exact h.1
  rw[yy,yy,o,Bool.and_false,Bool.and_false];rw[qh4 (b:=b||decide (n.op=15)) (b':=b'||decide (n.op=15)) (j _ _),W4 (b:=b||decide (n.op=12)||decide (n.op=13)) (b':=b'||decide (n.op=12)||decide (n.op=13)) (j _ _)]
theorem Vw(ts:TS)(i:Nat):∀ m,i<m->m<=ts.preds.length->∀(j:i<ts.preds.length),(tmsL ts m).getD i false=yn (mkCk ts i) ts.preds[i].body
 | 0,h,_,_=>absurd h (by omega)
 |m+1,h,r,j=>by
  have l:=Q0 ts m (by omega);have g:m<ts.preds.length:=by omega
  have e:tmsL ts (m+1)=tmsL ts m++[yn (mkCk ts m) ts.preds[m].body]:=by
   show tmsL ts m++(match ts.preds[m]? with|some p=>[yn ⟨ts,m,tmsL ts m⟩ p.body] | none=>[])=_;rw[qz g];rfl
  rw[e];by_cases o:i<m
  .rw [<-Vw ts i m o (by omega) j]
   simp only[za];rw[qx (by omega)]
  .have:i=m:=by omega
   subst this;simp only[za];rw[qV (by omega),l];simp
abbrev tkn(es:List (ByteArray×Bool))(nm:ByteArray):Prop:=getK nm es=some true
def Tk(es:List (ByteArray×Bool))(n:Nd):Prop:=∀ x,x∈preN n->tkn es x.name
def OwnT(n:Nd):Prop:=∀ x,x∈preN n->ownB x=true
def vLe(es:List (ByteArray×Bool))(L:Int)(nm:ByteArray):Prop:=∃ j:Nat,(j:Int)<=L/\nm=vN j/\¬tkn es nm/\yo nm=true
structure qh5 (es:List (ByteArray×Bool)) (L:Int) (x:Nd):Prop where
 nc:x.op≠47
 own:ownB x=true
 nm:tkn es x.name\/vLe es L x.name
structure jG (es:List (ByteArray×Bool)) (L:Int) (n:Nd):Prop where
 wf:WfN n
 all:∀ x,x∈preN n->qh5 es L x
theorem vLe.mono{L L':Int}(h:vLe es L nm)(g:L<=L'):vLe es L' nm:=by
 obtain⟨j,a,b⟩:=h;exact⟨j,by omega,b⟩
theorem jG.mono{L L':Int}{n:Nd}(h:jG es L n)(i:L<=L'):jG es L' n:=
 ⟨h.wf,fun x g=>⟨(h.all x g).nc,(h.all x g).own,(h.all x g).nm.imp id fun v=>v.mono i⟩⟩
theorem Tk.kid{n k:Nd}(h:Tk es n)(g:k∈n.kids):Tk es k:=fun x i=>h x (WN g i)
theorem OwnT.kid{n k:Nd}(h:OwnT n)(g:k∈n.kids):OwnT k:=fun x i=>h x (WN g i)
theorem Vx{ks:List Nd}{x:Nd}(h:x∈zm ks):∃ k,k∈ks/\x∈preN k:=by
 induction ks with
 |nil=>simp[zm]at h
 |cons a l g =>
  simp only[zm,qG]at h;rcases h with h|h
  .exact ⟨a,qU ..,h⟩
  .obtain ⟨k,i,j⟩:=g h
   exact⟨k,qO _ i,j⟩
theorem qh6{n:Nd}(h:ui nm n):∃ x,x∈preN n/\x.name=nm:=by
 unfold ui at h;rw[WV _ (szN n) n (qs _),List.any_eq_true]at h;obtain⟨x,g,e⟩:=h;exact⟨x,g,by simpa using e⟩
theorem W5{ts:TS}{es:List (ByteArray×Bool)}:∀{f:Nat} {k:Int},(∃ j:Nat,1<=j/\j<=f/\y0 ts es (vN (k+j))=true)->y0 ts es (vN (zy ts es f k))=true
 | 0,k,⟨j,i,l,_⟩=>by omega
 |f+1,k,⟨j,i,l,g⟩=>by
  simp only[zy];split
  .rename_i h;exact h
  .rename_i o
   have p:j≠1:=fun e=>by subst e;exact o g
   exact W5 (ts:=ts) (es:=es) (f:=f) (k:=k+1) ⟨j-1,by omega,by omega,by rw[show k+1+((j-1:Nat):Int)=k+j by omega];exact g⟩
theorem gV:∀(m u:Nat),u<10 ^ (m+1)->(Lib.decDigits u).length<=m+1
 | 0,u,h=>by
  rw[Lib.decDigits];split
  .simp
  .omega
 |m+1,u,h=>by
  rw[Lib.decDigits];split
  .simp
  .rw [qX]
   have:=gV m (u / 10) (by rw[Nat.pow_succ]at h;omega);simp only[zu,List.length_nil];omega
theorem gW:∀(m u:Nat),u<=m->∀ x,x∈Lib.decDigits u->48<=x.toNat/\x.toNat<=57
 |m,u,i,x,g=>by
  rw[Lib.decDigits]at g;split at g
  .rename_i h
   rw[qN]at g;subst g;rw[UInt8.toNat_ofNat_of_lt' (by simp[UInt8.size];omega)];omega
  .rename_i h
   rcases qG.1 g with g|g
   .match m with
    | 0=>omega
    |m+1=>exact gW m (u / 10) (by omega) x g
   .rw [qN]at g
    subst g;rw[UInt8.toNat_ofNat_of_lt' (by simp[UInt8.size];omega)];omega
theorem qh7(u:Nat):Lib.decDigits u≠[]:=by
 rw[Lib.decDigits];split<;>simp
theorem qh8(j:Nat):(vN (j:Int)).data.toList=118 :: Lib.decDigits j:=by
 unfold vN jf Lib.itoa;rw[if_neg (by omega)];simp
theorem qh9:∀ x,x∈kwL->∀ c,x.data.toList[1]?=some c->¬(48<=c.toNat/\c.toNat<=57):=by decide +kernel
theorem qiA{j:Nat}(h:j<1000000000000):yo (vN (j:Int))=true:=by
 have l:=qh8 j;have J:=gV 11 j (by omega);have p:=gW j j (qs _);have t:=qh7 j;obtain⟨d,r,e⟩:=List.exists_cons_of_ne_nil t;have C:(vN (j:Int)).size=1+(Lib.decDigits j).length:=by
  have e:(vN (j:Int)).size=(vN (j:Int)).data.toList.length:=by rw[Array.length_toList];rfl
  rw[e,l,zu,Nat.add_comm]
 have o:kwB (vN (j:Int))=false:=by
  unfold kwB;rw[List.any_eq_false];intro x I g;have g:x=vN (j:Int):=by simpa using g
  refine qh9 x I d ?_ (p d (by rw[e];exact qU ..));rw[g,l,e];rfl
 unfold yo;simp only[qr,decide_eq_true_eq,o,Bool.not_false,and_true];refine⟨⟨by omega,by omega⟩,?_⟩;rw[qH];intro i _;rw[<-Array.getElem?_toList,l];cases i with
 |zero=>show chB 0 ((118:UInt8).toNat:Int)=true;decide
 |succ i =>
  rw[ve];cases g:(Lib.decDigits j)[i]? with
  |none=>rfl
  |some c =>
   have:=p c (q9 g);simp[chB];right;right;omega
end
end PC
namespace PD
open P1 P2 Y1 Y2 Y9 YX YZ YA YB PA YC YG Q3 Q4 PB PC
section
variable {body:Bool}{nm:ByteArray}{c0:Ck}{env:IEnv}{L:Int}{es:List (ByteArray×Bool)}{l l':List (Option Kd)}{s s':Scp}
structure ArgR (c0:Ck) (es:List (ByteArray×Bool)) (L:Int) (s':Scp) (k:Kd) (a:Nd):Prop where
 ex:∃ k',exam c0 s' true a = .ok (some k')/\Sub k' k
 good:jG es L a
 kd:kd a.op=101
def RlV(c0:Ck)(es:List (ByteArray×Bool))(L:Int)(s':Scp)(v:ByteArray):Option Kd->Option IV->Prop
 |none,none=>True
 |none,some _=>False
 |some k,none=>∃ g,zn v s'=some g/\Sub g k
 |some k,some ⟨some a,_,_⟩=>ArgR c0 es L s' k a
 |some k,some ⟨none,_,i⟩=>(∃ g,zn i s'=some g/\Sub g k)/\vLe es L i
structure Rl (c0:Ck) (es:List (ByteArray×Bool)) (L:Int) (body:Bool) (s s':Scp) (env:IEnv):Prop where
 mean:∀ v,v∈s'->means c0.ts v.1=[]
 rel:∀ v,tkn es v->RlV c0 es L s' v (zn v s) (getK v env)
 arg:body=false->∀ v iv,getK v env=some iv->iv.arg=none
theorem RlV.mono{L':Int}{v:ByteArray}{g:Option Kd}{i:Option IV}(h:RlV c0 es L s' v g i)(j:L<=L'):RlV c0 es L' s' v g i:=by
 match g,i with
 |none,none=>exact h
 |none,some _=>exact h
 |some k,none=>exact h
 |some k,some ⟨some a,_,_⟩ =>
  have h:ArgR c0 es L s' k a:=h;exact(⟨h.ex,h.good.mono j,h.kd⟩:ArgR c0 es L' s' k a)
 |some k,some ⟨none,_,l⟩=>exact⟨h.1,h.2.mono j⟩
theorem Rl.mono{L':Int}(h:Rl c0 es L body s s' env)(g:L<=L'):Rl c0 es L' body s s' env:=
 ⟨h.mean,fun v i=>(h.rel v i).mono g,h.arg⟩
theorem Vy:∀{s:Scp} {k:Kd},zn nm s=some k->(nm,k)∈s
 | [],k,h=>by simp[qg1]at h
 |v :: s,k,h=>by
  rw[uV]at h;split at h
  .rename_i e
   cases h;rw[<-e];exact qU ..
  .exact qO _ (Vy h)
theorem Rl.bind{st:ISt}{k k':Kd}(a6:Free c0.ts es)(a0:(env.map Prod.fst).Nodup)(h:Rl c0 es st.last body s s' env)(h0:0<=st.last)(hb:st.last+(qu c0.ts es:Nat)<1000000000000)(ht:tkn es nm)(hs:Sub k' k) :
  Rl c0 es (renI c0.ts es env nm body st).2.last body ((nm,k) :: s) (((renI c0.ts es env nm body st).1.2,k') :: s') (renI c0.ts es env nm body st).1.1/\st.last<=(renI c0.ts es env nm body st).2.last/\(tkn es (renI c0.ts es env nm body st).1.2\/vLe es (renI c0.ts es env nm body st).2.last (renI c0.ts es env nm body st).1.2):=by
 have a1:∀ v,zn v ((nm,k) :: s)=if nm=v then some k else zn v s:=fun v=>uV v _ _
 unfold renI;by_cases hc:body=true\/means c0.ts nm≠[]
 .rw [if_pos hc]
  have a2:=a6 st.last h0;have r:=W5 a2;have a9:=WO c0.ts es (qu c0.ts es) st.last;have a8:=WP a2;generalize zy c0.ts es (qu c0.ts es) st.last=J at *
  obtain⟨j,rfl⟩:∃ j:Nat,J=j:=⟨J.toNat,by omega⟩;simp only[y0,qr,decide_eq_true_eq]at r;obtain⟨f1,f2⟩:=r;have hv:vLe es (j:Int) (vN j):=⟨j,jw _,rfl,f1,qiA (by omega)⟩;have l:∀ v,v≠vN (j:Int)->zn v ((vN (j:Int),k') :: s')=zn v s':=fun v hv=>by
   rw[uV,if_neg (fun e=>hv e.symm)]
  have a3:∀{v:ByteArray},vLe es st.last v->v≠vN (j:Int):=fun⟨i,hi,e,_⟩ o=>by
   rw[e]at o;have:=gK o;omega
  have a4:∀ v,getK v (setK nm ⟨none,0,vN (j:Int)⟩ (delK nm env))=if v=nm then some ⟨none,0,vN (j:Int)⟩ else getK v env:=fun v=>by
   rw[uc,wh a0];split<;>rfl
  refine⟨⟨fun v P=>?_,fun v t=>?_,fun C v R g=>?_⟩,by show st.last<=(j:Int);omega,.inr hv⟩
  .rcases qw.1 P with rfl|P
   .exact f2
   .exact h.mean v P
  .show RlV c0 es (j:Int) ((vN (j:Int),k') :: s') v (zn v ((nm,k) :: s)) (getK v (setK nm ⟨none,0,vN (j:Int)⟩ (delK nm env)))
   rw[a1,a4];by_cases I:nm=v
   .rw [if_pos I,if_pos I.symm]
    exact⟨⟨k',by rw[uV,if_pos rfl],hs⟩,hv⟩
   .rw [if_neg I,if_neg (fun e=>I e.symm)]
    have p:=(h.rel v t).mono (L':=(j:Int)) (by omega);have T:=h.rel v t;generalize zn v s=lk at *
    generalize getK v env=R at *
    match lk,R with
    |none,none=>trivial
    |none,some _=>exact p
    |some q,none =>
     obtain⟨U,e1,o⟩:=p;exact⟨U,by rw[l v (fun e=>f1 (e ▸ t))];exact e1,o⟩
    |some q,some ⟨some a,_,_⟩ =>
     have p:ArgR c0 es (j:Int) s' q a:=p;have T:ArgR c0 es st.last s' q a:=T;refine(⟨?_,p.good,p.kd⟩:ArgR c0 es (j:Int) ((vN (j:Int),k') :: s') q a);obtain⟨U,e1,o⟩:=p.ex;refine⟨U,?_,o⟩;rw[<-e1];refine gu (uj.refl c0) (szN a) a _ _ true (qs _) fun x hx=>?_
     obtain⟨y,hy,rfl⟩:=qh6 hx;rcases (T.good.all y hy).nm with h1|h1
     .exact l _ (fun e=>f1 (e ▸ h1))
     .exact l _ (a3 h1)
    |some q,some ⟨none,_,to⟩ =>
     obtain⟨⟨U,e1,o⟩,e3⟩:=p;exact⟨⟨U,by rw[l to (a3 T.2)];exact e1,o⟩,e3⟩
  .have g:getK v (setK nm ⟨none,0,vN (j:Int)⟩ (delK nm env))=some R:=g
   rw[a4]at g;split at g
   .cases g;rfl
   .exact h.arg C v R g
 .rw [if_neg hc]
  have C:body=false:=by
   cases body with
   |false=>rfl
   |true=>exact absurd (.inl rfl) hc
  have a7:means c0.ts nm=[]:=by
   by_cases P:means c0.ts nm=[]
   .exact P
   .exact absurd (.inr P) hc
  have l:∀ v,v≠nm->zn v ((nm,k') :: s')=zn v s':=fun v hv=>by
   rw[uV,if_neg (fun e=>hv e.symm)]
  refine⟨⟨fun v P=>?_,fun v t=>?_,fun C v R g=>?_⟩,jw _,.inl ht⟩
  .rcases qw.1 P with rfl|P
   .exact a7
   .exact h.mean v P
  .show RlV c0 es st.last ((nm,k') :: s') v (zn v ((nm,k) :: s)) (getK v (delK nm env))
   rw[a1,wh a0];by_cases I:nm=v
   .rw [if_pos I,if_pos I.symm]
    exact⟨k',by rw[uV,if_pos I],hs⟩
   .rw [if_neg I,if_neg (fun e=>I e.symm)]
    have p:=h.rel v t;have a5:=h.arg C v;generalize zn v s=lk at *
    generalize getK v env=R at *
    match lk,R with
    |none,none=>trivial
    |none,some _=>exact p
    |some q,none =>
     obtain⟨U,e1,o⟩:=p;exact⟨U,by rw[l v (fun e=>I e.symm)];exact e1,o⟩
    |some q,some ⟨some a,_,_⟩=>exact absurd (a5 _ rfl) (by simp)
    |some q,some ⟨none,_,to⟩ =>
     obtain⟨⟨U,e1,o⟩,e3⟩:=p;refine⟨⟨U,?_,o⟩,e3⟩;rw[l to fun e=>?_]
     .exact e1
     .obtain ⟨_,_,_,hn,_⟩:=e3
      exact hn (e ▸ ht)
  .have g:getK v (delK nm env)=some R:=g
   rw[wh a0]at g;split at g
   .cases g
   .exact h.arg C v R g
structure Out (c0:Ck) (es:List (ByteArray×Bool)) (s':Scp) (inn:Bool) (n n':Nd) (ko:Option Kd) (L L':Int):Prop where
 ex:∃ ko',exam c0 s' inn n' = .ok ko'/\(kd n.op=101->∃ k k',ko=some k/\ko'=some k'/\Sub k' k)
 good:jG es L' n'
 kd:kd n'.op=kd n.op
 le:L<=L'
def Pt(es:List (ByteArray×Bool))(L:Int):List Nd->List Nd->List (Option Kd)->List (Option Kd)->Prop
 | [],[],[],[]=>True
 |k :: ks,i :: g,a :: l,o :: p=>((kd k.op=101->∃ q j,a=some q/\o=some j/\Sub j q)/\kd i.op=kd k.op/\jG es L i)/\Pt es L ks g l p
 |_,_,_,_=>False
theorem Pt.spec:∀{ks g:List Nd} {l l':List (Option Kd)},Pt es L ks g l l'->(g.map fun k=>kd k.op)=(ks.map fun k=>kd k.op)/\∀ k,k∈g->jG es L k
 | [],[],[],[],_=>⟨rfl,fun k j=>absurd j qI⟩
 |k :: ks,k' :: g,a :: l,I :: l',h=>by
  obtain⟨⟨J,o,p⟩,r⟩:=h;obtain⟨t,C⟩:=Pt.spec r;refine⟨by rw[yV,yV,o,t],fun x i=>?_⟩;rcases qw.1 i with rfl|i
  .exact p
  .exact C x i
theorem Pt.cons{es:List (ByteArray×Bool)}{L:Int}{k:Nd}{ks j:List Nd}{l l':List (Option Kd)}(h:Pt es L (k :: ks) j l l'):∃ k' g a l2 o i,j=k' :: g/\l=a :: l2/\l'=o :: i/\(kd k.op=101->∃ q p,a=some q/\o=some p/\Sub p q)/\Pt es L ks g l2 i:=by
 cases j with
 |nil=>cases l<;>cases l'<;>exact h.elim
 |cons k' g =>
  cases l with
  |nil=>cases l'<;>exact h.elim
  |cons a l2 =>
   cases l' with
   |nil=>exact h.elim
   |cons o i=>exact⟨k',g,a,l2,o,i,rfl,rfl,rfl,h.1.1,h.2⟩
theorem Pt.nil{g:List Nd}(h:Pt es L [] g l l'):l=[]/\l'=[]:=by
 cases g with
 |nil =>
  cases l with
  |nil=>cases l' with
   |nil=>exact⟨rfl,rfl⟩
   |cons a l=>exact h.elim
  |cons a l=>cases l'<;>exact h.elim
 |cons k ks=>cases l<;>cases l'<;>exact h.elim
theorem Pt.one{ks i:List Nd}(h:Pt es L ks i l l')(g:(ks.map fun k=>kd k.op)=[101]):∃ a j,l=[some a]/\l'=[some j]/\Sub j a:=by
 match ks,g with
 | [k],g =>
  obtain⟨I,o,a,l2,j,p,rfl,rfl,rfl,r,t⟩:=h.cons;obtain⟨rfl,rfl⟩:=t.nil;obtain⟨q,C,rfl,rfl,e⟩:=r (by simpa using g);exact⟨q,C,rfl,rfl,e⟩
 | [],g=>simp at g
 |_ :: _ :: _,g=>simp at g
theorem Pt.two{ks i:List Nd}(h:Pt es L ks i l l')(g:(ks.map fun k=>kd k.op)=[101,101]):∃ a b o b',l=[some a,some b]/\l'=[some o,some b']/\Sub o a/\Sub b' b:=by
 match ks,g with
 | [k,j],g =>
  have g:kd k.op=101/\kd j.op=101:=by simpa using g
  obtain⟨k',r,a,l2,o,t,rfl,rfl,rfl,C,I⟩:=h.cons;obtain⟨_,_,b,l3,b',J,rfl,rfl,rfl,P,R⟩:=I.cons;obtain⟨rfl,rfl⟩:=R.nil;obtain⟨q,T,rfl,rfl,e⟩:=C g.1;obtain⟨p,U,rfl,rfl,e2⟩:=P g.2;exact⟨q,p,T,U,rfl,rfl,e,e2⟩
 | [],g=>simp at g
 | [_],g=>simp at g
 |_ :: _ :: _ :: _,g=>simp at g
theorem gX{c:Ck}{F:Nat}{inn:Bool}{E:IEnv->Nd->ISt->XR (Nd×Int)}{R:IEnv->ByteArray->ISt->(IEnv×ByteArray)×ISt} :
  ∀{ks:List Nd} {i:Nat} {nm o:ByteArray} {st g:ISt} {j:List Nd} {J:Int} {l:List (Option Kd)},
  (∀ k,k∈ks->∀ st n' z g I,StOk F st->Rl c0 es st.last body s s' env->E env k st = .ok ((n',z),g)->exam c s inn k = .ok I->Out c0 es s' inn k n' I st.last g.last/\StOk F g) ->
  StOk F st->Rl c0 es st.last body s s' env->yR E R false i env nm ks st = .ok ((o,j,J),g)->qS c s inn ks = .ok l ->
  o=nm/\st.last<=g.last/\∃ l',qS c0 s' inn j = .ok l'/\Pt es g.last ks j l l'
 | [],i,nm,o,st,g,j,J,l,_,r,P,e,el=>by
  cases e;simp only[qS,Except.ok.injEq]at el;subst el;exact⟨rfl,jw _,[],by simp only[qS],trivial⟩
 |k :: ks,i,nm,o,st,g,j,J,l,hE,r,P,e,el=>by
  simp only[yR,Bool.false_eq_true,false_and,if_false]at e;simp only[qS]at el;split at e
  .cases e
  .rename_i k' m1 s1 h1
   cases T:exam c s inn k with
   |error er=>rw[T]at el;cases el
   |ok I =>
    rw[T]at el;simp only at el;obtain⟨t,C⟩:=hE k (qU ..) st k' m1 s1 I r P h1 T;cases p:qS c s inn ks with
    |error er=>rw[p]at el;cases el
    |ok l1 =>
     rw[p]at el;cases el;split at e
     .cases e
     .rename_i a0 a1 m2 s2 h2
      obtain⟨e1,e2,l',e3,e4⟩:=gX (fun k hk=>hE k (qO _ hk)) C (P.mono t.le) h2 p;cases e;obtain⟨U,x1,x2⟩:=t.ex;refine⟨e1,by have:=t.le;omega,U :: l',?_,⟨⟨x2,t.kd,t.good.mono e2⟩,e4⟩⟩;simp only[qS];rw[x1,e3]
theorem Zk{c:Ck}{op:Int}(h:op≠47):zK c op nm=zQ op:=by
 simp[zK,h]
theorem jG.node{n:Nd}{ks:List Nd}(C:WfN n)(g:(ks.map fun k=>kd k.op)=(n.kids.map fun k=>kd k.op))(I:∀ k,k∈ks->jG es L k)(h47:n.op≠47)(p:ownB n=true)
  (J:nm=n.name/\tkn es nm\/vLe es L nm/\yo n.name=true):jG es L (.mk n.op nm n.n ks n.pos):=by
 have l:ks.length=n.kids.length:=by have:=congrArg List.length g;simpa using this
 have o:yo nm=yo n.name/\(nm=⟨#[]⟩↔n.name=⟨#[]⟩):=by
  rcases J with ⟨rfl,_⟩|⟨R,r⟩
  .exact ⟨rfl,Iff.rfl⟩
  .obtain ⟨j,_,_,_,t⟩:=R
   refine⟨t.trans r.symm,fun e=>?_,fun e=>?_⟩
   .rw [e]at t;exact absurd t (by decide)
   .rw [e]at r;exact absurd r (by decide)
 refine⟨.mk _ ?_ (fun h=>?_) fun k g=>(I k g).wf,fun x i=>?_⟩
 .show shp n.op ks.length=some (ks.map fun k=>kd k.op)
  rw[l,g];exact C.shape
 .exact C.num h
 .rw [uU]at i
  rcases qw.1 i with rfl|i
  .refine ⟨h47,?_,?_⟩
   .unfold ownB at p⊢
    show (if uf n.op=yo nm/\(uf n.op=true\/nm=⟨#[]⟩) then numB n.op n.n else false)=true;split at p
    .rename_i P
     rw[if_pos ⟨by rw[o.1];exact P.1,P.2.imp id o.2.2⟩];exact p
    .cases p
   .rcases J with ⟨_,h⟩|⟨h,_⟩
    .exact .inl h
    .exact .inr h
  .obtain ⟨k,g,i⟩:=Vx i
   exact(I k g).all x i
end
end PD
end Go.Proofs.YtpagnklaanbmbaaGreatDoor
