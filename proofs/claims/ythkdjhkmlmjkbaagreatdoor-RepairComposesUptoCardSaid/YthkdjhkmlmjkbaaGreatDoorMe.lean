/-
  Own library, part 5: an abstract reading of values and a calculus over it; contracts of functions; plain lemmas.
-/
import Derived.WalkKit
import Derived.Deep.LoopGhost
import Derived.Lib.OwnBridge
import Derived.Lib.ItoaLen
import Derived.Handed
import Derived.WideKeyArgs
import Derived.ProofKit
import Derived.OpenShut
import Derived.JoinedCond
import Derived.KernelRfl
import Derived.Test.YthkdjhkmlmjkbaaGreatDoorMd
set_option linter.unusedVariables false
set_option linter.unusedSimpArgs false
set_option maxRecDepth 100000
open Go renaming TypeId->j1,World->j2,Value->j3,undef->vd,FuncId->us,Program->qf
open Go.Proofs.Tryz renaming prog->qb
open Bool renaming and_eq_true->qi,eq_iff_iff->jN
open Option.some renaming injEq->qj
open List renaming range->qm,getElem?_eq_some_iff->qn,getElem_mem->qo,mem_cons->qp,getElem?_eq_getElem->qq,mem_map->qs,all_eq_true->qu,mem_cons_of_mem->qJ,mem_append->qR,getD_eq_getElem?_getD->qS,getElem?_append_left->qT,mem_singleton->qV,getElem?_map->qZ,mem_cons_self->q8,not_mem_nil->zb,length_append->zc,replicate->zd,take_of_length_le->zi,getElem?_append_right->zo,take_length->zt,append_nil->zA,drop_eq_getElem_cons->zH,ext_getElem?->zT,getElem_of_mem->zX,mem_range->zY,length_cons->zZ,getElem?_take->z8,pairwise_cons->yh,map_append->yv,getElem?_set_self->yC,length_map->yP,drop_length->yQ,cons_append->yS,getElem?_eq_none->je,getElem?_drop->js,eq_nil_of_length_eq_zero->jt,getElem?_set_ne->jK,map_cons->jM,getElem?_cons_succ->vh,take_succ_eq_append_getElem->ua,take_append_drop->uN,getElem?_set->UQ,getElem_append_left->pn,getElem_set_ne->pp
open Nat renaming le_refl->qr,le_trans->zu,le_of_ble_eq_true->zG,zero_add->yw,zero_le->Zq
open Go.IntKind renaming i64->qx
open Array renaming getD_eq_getD_getElem?->qB,getElem?_eq_some_iff->zw,getElem?_toList->vK
open Option renaming map_some->qU,map_eq_some_iff->zW
open Go.Builtin renaming zeroCells->ze
open List.Nodup renaming length_le_of_subset->jv
open Int renaming tmod_eq_emod_of_nonneg->uO
namespace Go.Proofs.YthkdjhkmlmjkbaaGreatDoor
open Go Go.Ev Go.Proofs Tryz
namespace HP
open E3 EO EY F4 GB GR
section
variable {av:AV}{mu:Mu}{lo:Nat}{f:Nat->AV}{S:Sts}
structure StO (mu:Mu) (lo:Nat) (av:AV) (f:Nat->AV) (S:Sts):Prop where
 own:Own mu 1 av ((qm S.length).map fun s=>[f s])
 lo0:∀ b,qw av=some b->lo<=b
 row:∀(s:Nat) (h:s<S.length),Own mu 2 (f s) (S[s].map cRel)
 lor:∀ s b,s<S.length->qw (f s)=some b->lo<=b/\qw av≠some b
 dis:∀ s t b,s<S.length->t<S.length->s≠t->qw (f s)=some b->qw (f t)≠some b
 ne0:0<S.length->∃ b,qw av=some b
 ne:∀(s:Nat) (h:s<S.length),0<S[s].length->∃ b,qw (f s)=some b
structure OkSt (S:Sts):Prop where
 n:S.length<=1000
 st:∀ s,s∈S->s.length<=1000
 ts:∀ s,s∈S->∀ r,r∈s->r.ts.length<=100000
theorem qcC{C:Type}(f g:Nat->C)(n:Nat)(h:∀ s,s<n->g s=f s):(qm (n+1)).map g=(qm n).map f++[g n]:=by
 rw[List.range_succ,yv];congr 1;exact List.map_congr_left fun s i=>h s (zY.1 i)
theorem Own.frame{sz:Nat}{p:Mu}{xs:List (List AV)}(h:Own mu sz av xs)(g:∀ b,qw av=some b->p[b]?=mu[b]?):Own p sz av xs:=by
 rcases h with h|⟨b,h,i⟩
 .exact .inl h
 .exact .inr ⟨b,h,by rw[g b (by rw[h];rfl)];exact i⟩
theorem StO.frame{p:Mu}(h:StO mu lo av f S)(l:∀ i,lo<=i->i<mu.length->p[i]?=mu[i]?):StO p lo av f S:=
 ⟨Own.frame h.own fun b g=>l b (h.lo0 b g) (Own.lt h.own g),h.lo0,fun s j=>Own.frame (h.row s j) fun b g=>l b (h.lor s b j g).1 (Own.lt (h.row s j) g),h.lor,h.dis,h.ne0,h.ne⟩
theorem StO.low{g:Nat}(h:StO mu lo av f S)(j:g<=lo):StO mu g av f S:=
 ⟨h.own,fun b i=>zu j (h.lo0 b i),h.row,fun s b l i=>⟨zu j (h.lor s b l i).1,(h.lor s b l i).2⟩,h.dis,h.ne0,h.ne⟩
theorem StO.nil:StO mu lo (.lst true []) f []:=
 ⟨.inl zSp,by simp[qw],zSp,zSp,zSp,zSp,zSp⟩
theorem StO.snoc{p:Mu}{R:Nat}{l v:AV}{st:List Rl}(h:StO mu lo av f S)(a2:lo<=R)(hR:R<=mu.length)(h1:∀ b,qw av=some b->b<R)(J:∀ s b,s<S.length->qw (f s)=some b->b<R)
  (P:Own mu 2 v (st.map cRel)) (o:∀ b,qw v=some b->R<=b) (ho:Own p 1 l (((qm S.length).map fun s=>[f s])++[[v]])) (I:∀ i,i<mu.length->qw av≠some i->p[i]?=mu[i]?) (T:∀ b,qw l=some b->mu.length<=b) (U:∃ b,qw l=some b) (a0:0<st.length->∃ b,qw v=some b) :
  StO p lo l (fun s=>if s<S.length then f s else v) (S++[st]):=by
 refine⟨?_,fun b q=>zW1 (T b q),fun s r=>?_,fun s b r q=>?_,fun s t b r ht a1 q C=>?_,fun _=>U,fun s r q=>?_⟩
 .rw [zc,List.length_singleton,qcC (fun s=>[f s]) _ _ fun s I=>by rw[if_pos I],zIn]
  exact ho
 .by_cases g:s<S.length
  .simp only[if_pos g,pn g]
   refine Own.frame (h.row s g) fun b q=>I b (Own.lt (h.row s g) q) (h.lor s b g q).2
  .have e:s=S.length:=by simp at r;omega
   subst e;simp only[if_neg g,List.getElem_concat_length];exact Own.frame P fun b q=>I b (Own.lt P q) fun e=>zW2 (h1 b e) (o b q)
 .by_cases g:s<S.length
  .simp only[if_pos g]at q
   exact⟨(h.lor s b g q).1,fun e=>zW2 (T b e) (J s b g q)⟩
  .simp only[if_neg g]at q
   exact⟨zW1 (o b q),fun e=>zW2 (T b e) (Own.lt P q)⟩
 .simp only[zc,List.length_singleton]at r ht
  by_cases g:s<S.length<;>by_cases j:t<S.length
  .simp only[if_pos g,if_pos j]at q C
   exact h.dis s t b g j a1 q C
  .simp only[if_pos g,if_neg j]at q C
   have:=J s b g q;have:=o b C;omega
  .simp only[if_neg g,if_pos j]at q C
   have:=J t b j C;have:=o b q;omega
  .omega
 .by_cases g:s<S.length
  .simp only[if_pos g,pn g]at q⊢
   exact h.ne s g q
  .have e:s=S.length:=by simp at r;omega
   subst e;simp only[if_neg g,List.getElem_concat_length]at q⊢;exact a0 q
abbrev zMd:List AV:=[.lst true [],aI 0,.lst true [],aI 0]
theorem qcD(m:Md)(hs:OkSt m.sK)(ha:m.sc.sC.length<=1000000)(mu:Mu) :
  qK qb 53 [eMd m] mu (fun e m'=>∃ av f,e = .ret (.agg [lI m.sc.sC,aI m.sc.sN,av,aI m.loop])/\StO m' mu.length av f m.sK/\(∀ i,i<mu.length->m'[i]?=mu[i]?)/\mu.length<=m'.length):=by
 have hN:=hs.n;refine qSW call53 func53 rfl {} ?_;simp[go_sem];refine fP ?_;refine fG (XP m.sc.sC zOm) (.zk (qM _) .nil) ?_;refine fZ m.sK.length (fun k st=>st.tm 2 = .ptr mu.length 0/\st.tm 3 = .ptr (mu.length+1) 0/\st.tm 21=lSt m.sK/\st.tm 22=aI m.sK.length/\st.tm 23=aI k/\(∀ i,i<mu.length->st.mu[i]?=mu[i]?) /\
  ∃ av f,st.mu[mu.length]?=some (.arr zMd)/\st.mu[mu.length+1]?=some (.arr [lI m.sc.sC,aI m.sc.sN,av,aI m.loop])/\StO st.mu (mu.length+2) av f (m.sK.take k)) ?_ ?_
 .refine ⟨zSi,zSi,zSi,zSi,zSi,fun i t=>?_,.lst true [],fun _ => .lst true [],zSi,zSi,by simpa using StO.nil⟩
  simp[go_sem];rw[qT t]
 rintro k st hk ⟨e2,e3,a6,a1,a2,U,av,f,c0,c1,hS⟩;have an:=(qn.1 c1).1;have ae:=(qn.1 c0).1;by_cases C:k<m.sK.length
 .have w1:=zWk k
  have ao:=hs.st _ (qo C);have af:=hs.ts _ (qo C);have ag:m.sK.take (k+1)=m.sK.take k++[m.sK[k]]:=by rw[ua C]
  have aq:(m.sK.take k).length=k:=zSo;have h1:∀ b,qw av=some b->b<st.mu.length:=fun b hb=>Own.lt hS.own hb
  have h2:∀ s b,s<(m.sK.take k).length->qw (f s)=some b->b<st.mu.length:=fun s b hs hb=>Own.lt (hS.row s hs) hb
  generalize hR:st.mu.length=R at *
  generalize a7:m.sK[k]=row at *
  simp[go_sem,a6,a1,a2,C,a7];refine fZ row.length (fun j st2=>st2.tm 2 = .ptr mu.length 0/\st2.tm 3 = .ptr (mu.length+1) 0/\st2.tm 21=lSt m.sK/\st2.tm 22=aI m.sK.length/\st2.tm 23=aI k/\st2.tm 27=lRel row/\st2.tm 28=aI row.length/\st2.tm 29=aI j /\
   Own st2.mu 2 (st2.tm 6) ((row.take j).map cRel)/\(∀ b,qw (st2.tm 6)=some b->R<=b)/\(0<j->∃ b,qw (st2.tm 6)=some b)/\R<=st2.mu.length/\(∀ i,i<R->st2.mu[i]?=st.mu[i]?)) ?_ ?_
  .exact ⟨zS1 e2,zS1 e3,zS1 a6,zS1 a1,zS1 a2,zSi,zSi,zSi,   .inl zSi,by simp[go_sem,qw],fun h=>absurd h zOm,zS1 hR,fun i t=>zSi⟩
  rintro j st2 hj ⟨f2,f3,f21,f22,f23,f27,f28,f29,ho,a8,ah,ai,I⟩;generalize h6:st2.tm 6=l at *
  by_cases P:j<row.length
  .have w2:=zWk j
   have ar:=af _ (qo P);simp[go_sem,f27,f28,f29,P];refine aQ zKr ?_;simp[go_sem,f27,f28,f29,P];refine cA (XP row[j].ts zOm) (.zk (qM _) .nil) ?_;simp[go_sem,h6];refine .inl (yj.ownB (e:=62) (sz:=2) (bt:=32) (zv := .agg [aI 0,.lst true []]) (xs:=(row.take j).map cRel) (ys:=[cRel row[j]]) zSi zSi zSi rfl rfl zOm zOm (Own.push ho _) (by simp[qE]) (Z2 _) (Z2 [row[j]]) zSo ?_);intro a9 p g o a3 aa a4;simp[go_sem,f29,w2,Own.one g,Own.cells g];refine⟨P,aK ⟨zS1 f2,zS1 f3,zS1 f21,zS1 f22,zS1 f23,zS1 f27,zS1 f28,zSi,?_,?_,?_,?_,?_⟩⟩
   .rw [show (row.take (j+1)).map cRel=(row.take j).map cRel++[cRel row[j]] by rw[ua P,yv];rfl]
    simpa[go_sem] using g
   .simp [go_sem]
    intro b h;have:=a3 b h;simp at this;omega
   .simp [go_sem]
    exact a4 zSp
   .simp [go_sem]
    simp at aa;omega
   .simp [go_sem]
    intro i t;rw[o i zSo (fun h=>zW1 (a8 i h)),zGa];exact I i t
  .obtain rfl:j=row.length:=by omega
   rw[zt]at ho;have ab:st2.mu[mu.length+1]?=some (.arr [lI m.sc.sC,aI m.sc.sN,av,aI m.loop]):=by rw[I _ zOm];exact c1
   have aj:st2.mu[mu.length]?=some (.arr zMd):=by rw[I _ zOm];exact c0
   have T:StO st2.mu (mu.length+2) av f (m.sK.take k):=hS.frame fun i t ad=>I i zOm
   simp[go_sem,f28,f29,f3,ab,h6,Own.one ho,Own.cells ho];refine .inl (yj.ownB (e:=60) (sz:=1) (bt:=24) (zv := .lst true []) (xs:=(qm (m.sK.take k).length).map fun s=>[f s]) (ys:=[[l]]) zSi zSi zSi rfl rfl zOm zOm T.own (by simp[qE]) ?_ ?_ zSo ?_)
   .intro r hr
    obtain⟨s,ak,rfl⟩:=qs.1 hr;exact⟨rfl,by simp[Own.one (T.row s (zY.1 ak))]⟩
   .intro r hr
    simp at hr;subst hr;exact⟨rfl,by simp[Own.one ho]⟩
   intro a9 p g o a3 aa a4;have a5:∀ b,qw av=some b->mu.length+2<=b:=T.lo0;have a0:p[mu.length+1]?=some (.arr [lI m.sc.sC,aI m.sc.sN,av,aI m.loop]):=by rw[o _ zOm (fun h=>zW1 (a5 _ h))];exact ab
   have al:=T.snoc (R:=R) zOm ai h1 h2 ho a8 g o (fun b h=>zW1 (a3 b h)) (a4 zSp) ah;simp[go_sem,f3,f23,a0,w1,Own.one g,Own.cells g];refine⟨C,aK ⟨zS1 f2,zS1 f3,zS1 f21,zS1 f22,zSi,?_,a9,(fun s=>if s<(m.sK.take k).length then f s else l),?_,?_,?_⟩⟩
   .simp [go_sem]
    intro i t;rw[zGl,o i zOm (fun h=>zW1 (a5 _ h)),I i zOm];exact U i t
   .simp [go_sem]
    rw[o _ zOm (fun h=>zW1 (a5 _ h))];exact aj
   .simp [go_sem,(qn.1 a0).1]
   .rw [ag]
    simp only[go_sem];exact al.frame fun i t ad=>zGl
 .obtain rfl:k=m.sK.length:=by omega
  rw[zt]at hS;simp[go_sem,e2,e3,a1,a2,c1,c0,Own.one hS.own,Own.cells hS.own];simp[go_sem,e2,ae];exact⟨⟨f,(hS.frame fun i t ad=>zGl).low zOm⟩,fun i t=>by rw[zGl];exact U i t,zOm⟩
end
end HP
namespace HQ
open Go.RowKit Go.Shelf Go.Sort
section
variable {xs:List j3}{B:Nat}{e:j1}{w:j2}
theorem wD(b:Nat)(e:j1):∀(vs:List j3) (o:Nat) (w:j2) (arr:Array j3),w.heap[b]?=some (.cells arr e (0,0))->∃ g,(w.setCells b o vs).heap[b]?=some (.cells g e (0,0))/\g.size=arr.size /\
  ∀ j,j<arr.size->g[j]?=if o<=j/\j<o+vs.length then vs[j-o]? else arr[j]?
 | [],o,w,arr,h=>⟨arr,h,rfl,fun j i=>by rw[if_neg zSp]⟩
 |v :: r,o,w,arr,h=>by
  have t:(w.setCell ⟨b,o,none⟩ v).heap[b]?=some (.cells (arr.setIfInBounds o v) e (0,0)):=by
   show (w.heap.modify b _)[b]?=_;rw[Array.getElem?_modify,if_pos rfl,h];rfl
  obtain⟨g,C,I,J⟩:=wD b e r (o+1) _ _ t;refine⟨g,C,zUs I,fun j i=>?_⟩;rw[J j (zUs i)];by_cases l:o+1<=j/\j<o+1+r.length
  .rw [if_pos l,if_pos ⟨zOm,zSo⟩,show j-o=(j-(o+1))+1 by omega,vh]
  .rw [if_neg l,Array.getElem?_setIfInBounds]
   by_cases p:o=j
   .subst p
    rw[if_pos rfl,if_pos i,if_pos ⟨zOm,zSp⟩];simp
   .rw [if_neg p,if_neg (fun q=>l ⟨zOm,by simp at q;omega⟩)]
theorem wE(b:Nat):∀(vs:List j3) (o:Nat) (w:j2),(w.setCells b o vs).drawn=w.drawn
 | [],_,_=>rfl
 |v :: r,o,w=>by rw[World.setCells,wE b r];rfl
theorem Ud{zs:List Int}:∀ v∈zs.map (Value.int .i64),v.oneCell'=true:=fun v g=>by
 obtain⟨x,_,rfl⟩:=qs.1 g;rfl
theorem wF{g k cap:Nat}{cur:Array j3}(h:w.heap[g]?=some (.cells cur e (0,0)))(r:cur.size=cap)(i:k<=cap)(l:cap<=maxLen)(hB:B<=g)(t:xs.length=k)(o:∀ j,j<k->cur[j]?=xs[j]?) :
  w.ownsRow B e 1 (.slice (some ⟨g,0,none⟩) k cap) k xs:=by
 refine⟨zOm,.inr ⟨g,cap,cur,rfl,hB,h,i,l,zOm,?_⟩⟩;apply zT;intro j;rw[z8,vK];by_cases p:j<k
 .rw [if_pos zOm];exact o j p
 .rw [zIn,je zOm]
theorem Za(k:Nat):(ze (Value.int .i64 0).cells k).size=k:=by simp[ze,Value.cells]
theorem KD{n G:Nat}(g:xs.length=n)(i:n<=G)(l:G<=maxLen)(hB:B<=w.heap.size) :
  (w.drew.alloc (.cells (xs.toArray++ze (Value.int .i64 0).cells (G-n)) e)).ownsRow B e 1 (.slice (some ⟨w.heap.size,0,none⟩) n G) n xs/\Below B w (w.drew.alloc (.cells (xs.toArray++ze (Value.int .i64 0).cells (G-n)) e)):=by
 refine⟨wF (cur:=xs.toArray++ze (Value.int .i64 0).cells (G-n)) ?_ (by rw[Array.size_append,Za];simp;omega) i l hB g fun j p=>?_,((Below.refl B w).drew).alloc hB _⟩
 .show (w.heap.push _)[w.heap.size]?=_
  simp
 .rw [Array.getElem?_append_left zSo];simp
theorem Ue{zs:List Int}{t:Int}{a:Nat}(o:a<=zs.length)(j:Nat):((zs.take a++t :: zs.drop a).map (Value.int .i64))[j]?=if j<a then (zs.map (Value.int .i64))[j]? else if j=a then some (.int .i64 t) else (zs.map (Value.int .i64))[j-1]?:=by
 have l:(zs.take a).length=a:=zSo;rw[qZ,qZ,qZ];by_cases g:j<a
 .rw [if_pos g,zGa,z8,if_pos g]
 .rw [if_neg g,zo zOm,l]
  by_cases i:j=a
  .subst i;simp
  .rw [if_neg i]
   obtain⟨d,rfl⟩:∃ d,j=a+d+1:=⟨j-a-1,zOm⟩;rw[show a+d+1-a=d+1 by omega,vh,js];rfl
theorem insO{n i vb:Nat}{v:j3}{zs:List Int}{t:Int}(h:w.ownsRow B 3 1 v n (zs.map (Value.int .i64)))(hB:B<=w.heap.size)(hi:i<=n)(hn:n<=1000000)
  (hv:w.heap[vb]?=some (.cells #[.int .i64 t] 3 (0,0))) (aa:v.ownBlock≠some vb) :
  Calls qb 89 #[v,.int .i64 i,.slice (some ⟨vb,0,none⟩) 1 1] w fun e w'=>∃ v',e = .returned v'/\w'.ownsRow B 3 1 v' (n+1) ((zs.take i++t :: zs.drop i).map (Value.int .i64))/\v' ≠ .slice none 0 0/\Below B w w'/\w.drawn<=w'.drawn:=by
 have hl:zs.length=n:=by simpa using h.1
 have I:∀(j:Nat) u,[Value.int .i64 t][j]?=some u->w.cell? ⟨vb,0+j,none⟩=some u:=fun j u o=>by
  cases j with
  |zero=>simp at o;subst o;simp[World.cell?,hv]
  |succ j=>simp at o
 have P:∀ u∈[Value.int .i64 t],u.oneCell'=true:=fun u hu=>by simp at hu;subst hu;rfl
 rcases h.2 with ⟨rfl,rfl⟩|⟨g,cap,a0,rfl,hb,hg,a6,hm,hs,ht⟩
 .obtain rfl:zs=[]:=jt hl
  obtain rfl:i=0:=zOm;refine(Any2.slices_Insert_int_end_grow Tryz.laysNm221 none 0 0 vb 0 1 1 [] [Value.int .i64 t] w zOm zOm zOm zOm rfl rfl (fun _=>rfl) (fun a ha=>by cases ha) I P).mono ?_;rintro e w' ⟨rfl,rfl⟩;have:=KD (w:=w) (e:=3) (xs:=[Value.int .i64 t]) (n:=1) rfl (uU w 1 0 3) (grownCap_le_maxLen w 1 0 3 (by unfold maxLen;omega)) hB;exact⟨_,rfl,this.1,zSp,this.2,Nat.le_succ _⟩
 .have a7:∀ j,j<cap->(w.cell? ⟨g,0+j,none⟩).isSome=true:=fun j o=>by simp[World.cell?,hg];omega
  have a8:∀ j,j<cap->w.frozen? ⟨g,0+j,none⟩=false:=fun j o=>by simp[World.frozen?,hg]
  have R:∀ j,j<n->a0[j]?=(zs.map (Value.int .i64))[j]?:=fun j o=>by
   have:=congrArg (fun l=>l[j]?) ht;simp only[z8,vK]at this;rw[if_pos zOm]at this;exact this
  have a4:∀(j:Nat) u,(zs.map (Value.int .i64))[j]?=some u->w.cell? ⟨g,0+j,none⟩=some u:=fun j u o=>by
   have ab:j<n:=by have:=(qn.1 o).1;simp at this;omega
   simp[World.cell?,hg];rw[R j ab];exact o
  have ad:vb≠g:=fun e=>aa (by subst e;rfl)
  by_cases p:n+1<=cap
  .by_cases a5:i<n
   .refine (Any2.slices_Insert_int_shift Tryz.laysNm221 g 0 n cap i vb 0 1 1 (zs.map (Value.int .i64)) [Value.int .i64 t] w a5 zOm p hm ad (zUs hl) rfl a4 (fun j o=>a7 j zOm) (fun j o=>a8 j zOm) I Ud P
     3 3 1 a0.size (by simp[World.shape?,hv]) (by simp[World.shape?,hg]) zOm (by simp[World.frozen?,hv]) (by simp[World.frozen?,hv])).mono ?_
    rintro e w' ⟨rfl,rfl⟩;obtain⟨C,a1,a2,a3⟩:=wD g 3 ((zs.map (Value.int .i64)).drop i) (0+(i+1)) w.drew a0 hg;obtain⟨a9,b1,b2,b3⟩:=wD g 3 [Value.int .i64 t] (0+i) _ C a1;refine⟨_,rfl,wF b1 (cap:=cap) zOm p hm hb zSo fun j o=>?_,zSp,below_setCells hb _ _ _ (below_setCells hb _ _ _ (Below.refl B w).drew),by rw[wE,wE];exact Nat.le_succ _⟩;rw[Ue zOm,b3 j zOm,a3 j zOm];by_cases U:j<i
    .rw [if_pos U,if_neg zSo,if_neg zSo]
     exact R j zOm
    .rw [if_neg U]
     by_cases h2:j=i
     .subst h2
      rw[if_pos rfl,if_pos zSp];simp
     .rw [if_neg h2,if_neg zSo,if_pos zSo,js]
      congr 1;omega
   .obtain rfl:i=n:=by omega
    refine(Any2.slices_Insert_int_end_room Tryz.laysNm221 g 0 i cap vb 0 1 1 [Value.int .i64 t] w zOm p hm rfl (fun j o=>by have:=a7 (i+j) zOm;simpa[yw] using this) (fun j o=>by have:=a8 (i+j) zOm;simpa[yw] using this) I P).mono ?_;rintro e w' ⟨rfl,rfl⟩;obtain⟨C,a1,a2,a3⟩:=wD g 3 [Value.int .i64 t] (0+i) w a0 hg;refine⟨_,rfl,wF a1 (cap:=cap) zOm p hm hb zSo fun j o=>?_,zSp,below_setCells hb _ _ _ (Below.refl B w),by rw[wE];exact qr _⟩;rw[Ue zOm,a3 j zOm];by_cases U:j<i
    .rw [if_pos U,if_neg zSo]
     exact R j U
    .obtain rfl:j=i:=by omega
     rw[if_neg U,if_pos rfl,if_pos zSp];simp
  .by_cases a5:i<n
   .refine (Any2.slices_Insert_int_grow Tryz.laysNm221 g 0 n cap i vb 0 1 1 (zs.map (Value.int .i64)) [Value.int .i64 t] w a5 zOm a6 zOm zOm (zUs hl) rfl a4 I Ud P).mono ?_
    rintro e w' ⟨rfl,rfl⟩;have hG:=uU w (n+1) cap 3;have ae:=grownCap_le_maxLen w (n+1) cap 3 (by unfold maxLen;omega);rw[show Tryz.laysNm221_ren.t 3=3 from rfl];generalize ag:grownCap w (n+1) cap 3=G at *
    obtain⟨r,T⟩:∃ r:Array j3,r=((zs.map (Value.int .i64)).take i).toArray++ze (Value.int .i64 0).cells (n+1-i)++ze (Value.int .i64 0).cells (G-(n+1)):=⟨_,rfl⟩;have ah:r.size=G:=by rw[T,Array.size_append,Array.size_append,Za,Za];simp;omega
    have af:∀ j,j<i->r[j]?=(zs.map (Value.int .i64))[j]?:=fun j o=>by
     rw[T,Array.getElem?_append_left (by rw[Array.size_append,Za];simp;omega),Array.getElem?_append_left zSo,List.getElem?_toArray,z8,if_pos o]
    rw[<-T];have h0:(w.alloc (.cells r 3)).drew.heap[w.heap.size]?=some (.cells r 3 (0,0)):=by
     show (w.heap.push _)[w.heap.size]?=_;simp
    obtain⟨C,a1,a2,a3⟩:=wD w.heap.size 3 [Value.int .i64 t] i _ r h0;obtain⟨a9,b1,b2,b3⟩:=wD w.heap.size 3 ((zs.map (Value.int .i64)).drop i) (i+1) ((w.alloc (.cells r 3)).drew.setCells w.heap.size i [Value.int .i64 t]).drew C a1;refine⟨_,rfl,wF b1 (cap:=G) zOm hG ae hB zSo fun j o=>?_,zSp,below_setCells hB _ _ _ (below_setCells hB _ _ _ ((Below.refl B w).alloc hB _).drew).drew,by rw[wE];show w.drawn<=World.drawn _+1;rw[wE];exact zu (Nat.le_succ _) (Nat.le_succ _)⟩;rw[Ue zOm,b3 j zOm,a3 j zOm];by_cases U:j<i
    .rw [if_pos U,if_neg zSo,if_neg zSo]
     exact af j U
    .rw [if_neg U]
     by_cases h2:j=i
     .subst h2
      rw[if_pos rfl,if_neg zSo,if_pos zSp];simp
     .rw [if_neg h2,if_pos zSo,js]
      congr 1;omega
   .obtain rfl:i=n:=by omega
    refine(Any2.slices_Insert_int_end_grow Tryz.laysNm221 (some ⟨g,0,none⟩) i cap vb 0 1 1 (zs.map (Value.int .i64)) [Value.int .i64 t] w zOm a6 zOm zOm (zUs hl) rfl (fun h=>by cases h) (fun a ha j u o=>by cases ha;have:=a4 j u o;rw[Addr.add_lit];exact this) I P).mono ?_;rintro e w' ⟨rfl,rfl⟩;have:=KD (w:=w) (B:=B) (e:=3) (xs:=zs.map (Value.int .i64)++[Value.int .i64 t]) (n:=i+1) zSo (uU w (i+1) cap 3) (grownCap_le_maxLen w (i+1) cap 3 (by unfold maxLen;omega)) hB;refine⟨_,rfl,?_,zSp,this.2,Nat.le_succ _⟩;rw[zi zOm,List.drop_eq_nil_of_le zOm,yv];exact this.1
theorem KE(w:j2)(o:Obj):(w.alloc o).heap[w.heap.size]?=some o:=by show (w.heap.push o)[w.heap.size]?=_;simp
theorem KF(w:j2)(o:Obj):(w.alloc o).heap.size=w.heap.size+1:=by show (w.heap.push o).size=_;simp
theorem qcE(w:j2)(o u:Obj):((w.alloc o).alloc u).drew.heap[w.heap.size+1]?=some u:=by
 have:=KE (w.alloc o) u;rw[KF]at this;exact this
theorem KG(b off n c:Nat)(zs:List Int)(w:j2)(hl:zs.length=n)(h0:0<n)(hn:n<=1000000)(hc:∀ j,j<zs.length->w.cell? ⟨b,off+j,none⟩=some (.int .i64 (zs.getD j 0))) :
  Calls qb 71 #[.slice (some ⟨b,off,none⟩) n c] w fun e w'=>∃ I,e = .returned I/\w'.ownsRow w.heap.size 3 1 I n (zs.map (Value.int .i64))/\I ≠ .slice none 0 0/\Below w.heap.size w w'/\w.drawn<=w'.drawn:=by
 have L:=Tryz.laysNm215;have J:=L.mixed;have t3:=L.t3;have a3:=L.a3;have z3:=L.z3;have v3:=L.v3;have t4:=L.t4;have a4:=L.a4;have z4:=L.z4;have v4:=L.v4;have t22:=L.t22;have a1:=L.a22;have a2:=L.z22;have a5:=L.v22;obtain⟨P,hi,R,l,T⟩:=info_parts L.i3;have a6:∀(w:j2) (a:Option Addr) (n c U c':Nat),(binOp .eql 28 (.slice a n c) (.slice none U c')).run qb w = .ok (.bool a.isNone) w:=fun w a n c U c'=>Lib.run_eql_slice_nil w _ _ a n c U c' L.t22
 have a7:∀ w,Sem.run qb (underlying 28) w = .ok (TypeDesc.slice 3) w:=run_underlying t22;have o:Src qb P.size (Tryz.laysNm215_ren.t 22) (.slice (some ⟨b,off,none⟩) n c) n (zs.map (Value.int .i64)) (w.alloc (.cells #[] 3)):=by
  rw[l];refine Src.ofSlice _ L.t22 ⟨b,off,none⟩ n c _ zSo (fun j u p=>?_) Ud;have i:j<zs.length:=by have:=(qn.1 p).1;simpa using this
  rw[Addr.add_lit];refine Lib.cell?_alloc_some _ ?_;rw[hc j i];rw[<-p,qZ,qq i,qS,qq i];rfl
 have r:(Builtin.firstCells P.size 0 (.slice (some ⟨w.heap.size,0,none⟩) 0 0)).run qb (w.alloc (.cells #[] 3)).drew = .ok ([]:List j3).toArray (w.alloc (.cells #[] 3)).drew:=by
  rw[l];exact run_firstCells_some _ 1 0 ⟨w.heap.size,0,none⟩ 0 0 [] rfl (fun j v p=>by simp at p)
 have C:=fun ty=>run_append_grow_src (w.alloc (.cells #[] 3)) (Tryz.laysNm215_ren.t 22) (Tryz.laysNm215_ren.t 22) ty (Tryz.laysNm215_ren.t 3) P _ L.t22 hi R (some ⟨w.heap.size,0,none⟩) 0 0 [] r _ n _ o zOm zOm (by rw[T];exact growslice_fits zOm zOm)
 clear hc
 go_enter func71,Tryz.ntmps71
 go_wp2_with (at_builtin;refine Lib.wpList_append_run _ rfl _ _ _ _ rfl _ _ rfl rfl _ _ (C _) ?_)
 go_ret
 rw[show Tryz.laysNm215_ren.t 3=3 from rfl];have hG:=uU (w.alloc (.cells #[] 3)) n 0 3;have a0:=grownCap_le_maxLen (w.alloc (.cells #[] 3)) n 0 3 (by unfold maxLen;omega);generalize grownCap (w.alloc (.cells #[] 3)) n 0 3=G at *
 have hz:(ze #[Value.int .i64 0] (G-n)).size=G-n:=Za _;refine⟨_,rfl,wF (g:=w.heap.size+1) (cur:=(zs.map (Value.int .i64)).toArray++ze #[Value.int .i64 0] (G-n)) (qcE _ _ _) (by rw[Array.size_append,hz];simp;omega) hG a0 zOm zSo (fun j p=>?_),zSp,(((Below.refl _ w).alloc (qr _) _).alloc (by rw[KF];omega) _).drew,Nat.le_succ _⟩;rw[Array.getElem?_append_left zSo];simp
theorem qcF(a:Addr)(c:Nat)(w:j2) :
  Calls qb 71 #[.slice (some a) 0 c] w fun e w'=>∃ J,e = .returned J/\w'.ownsRow w.heap.size 3 1 J 0 []/\Below w.heap.size w w'/\w.drawn<=w'.drawn:=by
 have L:=Tryz.laysNm215;have p:=L.mixed;have t3:=L.t3;have a3:=L.a3;have z3:=L.z3;have v3:=L.v3;have t4:=L.t4;have a4:=L.a4;have z4:=L.z4;have v4:=L.v4;have t22:=L.t22;have R:=L.a22;have T:=L.z22;have U:=L.v22;obtain⟨P,hi,a0,r,a1⟩:=info_parts L.i3;have a2:∀(w:j2) (a:Option Addr) (n c C I:Nat),(binOp .eql 28 (.slice a n c) (.slice none C I)).run qb w = .ok (.bool a.isNone) w:=fun w a n c C I=>Lib.run_eql_slice_nil w _ _ a n c C I L.t22
 have a5:∀ w,Sem.run qb (underlying 28) w = .ok (TypeDesc.slice 3) w:=run_underlying t22;have l:Src qb P.size (Tryz.laysNm215_ren.t 22) (.slice (some a) 0 c) 0 [] (w.alloc (.cells #[] 3)):=by
  rw[r];exact Src.ofSlice _ L.t22 a 0 c [] rfl (fun j u i=>by simp at i) (fun u hu=>by cases hu)
 have o:=fun ty=>run_append_room_src (w.alloc (.cells #[] 3)) (Tryz.laysNm215_ren.t 22) (Tryz.laysNm215_ren.t 22) ty (Tryz.laysNm215_ren.t 3) P L.t22 hi w.heap.size 0 0 0 _ 0 [] l zOm (fun j i=>by simp at i) (fun j i=>by simp at i)
 go_enter func71,Tryz.ntmps71
 go_wp2_with (at_builtin;refine Lib.wpList_append_run _ rfl _ _ _ _ rfl _ _ rfl rfl _ _ (o _) ?_)
 go_ret
 refine⟨_,rfl,wF (g:=w.heap.size) (cur:=#[]) (KE _ _) rfl zOm (by unfold maxLen;omega) zOm rfl (fun j i=>zOm),(Below.refl _ w).alloc (qr _) _,qr _⟩
theorem remW(b off n c i:Nat)(zs:List Int)(t:Int)(w:j2)(hl:zs.length=n)(hn:n<=1000000)(hc:∀ j,j<zs.length->w.cell? ⟨b,off+j,none⟩=some (.int .i64 (zs.getD j 0)))(hi:i<n) :
    Calls qb 91 #[.slice (some ⟨b,off,none⟩) n c,.int .i64 i,.bool true,.int .i64 t] w fun e w'=>∃ T,e = .returned T/\w'.ownsRow w.heap.size 3 1 T (n-1) ((zs.take i++zs.drop (i+1)).map (Value.int .i64))/\T ≠ .slice none 0 0/\Below w.heap.size w w'/\w.drawn<=w'.drawn:=by
  have p:=KG b off n c zs w hl zOm hn hc;clear hc;have hw:wrap64 ((i:Int)+1)=((i+1:Nat):Int):=by unfold wrap64;omega
  go_enter func91,Tryz.ntmps91
  go_wp2_with (first
    | (go_at_call 71;refine p.mono ?_;rintro e R ⟨v1,rfl,o,I,r,J⟩
       obtain⟨g,cap,rfl,U,_,a1,a0,P,hH⟩:=Lib.holds_of_ownsRow o I;have C:=Tryz.slices_Delete_int g 0 cap i (i+1) zs R hH zOm (by unfold maxLen at a0;omega) zOm zOm;rw[P]at C;have X:Aside (R.ownsRow w.heap.size 3 1 (.slice (some ⟨g,0,none⟩) n cap) n (zs.map (Value.int .i64))/\Below w.heap.size w R/\w.heap.size<=g/\w.drawn<=R.drawn):=⟨o,r,U,J⟩;clear o r hH I J)
    | (go_at_call 92;refine C.mono ?_;rintro e w2 ⟨rfl,q,rfl⟩))
  go_ret
  have hy:(zs.take i++zs.drop (i+1)++zd (i+1-i) 0).length=n:=zSo;have h1:=Lib.ownsRow_putRow (q:=q) (k:=n-1) (ys:=zs.take i++zs.drop (i+1)++zd (i+1-i) 0) X.out.1 hy zOm;refine⟨_,rfl,?_,zSp,Lib.below_putRow X.out.2.1 X.out.2.2.1,zu X.out.2.2.2 (Nat.le_add_right _ _)⟩;rw[List.take_left' zSo]at h1;simpa[Nat.add_sub_cancel_left] using h1
theorem KH{n:Nat}{v:j3}{o:Obj}(h:w.ownsRow B e 1 v n xs):(w.alloc o).ownsRow B e 1 v n xs/\v.ownBlock≠some w.heap.size:=by
 obtain⟨l,t⟩:=h;rcases t with q|⟨g,cap,i,rfl,C,p,r⟩
 .exact ⟨⟨l,.inl q⟩,by rw[q.1];simp[Value.ownBlock]⟩
 .have j:=(zw.1 p).1
  exact⟨⟨l,.inr ⟨g,cap,i,rfl,C,by rw[Below.heap_alloc _ _ _ j];exact p,r⟩⟩,by simp[Value.ownBlock];omega⟩
theorem qcG(n i:Nat)(zs:List Int)(t:Int)(w g:j2)(v1:j3)(J:n<=1000000)(P:i<=n)(j:g.ownsRow w.heap.size 3 1 v1 n (zs.map (Value.int .i64)))(l:Below w.heap.size w g)(r:w.drawn<=g.drawn) :
  Calls qb 89 #[v1,.int .i64 i,.slice (some ⟨g.heap.size,0,none⟩) 1 1] (g.alloc (.cells #[.int .i64 t] 3)) fun e p=>∃ C,e = .returned C/\p.ownsRow w.heap.size 3 1 C (n+1) ((zs.take i++t :: zs.drop i).map (Value.int .i64))/\C ≠ .slice none 0 0/\Below w.heap.size w p/\w.drawn<=p.drawn:=by
 have I:=l.size;refine(insO (w:=g.alloc (.cells #[.int .i64 t] 3)) (vb:=g.heap.size) (t:=t) (KH j).1 (by show _<=(g.heap.push _).size;simp;omega) P J (by show (g.heap.push _)[g.heap.size]?=_;simp) (KH (o := .cells #[.int .i64 t] 3) j).2).mono ?_;rintro e p ⟨R,rfl,T,U,h3,h4⟩;exact⟨R,rfl,T,U,(l.alloc I _).trans h3,zu r h4⟩
theorem addW(v0:j3)(n g:Nat)(zs:List Int)(t:Int)(w:j2)(U:n<=1000000)(hi:g<=n)
    (i:Calls qb 71 #[v0] w fun e w'=>∃ o,e = .returned o/\w'.ownsRow w.heap.size 3 1 o n (zs.map (Value.int .i64))/\Below w.heap.size w w'/\w.drawn<=w'.drawn) :
    Calls qb 88 #[v0,.int .i64 g,.bool false,.int .i64 t] w fun e w'=>∃ o,e = .returned o/\w'.ownsRow w.heap.size 3 1 o (n+1) ((zs.take g++t :: zs.drop g).map (Value.int .i64))/\o ≠ .slice none 0 0/\Below w.heap.size w w'/\w.drawn<=w'.drawn:=by
  go_enter func88,Tryz.ntmps88
  go_wp2_with (first
    | (go_at_call 71;refine i.mono ?_;rintro e w1 ⟨v1,rfl,j,l,p⟩
       have r:=qcG n g zs t w w1 v1 U hi j l p;clear j l p)
    | (go_at_call 89;refine r.mono ?_;rintro e C ⟨I,rfl,J,P,R,T⟩
       have Y:Aside (C.ownsRow w.heap.size 3 1 I (n+1) ((zs.take g++t :: zs.drop g).map (Value.int .i64))/\I ≠ .slice none 0 0/\Below w.heap.size w C/\w.drawn<=C.drawn):=⟨J,P,R,T⟩;clear J P R T))
  go_ret
  exact⟨_,rfl,Y.out.1,Y.out.2.1,Y.out.2.2⟩
end
end HQ
namespace HR
open E1 GB GD HQ
section
variable {t:Int}
theorem qcH(l:List Int)(t:Int):z7 l t<=l.length:=List.countP_le_length
theorem KI(x:Int)(l:List Int)(t:Int):z7 (x :: l) t=z7 l t+if x<t then 1 else 0:=by
 unfold z7;rw[List.countP_cons];by_cases h:x<t<;>simp[h]
theorem KJ{l:List Int}(h:∀ x,x∈l->¬x<t):z7 l t=0:=by
 unfold z7;rw[List.countP_eq_zero];intro x g;simpa using h x g
theorem KL:∀{l:List Int},sorted l->t ∉ l->l.take (z7 l t)++t :: l.drop (z7 l t)=insS t l
 | [],_,_=>rfl
 |x :: l,i,g=>by
  obtain⟨j,o⟩:=yh.1 i;rw[qp,not_or]at g;rw[insS,KI];by_cases h:t<x
  .rw [if_pos h,zIn,KJ (fun y p=>zW1 (j y p))];rfl
  .rw [if_neg h,if_neg g.1,if_pos (zW1 g.1),List.take_succ_cons,List.drop_succ_cons,yS,KL o g.2]
theorem KM:∀{l:List Int},sorted l->t∈l->insS t l=l
 | [],_,h=>by simp at h
 |x :: l,i,g=>by
  obtain⟨j,o⟩:=yh.1 i;rw[insS];rcases qp.1 g with rfl|g
  .rw [zIn,if_pos rfl]
  .have:=j t g
   rw[zIn,zIn,KM o g]
theorem KN:∀{l:List Int},sorted l->t∈l->l.take (z7 l t)++l.drop (z7 l t+1)=delS t l/\z7 l t<l.length
 | [],_,h=>by simp at h
 |x :: l,o,p=>by
  obtain⟨g,r⟩:=yh.1 o;rw[KI];by_cases h:t=x
  .subst h
   rw[zIn,KJ (fun y i=>zW1 (g y i))];refine⟨?_,zSp⟩;have:delS t l=l:=List.filter_eq_self.2 fun y i=>by have:=g y i;simp;omega
   simp only[delS]at this;simp[delS,this]
  .have j:t∈l:=by rcases qp.1 p with e|e;exact absurd e h;exact e
   have:=g t j;obtain⟨C,I⟩:=KN r j;rw[if_pos this,List.take_succ_cons,List.drop_succ_cons,yS,C];refine⟨?_,zSo⟩;simp only[delS,List.filter_cons];rw[if_pos zSo]
theorem qcI{l:List Int}(g:t ∉ l):delS t l=l:=List.filter_eq_self.2 fun y i=>by
 simp;rintro rfl;exact g i
theorem KO{G:Gh}{h:Array Obj}{x y z u:AV}{vs:Array j3}(r:zj G h [x,y,z,u] vs):∃ a b c d,vs=#[a,b,c,d]/\VRel G h x a/\VRel G h y b/\VRel G h z c/\VRel G h u d:=by
 obtain⟨j,g⟩:=r;have l:vs.size=4:=zUs j;refine⟨vs.getD 0 vd,vs.getD 1 vd,vs.getD 2 vd,vs.getD 3 vd,?_,g 0 _ rfl,g 1 _ rfl,g 2 _ rfl,g 3 _ rfl⟩;apply Array.ext
 .simpa using l
 .intro i o p
  rcases (show i=0\/i=1\/i=2\/i=3 by omega) with rfl|rfl|rfl|rfl<;>simp[qB,o]
theorem KP{w w':j2}{i:Nat->Prop}{k:Nat}{J:j3}{ys:List Int}(P:∀ b,i b->b<w.heap.size)(p:RowKit.Below w.heap.size w w')(h:w'.ownsRow w.heap.size 3 1 J k (ys.map (Value.int .i64))) :
  ∃ o,(∀ b,i b->o b)/\(∀ b,o b->b<w'.heap.size/\(i b\/w.heap.size<=b))/\VRel ⟨o,[]⟩ w'.heap (lI ys) J:=by
 have a0:=p.size;have R:ys.length=k:=by simpa using h.1
 rcases h.2 with ⟨rfl,rfl⟩|⟨g,cap,r,rfl,hg,T,hk,_,hs,ht⟩
 .obtain rfl:ys=[]:=jt R
  exact⟨i,fun _ h=>h,fun b p=>⟨zW1 (P b p),.inl p⟩,.nil _⟩
 .refine ⟨fun b=>i b\/b=g,fun _ h => .inl h,fun b p=>?_,?_⟩
  .rcases p with p|rfl
   .exact ⟨zW1 (P b p),.inl p⟩
   .exact ⟨(zw.1 T).1,.inr hg⟩
  .have t:(ys.map rI).length=k:=by simpa using R
   rw[<-t];refine .lst false (ys.map rI) 1 ⟨g,0,none⟩ cap r 3 (0,0) (fun j => .int .i64 (ys.getD j 0)) T rfl zOm zSp (.inr rfl) (ja ys).ok ?_ ?_
   all_goals
    intro j x U;rw[uD,qZ]at U;obtain⟨y,C,rfl⟩:=zW.1 U;have hj:j<ys.length:=(qn.1 C).1;have I:ys.getD j 0=y:=by rw[qS,C];rfl
    simp only[I]
   .have:=congrArg (fun l=>l[j]?) ht
    simp only[z8,vK]at this;rw[if_pos zOm,qZ,C]at this;simpa using this
   .exact .sc _ rfl
theorem qcJ(l:List Int)(t:Int)(T:sorted l)(hl:l.length<=100000):qd qb 88 [lI l,aI (z7 l t),aB (decide (t∈l)),aI t] (lI (insS t l)):=by
 by_cases h:t∈l
 .rw [KM T h,decide_eq_true h]
  refine qSU call88 func88 rfl ?_;exact .hf _ (qM _)
 .rw [<-KL T h,decide_eq_false h]
  refine⟨call88,fun U w o hi ra=>?_⟩;obtain⟨v0,v1,v2,v3,rfl,r0,r1,r2,r3⟩:=KO ra;cases r1;cases r2;cases r3;have I:Calls qb 71 #[v0] w fun e i=>∃ p,e = .returned p/\i.ownsRow w.heap.size 3 1 p l.length (l.map (Value.int .i64))/\RowKit.Below w.heap.size w i/\w.drawn<=i.drawn:=by
   rcases VH r0 with ⟨rfl,a,c,rfl⟩|⟨J,b,off,c,arr,e,fr,rfl,hb,hc⟩
   .cases a with
    |none =>
     refine(Tryz.slices_Clone_int_nil 0 c w).mono ?_;rintro e i ⟨rfl,rfl⟩;exact⟨_,rfl,⟨rfl,.inl ⟨rfl,rfl⟩⟩,RowKit.Below.refl _ _,qr _⟩
    |some a=>exact qcF a c w
   .have g:∀ j,j<l.length->w.cell? ⟨b,off+j,none⟩=some (.int .i64 (l.getD j 0)):=by
     intro j hj;simp only[World.cell?,hb,Option.isSome_none,Bool.false_eq_true,if_false];exact hc j hj
    have h0:0<l.length:=by cases l with|nil=>exact absurd rfl J|cons=>simp
    refine(KG b off l.length c l w rfl h0 zOm g).mono ?_;rintro e i ⟨p,rfl,P,_,C,R⟩;exact⟨p,rfl,P,C,R⟩
  refine(addW v0 l.length (z7 l t) l t w zOm (qcH l t) I).mono ?_;rintro e i ⟨p,rfl,P,_,C,R⟩;obtain⟨r,g1,g2,g3⟩:=KP hi.imm C P;exact⟨r,p,rfl,g1,g2,⟨C,R⟩,g3⟩
theorem qcK(l:List Int)(t:Int)(C:sorted l)(hl:l.length<=100000):qd qb 91 [lI l,aI (z7 l t),aB (decide (t∈l)),aI t] (lI (delS t l)):=by
 by_cases h:t∈l
 .obtain ⟨I,p⟩:=KN C h
  rw[<-I,decide_eq_true h];refine⟨call91,fun J w o P R=>?_⟩;obtain⟨v0,v1,v2,v3,rfl,T,U,r2,r3⟩:=KO R;cases U;cases r2;cases r3;rcases VH T with ⟨rfl,a,c,rfl⟩|⟨a0,b,off,c,arr,e,fr,rfl,hb,hc⟩
  .simp at h
  have g:∀ j,j<l.length->w.cell? ⟨b,off+j,none⟩=some (.int .i64 (l.getD j 0)):=by
   intro j hj;simp only[World.cell?,hb,Option.isSome_none,Bool.false_eq_true,if_false];exact hc j hj
  refine(remW b off l.length c (z7 l t) l t w rfl zOm g p).mono ?_;rintro e w' ⟨v',rfl,h1,_,r,h3⟩;obtain⟨i,g1,g2,g3⟩:=KP P.imm r h1;exact⟨i,v',rfl,g1,g2,⟨r,h3⟩,g3⟩
 .rw [qcI h,decide_eq_false h]
  refine qSU call91 func91 rfl ?_;exact .hf _ (qM _)
theorem Uf(a b:Int)(v:AV)(es:List (AV×AV))(i:Nat):qL qb 3 (.sc (.int .i64 a)) ((.sc (.int .i64 b),v) :: es) i=if a=b then some (some i) else qL qb 3 (.sc (.int .i64 a)) es (i+1):=by
 by_cases h:a=b
 .subst h;simp[qL,yk,go_sem]
 .simp [qL,yk,go_sem,h]
abbrev fnA(f:us):AV := .fn (.func f) [] []
abbrev ruE(k:Int):AV:=if k=1 then .agg [fnA 87,fnA 88] else .agg [fnA 90,fnA 91]
abbrev ruM:AV := .ims [(aI 1,ruE 1),(aI 2,ruE 2)]
theorem KQ(k:Int):HF (ruE k):=by
 unfold ruE;split<;>exact HF.agg fun c g=>by simp at g;rcases g with rfl|rfl<;>exact VI _
theorem qcL:qd qb 54 [] ruM:=by
 refine qSU call54 func54 rfl ?_;simp[go_sem,Uf];refine fU (es:=[(aI 1,ruE 1),(aI 2,ruE 2)]) (fs:=[(aI 1,ruE 1),(aI 2,ruE 2)]) rfl zSp zSp (fun x=>Iff.rfl) fun x g=>?_
 simp only[qp,zb,or_false]at g;rcases g with rfl|rfl
 .exact ⟨HF.sc _,KQ 1⟩
 .exact ⟨HF.sc _,KQ 2⟩
end
end HR
set_option maxHeartbeats 1000000
namespace HS
open YF P1 E1 E3 EO F4 GB GD GF GR GS HF1 HN HO HP HR
section
variable {e:Ed}{vs:List Bool}{mu:Mu}{j:Nat}{S:Sts}
theorem kinds(h:e.kind=1\/e.kind=2):∃ F1 F2:us,ruE e.kind = .agg [fnA F1,fnA F2]/\(∀ bd:Bd,bd.up.ts.length<=1000000000->bd.lo.ts.length<=1000000000->qd qb F1 [eBd bd,aI e.tup] (aB (!decide ((e.kind=1/\e.tup ∉ bd.up.ts)\/(e.kind=2/\e.tup∈bd.lo.ts))))) /\
  ∀ l:List Int,sorted l->l.length<=100000->qd qb F2 [lI l,aI (z7 l e.tup),aB (decide (e.tup∈l)),aI e.tup] (lI (edTs e l)):=by
 rcases h with h|h
 .refine ⟨_,_,by rw[ruE,if_pos h],fun bd j o=>?_,fun l g i=>?_⟩
  .have:=qb5 bd e.tup j
   rw[show decide (e.tup∈bd.up.ts)=(!decide ((e.kind=1/\e.tup ∉ bd.up.ts)\/(e.kind=2/\e.tup∈bd.lo.ts))) by simp[h]]at this;exact this
  .rw [edTs,if_pos h];exact qcJ l e.tup g i
 .refine ⟨_,_,by rw[ruE,zIn],fun bd j o=>?_,fun l g i=>?_⟩
  .have:=qb6 bd e.tup o
   rw[show (!decide (e.tup∈bd.lo.ts))=(!decide ((e.kind=1/\e.tup ∉ bd.up.ts)\/(e.kind=2/\e.tup∈bd.lo.ts))) by simp[h]]at this;exact this
  .rw [edTs,zIn];exact qcK l e.tup g i
def edTo(vs:List Bool)(e:Ed)(S:Sts)(j:Nat):Sts:=S.mapIdx fun s st=>if s<j/\hits vs e s=true then st.modify e.field.toNat (edR e) else st
theorem qcM(vs:List Bool)(e:Ed)(S:Sts):edTo vs e S 0=S:=by
 refine zT fun s=>?_
 simp[edTo]
theorem Ug(vs:List Bool)(e:Ed)(S:Sts)(j:Nat):(edTo vs e S j).length=S.length:=by simp[edTo]
theorem qcN(vs:List Bool)(e:Ed)(S:Sts):edTo vs e S S.length=edSt vs e S:=by
 refine zT fun s=>?_
 simp only[edTo,edSt,List.getElem?_mapIdx];cases h:S[s]? with
 |none=>rfl
 |some st =>
  have:=(qn.1 h).1;simp[this]
theorem qcO(h:hits vs e j=false):edTo vs e S (j+1)=edTo vs e S j:=by
 refine zT fun s=>?_
 simp only[edTo,List.getElem?_mapIdx];cases S[s]? with
 |none=>rfl
 |some st =>
  simp only[qU];congr 1;by_cases g:s=j
  .subst g;simp[h]
  .simp [show (s<j+1)=(s<j) by simp;omega]
theorem qcP(g:j<S.length):(edTo vs e S j)[j]?=some S[j]:=by
 simp[edTo,g]
theorem qcQ(g:j<S.length)(h:hits vs e j=true):edTo vs e S (j+1)=(edTo vs e S j).set j (S[j].modify e.field.toNat (edR e)):=by
 refine zT fun s=>?_
 rw[UQ];simp only[edTo,List.getElem?_mapIdx,List.length_mapIdx];by_cases i:j=s
 .subst i
  rw[if_pos rfl,if_pos g,qq g];simp[h]
 .rw [if_neg i]
  cases S[s]? with
  |none=>rfl
  |some st=>simp only[qU];congr 1;simp[show (s<j+1)=(s<j) by simp;omega]
structure ShpS (nS nF K:Nat) (S:Sts):Prop where
 shp:Shp nS nF S
 sm:∀ s f,s<nS->f<nF->(getR S s f).ts.length<=K
theorem qcR(e:Ed)(l:List Int):(edTs e l).length<=l.length+1:=by
 have g:∀(t:Int) (l:List Int),(insS t l).length<=l.length+1:=fun t l=>by
  induction l with
  |nil=>simp[insS]
  |cons x l i=>rw[insS];split;simp;split;simp;simp;exact i
 unfold edTs;split
 .exact g _ _
 .have:=List.length_filter_le (fun x=>!decide (x=e.tup)) l
  show (l.filter _).length<=_;omega
theorem ShpS.ed{nS nF K:Nat}(h:ShpS nS nF K S):ShpS nS nF (K+1) (edSt vs e S):=by
 refine⟨h.shp.ed,fun s f g hf=>?_⟩;have:=h.sm s f g hf;rw[v8 h.shp.lens (by rw[h.shp.len];exact g) hf];split
 .have:=qcR e (getR S s f).ts
  show (edTs e _).length<=_;omega
 .omega
theorem ShpS.eds{nS nF:Nat}{vs:List Bool}:∀{l:List Ed} {K:Nat} {S:Sts},ShpS nS nF K S->ShpS nS nF (K+l.length) (edsL vs l S)
 | [],K,S,h=>h
 |e :: l,K,S,h=>by
  have:=ShpS.eds (vs:=vs) (l:=l) (h.ed (vs:=vs) (e:=e));rw[zZ,show K+(l.length+1)=K+1+l.length by omega];exact this
theorem StO.put{lo:Nat}{av:AV}{f:Nat->AV}{bj:Nat}{row':List Rl}(h:StO mu lo av f S)(o:j<S.length)(hf:f j = .sl bj 2 0 S[j].length)(C:row'.length=S[j].length):StO (mu.set bj (.arr (row'.map cRel).flatten)) lo av f (S.set j row'):=by
 have g:qw (f j)=some bj:=by rw[hf];rfl
 have p:=Own.lt (h.row j o) g;refine⟨?_,h.lo0,fun s l=>?_,fun s b l q=>h.lor s b (zUs l) q,fun s t b l I r q=>h.dis s t b (zUs l) (zUs I) r q,fun q=>h.ne0 (zUs q),fun s l q=>?_⟩
 .rw [List.length_set]
  exact Own.frame h.own fun b q=>jK fun e=>(h.lor j bj o g).2 (by rw[e];exact q)
 .have i:s<S.length:=by simpa using l
  by_cases e:j=s
  .subst e
   rw[List.getElem_set_self];exact .inr ⟨bj,by rw[hf,yP,C],yC p⟩
  .rw [pp e]
   exact Own.frame (h.row s i) fun b q=>jK fun J=>h.dis j s bj o i e g (by rw[J];exact q)
 .have i:s<S.length:=by simpa using l
  by_cases e:j=s
  .subst e;exact⟨bj,g⟩
  .rw [pp e]at q;exact h.ne s i q
theorem KR(f:Nat->AV):∀ l:List Nat,(l.map fun s=>[f s]).flatten=l.map f
 | []=>rfl
 |x :: l=>by rw[jM,List.flatten_cons,KR f l];rfl
theorem KS:∀(g:List Rl) (F:Nat) (h:F<g.length),List.take 1 (List.drop (F*2+1) (g.map cRel).flatten)=[lI g[F].ts]
 |r :: g,0,_=>rfl
 |r :: g,F+1,h=>by
  have:=KS g F (zUs h);rw[show (F+1)*2+1=(F*2+1)+2 by omega];simpa using this
theorem KT(new:List Int):∀(g:List Rl) (F:Nat) (h:F<g.length),(g.map cRel).flatten.set (F*2+1) (lI new)=((g.set F ⟨g[F].ar,new⟩).map cRel).flatten
 |r :: g,0,_=>zSp
 |r :: g,F+1,h=>by
  have:=KT new g F (zUs h);rw[show (F+1)*2+1=(F*2+1)+2 by omega];simpa using this
theorem StO.rd{lo:Nat}{av:AV}{f:Nat->AV}(h:StO mu lo av f S):Rd mu av (lSt S):=by
 have o:S.map cSt=(qm S.length).map fun s=>[lRel (S.getD s [])]:=by
  refine zT fun s=>?_
  rw[qZ,qZ];by_cases g:s<S.length
  .rw [qq g,List.getElem?_range g]
   simp[g]
  .rw [je zOm,je zSo];rfl
 show Rd mu av (.lst false (S.map cSt));rw[o];refine aW h.own (fun r i=>?_) (fun r i=>?_) fun s g=>?_
 .obtain ⟨n,_,rfl⟩:=qs.1 i;rfl
 .obtain ⟨n,_,rfl⟩:=qs.1 i;rfl
 .have j:=zY.1 g
  have p:S.getD s []=S[s]:=by rw[qS,qq j];rfl
  rw[p];exact⟨Own.rd (h.row s j) (Z2 _).ok fun r i c l=>by
   obtain⟨q,_,rfl⟩:=qs.1 i;simp at l;rcases l with rfl|rfl
   .exact HF.sc _
   .exact qM _,trivial⟩
def outA(m:Md):Except Int Sts->AV
 | .ok T => .tup [eMd { m with sK:=T },aI 0]
 | .error e => .tup [eMd ⟨⟨[],0⟩,[],0⟩,aI e]
abbrev ruZ:AV := .agg [.sc .nilFunc,.sc .nilFunc]
theorem qcS(mu:Mu){k:Int}(h:¬(k=1\/k=2)):z5 qb mu 107 ruM (aI k) true=some (.tup [ruZ,aB false]):=by
 simp[z5,go_sem,Uf,show ¬k=1 from fun q=>h (.inl q),show ¬k=2 from fun q=>h (.inr q)]
theorem qcT(mu:Mu){k:Int}(h:k=1\/k=2):z5 qb mu 107 ruM (aI k) true=some (.tup [ruE k,aB true]):=by
 rcases h with rfl|rfl<;>simp[z5,go_sem,Uf]
theorem aX{a b x y:AV}(j:Rd mu a x)(l:Rd mu b y):Rd mu (.tup [a,b]) (.tup [x,y]):=by
 refine .tup _ _ rfl fun k u v g i=>?_
 match k with
 | 0=>simp at g i;subst g;subst i;exact j
 | 1=>simp at g i;subst g;subst i;exact l
 |k+2=>simp at g
theorem rdZ(mu:Mu)(x:Int):Rd mu (.tup [.agg zMd,aI x]) (.tup [eMd ⟨⟨[],0⟩,[],0⟩,aI x]):=by
 have g:Rd mu (.lst true []) (.lst false []) := .wk _ true _ (.hf _ (HF.lst (full:=true) (xs:=[]) fun r i=>by simp at i));exact aX (fQ ⟨g,.hf _ (HF.sc _),g,.hf _ (HF.sc _),trivial⟩) (.hf _ (HF.sc _))
theorem KU(ts:TS)(b:List Bd)(m:Md)(l:List Ed)(hb:b.length=ts.sA.length)(cb:∀ x,x∈b->x.up.ts.length<=1000000000/\x.lo.ts.length<=1000000000)(hS:ShpS m.sK.length ts.sA.length 1000 m.sK)(hn:m.sK.length<=1000)(hf:ts.sA.length<=1000)(ha:m.sc.sC.length<=1000000)(hl:l.length<=20000) :
  qd qb 14 [eTS ts,lBd b,eMd m,lEd l] (outA m (zm (vsT ts) m.sK.length ts.sA.length b l m.sK)):=by
 have cc:OkSt m.sK:=⟨hn,fun s hs=>zW1 (hS.shp.lens s hs),fun s hs r hr=>by
  obtain⟨i,hi,rfl⟩:=zX hs;obtain⟨j,hj,rfl⟩:=zX hr;have ct:=hS.shp.lens _ (qo hi);have:=hS.sm i j hi zOm;rw[zE hi hj]at this;omega⟩
 refine qSU call14 func14 rfl ?_;refine fL (qcD m cc ha _) ?_ (by rintro r m ⟨P,f,h,_⟩;cases h);rintro r aa ⟨P,f,h,hO,bc,cs⟩;cases h;have h0:aa[0]?=some (.arr zMd):=by rw[bc 0 zSp];rfl
 have cu:0<aa.length:=(qn.1 h0).1;have cv:∀ b,qw P=some b->1<=b/\b<aa.length:=fun b q=>⟨hO.lo0 b q,Own.lt hO.own q⟩
 have cd:∀ s b,s<m.sK.length->qw (f s)=some b->1<=b/\b<aa.length:=fun s b hs q=>⟨(hO.lor s b hs q).1,Own.lt (hO.row s hs) q⟩
 have ab:(m.sK.length=0/\(P = .lst true []\/∃ b0,P = .sl b0 1 0 0))\/(0<m.sK.length/\∃ b0,P = .sl b0 1 0 m.sK.length):=by
  rcases Nat.eq_zero_or_pos m.sK.length with h|h
  .rcases hO.own with e|⟨b,e,_⟩
   .rw [h]at e;exact .inl ⟨h,.inl (zUs e)⟩
   .rw [h]at e;exact .inl ⟨h,.inr ⟨b,zUs e⟩⟩
  .obtain ⟨b0,be⟩:=hO.ne0 h
   rcases hO.own with e|⟨b,e,_⟩
   .rw [e]at be;cases be
   .exact .inr ⟨h,b,zUs e⟩
 have bg:=Own.one hO.own;have bh:=Own.cells hO.own;simp[go_sem,bg,bh];generalize hR:aa.length=R at *
 refine fG qcL .nil ?_;generalize cf:vsT ts=o at *
 generalize cw:m.sK.length=nS at *
 generalize bi:ts.sA.length=nF at *
 refine fZ l.length (fun k st=>st.tm 1=lBd b/\st.tm 4 = .ip (cTS ts)/\st.tm 8 = .ptr 0 0/\st.tm 10 = .ptr R 0/\st.tm 11=ruM/\st.tm 23=lEd l/\st.tm 24=aI l.length/\st.tm 25=aI k /\
  st.mu[0]?=some (.arr zMd)/\st.mu[R]?=some (.arr [lI m.sc.sC,aI m.sc.sN,P,aI m.loop])/\(∀ e,e∈l.take k->errE nS nF b e=0)/\StO st.mu 1 P f (edsL o (l.take k) m.sK)) ?_ ?_
 .refine ⟨zSi,zSi,zSi,zS1 hR,zSi,zSi,zSi,zSi,?_,?_,zSp,?_⟩
  .simp only[go_sem]
   rw[zGa];exact h0
  .simp [go_sem,<-hR]
  .simp only[go_sem,List.take_zero,List.foldl_nil]
   exact hO.frame fun i _ hi=>zGa
 rintro k st hk ⟨e1,e4,e8,t,U,a0,C,J,c0,cR,a5,b1⟩;have cx:R<st.mu.length:=(qn.1 cR).1;have bk:∀ L,(st.mu++L)[0]?=some (.arr zMd):=fun L=>by rw[zGa];exact c0
 have a6:∀ L,(st.mu++L)[R]?=some (.arr [lI m.sc.sC,aI m.sc.sN,P,aI m.loop]):=fun L=>by rw[zGa];exact cR
 have a3:∀ L (h:0<(st.mu++L).length),(st.mu++L)[0]'h = .arr zMd:=fun L h=>by have:=bk L;rw[qq h]at this;exact Option.some.inj this
 by_cases ad:k<l.length
 .have w1:=zWk k
  have ai:ShpS nS nF (1000+(l.take k).length) (edsL o (l.take k) m.sK):=hS.eds;have cy:(l.take k).length<=20000:=zSo;have bl:l.take (k+1)=l.take k++[l[k]]:=by rw[ua ad]
  have g:zm o nS nF b l m.sK=zm o nS nF b (l.drop k) (edsL o (l.take k) m.sK):=by
   conv=>lhs;rw[<-uN k l,VG,Qy a5]
  rw[zH ad,zm]at g;generalize cg:edsL o (l.take k) m.sK=S at *
  generalize bm:l[k]=e at *
  by_cases a7:e.kind=1\/e.kind=2
  case neg =>
   have hE:errE nS nF b e=1:=by unfold errE;rw[if_pos (.inl ⟨fun q=>a7 (.inl q),fun q=>a7 (.inr q)⟩)]
   rw[hE,zIn]at g;rw[g];simp[go_sem,a0,C,J,U,ad,bm,qcS _ a7];simp[go_sem,e8,a3];exact rdZ _ 1
  obtain⟨F1,F2,ch,bn,b2⟩:=kinds a7;have aw:=fun I=>qcT I a7
  rw[ch]at aw;simp[go_sem,a0,C,J,U,ad,bm,aw];have aj:(e.state<0\/(nS:Int)<=e.state\/e.field<0\/(nF:Int)<=e.field)->errE nS nF b e=1:=fun q=>by unfold errE;rw[if_pos (.inr q)]
  by_cases q1:e.state<0
  .rw [aj (.inl q1),zIn]at g
   rw[g];simp[go_sem,q1,e8,a3];exact rdZ _ 1
  by_cases q2:(nS:Int)<=e.state
  .rw [aj (.inr (.inl q2)),zIn]at g
   rw[g];simp[go_sem,q1,t,a6];refine cK (aI nS) (by rcases ab with ⟨h0,e|⟨_,e⟩⟩|⟨_,b0,e⟩<;>rw[e]<;>simp[h0]) ?_;simp[go_sem,q1,q2,e8,a3];exact rdZ _ 1
  obtain⟨cz,b0,rfl⟩:0<nS/\∃ b0,P = .sl b0 1 0 nS:=by
   rcases ab with ⟨h0,_⟩|h
   .omega
   .exact h
  by_cases q3:e.field<0
  .rw [aj (.inr (.inr (.inl q3))),zIn]at g
   rw[g];simp[go_sem,q1,q2,q3,t,a6,e8,a3];exact rdZ _ 1
  by_cases q4:(nF:Int)<=e.field
  .rw [aj (.inr (.inr (.inr q4))),zIn]at g
   rw[g];simp[go_sem,q1,q2,q3,q4,t,a6,e8,a3,e4,bi];exact rdZ _ 1
  simp[go_sem,q1,q2,q3,q4,t,a6,e8,a3,e4,bi];obtain⟨F,hF⟩:=Int.eq_ofNat_of_zero_le (show 0<=e.field by omega);have b3:F<nF:=zOm;have b4:F<b.length:=zOm;have bo:=cb _ (qo b4);have ae:errE nS nF b e=if (e.kind=1/\e.tup ∉ b[F].up.ts)\/(e.kind=2/\e.tup∈b[F].lo.ts) then 330 else 0:=by
   unfold errE;rw[if_neg (by rintro (⟨h1,h2⟩|h|h|h|h);rcases a7 with h|h;exact h1 h;exact h2 h;all_goals omega),hF];simp[b4]
  have hm:=bn b[F] bo.1 bo.2;refine aQ zKr ?_;simp[go_sem,e1,hF,b4];refine cA hm (.zk (VZ _) (.zs .nil)) ?_;by_cases q5:(e.kind=1/\e.tup ∉ b[F].up.ts)\/(e.kind=2/\e.tup∈b[F].lo.ts)
  .rw [if_pos q5]at ae
   rw[ae,zIn]at g;rw[g,decide_eq_true q5];simp[go_sem,e8,a3];exact rdZ _ 330
  rw[if_neg q5]at ae;rw[ae,if_pos rfl]at g;rw[decide_eq_false q5];have bq:S.length=nS:=ai.shp.len;have cj:o.getD F true=(ts.sA[F]' zOm).var:=by rw[<-cf,qS,qZ,qq zOm];rfl
  simp[go_sem,t,a6];generalize ak:st.mu.length=Re at *
  refine fZ nS (fun j st2=>st2.tm 1=lBd b/\st2.tm 4 = .ip (cTS ts)/\st2.tm 8 = .ptr 0 0/\st2.tm 10 = .ptr R 0/\st2.tm 11=ruM/\st2.tm 13 = .ptr Re 0/\st2.tm 14 = .ptr (Re+1) 0/\st2.tm 23=lEd l/\st2.tm 24=aI l.length/\st2.tm 25=aI k/\st2.tm 79=aI nS/\st2.tm 80=aI j /\
   st2.mu[0]?=some (.arr zMd)/\st2.mu[R]?=some (.arr [lI m.sc.sC,aI m.sc.sN,.sl b0 1 0 nS,aI m.loop])/\st2.mu[Re]?=some (.arr (cEd e))/\st2.mu[Re+1]?=some (.arr [fnA F1,fnA F2])/\StO st2.mu 1 (.sl b0 1 0 nS) f (edTo o e S j)) ?_ ?_
  .refine ⟨zS1 e1,zS1 e4,zS1 e8,zS1 t,zS1 U,zS1 ak,zS1 ak,zS1 a0,zS1 C,zS1 J,zSi,zSi,?_,?_,?_,?_,?_⟩
   .simp only[go_sem];exact bk _
   .simp only[go_sem];exact a6 _
   .simp [go_sem,<-ak,hF]
   .simp [go_sem,<-ak]
   .rw [qcM]
    simp only[go_sem];exact b1.frame fun i _ hi=>qT hi
  clear e1 e4 e8 t U a0 C J;rintro j st2 hj ⟨e1,e4,e8,t,U,a1,b5,a0,C,J,a8,af,d0,dR,T,al,a4⟩;have da:=(qn.1 T).1;have db:=(qn.1 al).1;have lR:=(qn.1 dR).1;have ax:e.field.toNat=F:=by rw[hF];rfl
  by_cases a2:j<nS
  .have w2:=zWk j
   have a9:j<S.length:=zOm;have b6:F<ts.sA.length:=zOm;have p:hits o e j=(decide ((j:Int)=e.state)||!(ts.sA[F].var)):=by rw[hits,ax,cj]
   by_cases b7:hits o e j=true
   .have b8:=ai.shp.lens _ (qo a9)
    have an:(edTo o e S j)[j]'(by rw[Ug];exact a9)=S[j]:=by
     have:=qcP (vs:=o) (e:=e) a9;rw[qq (by rw[Ug];exact a9)]at this;exact Option.some.inj this
    have br:(edTo o e S j).length=nS:=by rw[Ug,bq]
    obtain⟨bj,ag⟩:=a4.ne j zOm (by rw[an];omega);have ao:f j = .sl bj 2 0 nF/\st2.mu[bj]?=some (.arr (S[j].map cRel).flatten):=by
     rcases a4.row j zOm with q|⟨b',q,hc⟩
     .rw [q]at ag;cases ag
     .rw [q]at ag;cases ag
      rw[an]at q hc;exact⟨by rw[q,yP,b8],hc⟩
    obtain⟨ao,b9⟩:=ao;have ck:st2.mu[b0]?=some (.arr ((qm nS).map f)):=by
     rcases a4.own with q|⟨b',q,hc⟩
     .cases q
     .injection q with q1 _ _ _
      rw[q1,hc,br,KR]
    have aq:(j:Int)=e.state\/(¬(j:Int)=e.state/\ts.sA[F].var=false):=by
     rw[b7]at p;by_cases p1:(j:Int)=e.state
     .exact .inl p1
     .refine .inr ⟨p1,?_⟩
      cases hv:ts.sA[F].var with
      |false=>rfl
      |true=>rw[hv,decide_eq_false p1]at p;simp at p
    rcases aq with p1|⟨p1,p2⟩
    case' inl=>simp[go_sem,a8,af,a2,a1,T,p1.symm,e4,hF,b6,w2]
    case' inr=>simp[go_sem,a8,af,a2,a1,T,p1,e4,hF,b6,p2,w2]
    all_goals
     refine aQ zKr ?_;have bs:List.take 1 (List.drop j ((qm nS).map f))=[.sl bj 2 0 nF]:=by rw[zH zSo];simp[ao]
     have au:F<S[j].length:=zOm;have cl:getR S j F=S[j][F]:=zE a9 au;have ah:=ai.shp.srt j F zOm b3;have cm:=ai.sm j F zOm b3;rw[cl]at ah cm;have bt:=binU S[j][F].ts e.tup zOm (ah.imp fun h=>zOm);have cn:=b2 S[j][F].ts ah zOm;have cp:(S[j].map cRel).flatten.length=nF*2:=by rw[z2 (Z2 _).ok];simp[b8]
     have ay:=KS S[j] F au;have bu:=KT (edTs e S[j][F].ts) S[j] F au;generalize dc:(S[j].map cRel).flatten=FL at *
     have cq:j+1<=nS:=a2;simp[go_sem,t,a1,dR,T,ck,hF,a2,b3,bs,cq];refine aQ zKr ?_;have bb:F*2+1+1<=FL.length:=zOm;simp[go_sem,a1,T,b9,ay,bb];refine fG bt (.zk (qM _) (.zs .nil)) ?_;refine aQ zKr ?_;simp[go_sem,a1,b5,T,al,b9,ay,bb];refine cA cn (.zk (qM _) (.zs (.zs (.zs .nil)))) ?_;simp[go_sem,b9,bb,af,w2];obtain⟨g1,g2⟩:=cd j bj a2 ag;have bv:S[j].modify e.field.toNat (edR e)=S[j].set F ⟨S[j][F].ar,edTs e S[j][F].ts⟩:=by
      rw[ax];refine zT fun i=>?_
      rw[List.getElem?_modify,UQ];by_cases hi:F=i
      .subst hi;simp[au,edR]
      .simp [hi]
     rw[qcQ a9 b7,bv];have hP:=StO.put a4 (j:=j) (bj:=bj) (row':=S[j].set F ⟨S[j][F].ar,edTs e S[j][F].ts⟩) zOm (by rw[ao,an,b8]) (by rw[an,List.length_set]);rw[<-bu]at hP;refine⟨a2,aK ⟨zS1 e1,zS1 e4,zS1 e8,zS1 t,zS1 U,zS1 a1,zS1 b5,zS1 a0,zS1 C,zS1 J,zS1 a8,zSi,?_,?_,?_,?_,?_⟩⟩
     .simp only[go_sem]
      rw[zGl];exact d0
     .simp only[go_sem]
      rw[zGl];exact dR
     .simp only[go_sem]
      rw[zGl];exact T
     .simp only[go_sem]
      rw[zGl];exact al
     .simp only[go_sem]
      exact hP
   .have bw:hits o e j=false:=by simpa using b7
    rw[bw]at p;have p1:¬(j:Int)=e.state:=fun q=>by rw[decide_eq_true q]at p;simp at p
    have p2:ts.sA[F].var=true:=by cases hv:ts.sA[F].var with
     |true=>rfl
     |false=>rw[hv]at p;simp at p
    simp[go_sem,a8,af,a2,a1,T,p1,e4,hF,b6,p2,w2]
    try refine⟨a2,aK ?_⟩
    try refine aK ?_
    rw[qcO bw];exact⟨zS1 e1,zS1 e4,zS1 e8,zS1 t,zS1 U,zS1 a1,zS1 b5,zS1 a0,zS1 C,zS1 J,zS1 a8,zSi,by simpa[go_sem] using d0,by simpa[go_sem] using dR,by simpa[go_sem] using T,by simpa[go_sem] using al,zVs a4⟩
  .obtain rfl:j=nS:=by omega
   simp[go_sem,a8,af,J,w1];have cr:edsL o (l.take (k+1)) m.sK=edSt o e S:=by
    rw[bl,<-cg];show List.foldl _ _ _=_;rw[List.foldl_append];rfl
   have az:=qcN o e S;rw[bq]at az;rw[az]at a4;refine⟨ad,aK ⟨zS1 e1,zS1 e4,zS1 e8,zS1 t,zS1 U,zS1 a0,zS1 C,zSi,by simpa[go_sem] using d0,by simpa[go_sem] using dR,fun x hx=>?_,by rw[cr];simpa[go_sem] using a4⟩⟩;rw[bl,qR,qV]at hx;rcases hx with hx|rfl
   .exact a5 x hx
   .exact ae
 .obtain rfl:k=l.length:=by omega
  simp[go_sem,C,J,e8,t,cR,c0,bg,bh];have ca:0<st.mu.length:=zOm;rw[yC ca];simp[go_sem];rw[zt]at a5 b1;rw[Qy a5];exact aX (fQ ⟨.hf _ (qM _),.hf _ (HF.sc _),StO.rd (b1.frame fun i hi _=>zGl),.hf _ (HF.sc _),trivial⟩) (.hf _ (HF.sc _))
end
end HS
set_option maxHeartbeats 1000000
namespace HT
open E3 E4 EO F4 GB GC GR HF1 HO HP HS
structure OutM (mu:Mu) (p q r:Nat) (s f:Int) (xs:List Ed):Prop where
 av:∃ av,mu[p]?=some (.arr [av])/\Own mu 4 av (xs.map cEd)/\∀ b,qw av=some b->b≠p/\b≠q/\b≠r
 hq:mu[q]?=some (.arr [aI s])
 hr:mu[r]?=some (.arr [aI f])
 ne:p≠q/\p≠r/\q≠r
theorem addE(k s f t:Int)(xs:List Ed)(hl:xs.length<=2000000)(p q r:Nat)(mu:Mu)(h:OutM mu p q r s f xs) :
  qK qb 47 [aI t,.ptr p 0,.ip [aI k],.ptr q 0,.ptr r 0] mu (fun e m=>e = .ret (.tup [])/\OutM m p q r s f (xs++[⟨k,s,f,t⟩])/\mu.length<=m.length):=by
 obtain⟨⟨P,R,T,g⟩,U,hr,n1,n2,n3⟩:=h;have lp:=(qn.1 R).1;have lq:=(qn.1 U).1;have lr:=(qn.1 hr).1;have a3:=Own.one T;have a4:=Own.cells T;refine qSW call47 func47 rfl {} ?_;simp[go_sem,R,U,hr];refine .inl (yj.ownB (e:=78) (sz:=4) (bt:=32) (zv := .agg [aI 0,aI 0,aI 0,aI 0]) (xs:=xs.map cEd) (ys:=[cEd ⟨k,s,f,t⟩]) zSi zSi zSi rfl rfl zOm zOm T (by simp[qE]) (jp _) (jp [_]) zSo ?_);intro C a0 i o a1 a2 a5;have I:a0[p]?=some (.arr [P]):=by rw[o p lp (fun e=>(g p e).1 rfl)];exact R
 simp[go_sem,I,Own.one i,Own.cells i];have J:∀ b,qw C=some b->b≠p/\b≠q/\b≠r:=fun b q=>zW1 (a1 b q)
 refine⟨⟨⟨C,yC (qn.1 I).1,?_,J⟩,?_,?_,n1,n2,n3⟩,a2⟩
 .rw [yv]
  exact Own.set i _ fun e=>(J p e).1 rfl
 .rw [jK n1,o q lq (fun e=>(g q e).2.1 rfl)];exact U
 .rw [jK n2,o r lr (fun e=>(g r e).2.2 rfl)];exact hr
abbrev fnE(k:Int)(p q r:Nat):AV := .fn (.func 47) [] [.ptr p 0,.ip [aI k],.ptr q 0,.ptr r 0]
theorem Uh(s f:Int):∀(a b:List Int),(qO s f a b).length<=a.length+b.length:=by
 intro a b
 fun_induction qO s f a b<;>simp at *<;>omega
theorem qcU(s f:Int)(a b:List Int)(ha:a.length<=100000)(hb:b.length<=100000)(xs:List Ed)(hl:xs.length<=1000000)(p q r:Nat)(mu:Mu)(h:OutM mu p q r s f xs) :
  qK qb 48 [lI a,lI b,fnE 2 p q r,fnE 1 p q r] mu (fun e m=>e = .ret (.tup [])/\OutM m p q r s f (xs++qO s f a b)/\mu.length<=m.length):=by
 have a1:=Uh s f a b;refine qSW call48 func48 rfl {} ?_;simp[go_sem];refine cC (fun n st=>∃ i g l,st.tm 0=lI i/\st.tm 1=lI g/\st.tm 2=fnE 2 p q r/\st.tm 3=fnE 1 p q r/\n=i.length+g.length/\l++qO s f i g=qO s f a b/\OutM st.mu p q r s f (xs++l)/\mu.length<=st.mu.length) (a.length+b.length) ?_ ?_
 .exact ⟨a,b,[],zSi,zSi,zSi,zSi,rfl,rfl,zVs h,zSi⟩
 rintro n st ⟨i,g,l,o,j,R,T,hn,t,U,a0⟩;have P:(xs++l).length<=2000000:=by
  have:=congrArg List.length t;simp only[zc]at this⊢;omega
 cases i with
 |nil =>
  cases g with
  |nil =>
   simp[go_sem,o,j];refine⟨?_,a0⟩;rw[<-t];simpa[qO] using U
  |cons y g =>
   have n0:¬(g.length:Int)+1=0:=zOm;have n1:1<=(g.length:Int)+1:=zOm;have n2:0<(g.length:Int)+1:=zOm;simp[go_sem,o,j,n2];refine aQ zKr ?_;simp[go_sem,o,j,n0];refine aQ zKr ?_;simp[go_sem,o,j,T];refine fR (caps:=[.ptr p 0,.ip [aI 1],.ptr q 0,.ptr r 0]) (addE 1 s f y (xs++l) P p q r st.mu U) ?_ (by rintro e m ⟨h,_⟩;cases h);rintro e m ⟨h,C,I⟩;cases h;simp[go_sem,j];refine⟨⟨_,_,⟨rfl,rfl⟩,(ja (y :: g)).ok⟩,?_⟩;simp[go_sem,n1,zi];refine Keep.loop (([]:List Int).length+g.length) (by simp at hn⊢;omega) ⟨[],g,l++[⟨1,s,f,y⟩],zS1 o,zSi,zS1 R,zS1 T,rfl,?_,zVs C,by simp[go_sem];omega⟩;rw[<-t,qO];simp
 |cons x i =>
  have m0:¬(i.length:Int)+1=0:=zOm;have m1:1<=(i.length:Int)+1:=zOm;have m2:0<(i.length:Int)+1:=zOm;cases g with
  |nil =>
   simp[go_sem,o,j,m2];refine aQ zKr ?_;simp[go_sem,o,j,R];refine fR (caps:=[.ptr p 0,.ip [aI 2],.ptr q 0,.ptr r 0]) (addE 2 s f x (xs++l) P p q r st.mu U) ?_ (by rintro e m ⟨h,_⟩;cases h);rintro e m ⟨h,C,I⟩;cases h;simp[go_sem,o];refine⟨⟨_,_,⟨rfl,rfl⟩,(ja (x :: i)).ok⟩,?_⟩;simp[go_sem,m1,zi];refine Keep.loop (i.length+([]:List Int).length) (by simp at hn⊢;omega) ⟨i,[],l++[⟨2,s,f,x⟩],zSi,zS1 j,zS1 R,zS1 T,rfl,?_,zVs C,by simp[go_sem];omega⟩;rw[<-t,qO];simp
  |cons y g =>
   have n0:¬(g.length:Int)+1=0:=zOm;have n1:1<=(g.length:Int)+1:=zOm;simp[go_sem,o,j,m2];refine aQ zKr ?_;by_cases h1:x<y
   .simp [go_sem,o,j,R,h1,n0,m2]
    refine fR (caps:=[.ptr p 0,.ip [aI 2],.ptr q 0,.ptr r 0]) (addE 2 s f x (xs++l) P p q r st.mu U) ?_ (by rintro e m ⟨h,_⟩;cases h);rintro e m ⟨h,C,I⟩;cases h;simp[go_sem,o];refine⟨⟨_,_,⟨rfl,rfl⟩,(ja (x :: i)).ok⟩,?_⟩;simp[go_sem,m1,zi];refine Keep.loop (i.length+(y :: g).length) (by simp at hn⊢;omega) ⟨i,y :: g,l++[⟨2,s,f,x⟩],zSi,zS1 j,zS1 R,zS1 T,rfl,?_,zVs C,by simp[go_sem];omega⟩;rw[<-t,qO,if_pos h1];simp
   .simp [go_sem,o,j,h1,n0,m2]
    refine aQ zKr ?_;by_cases h2:y<x
    .simp [go_sem,o,j,T,h2,m0]
     refine fR (caps:=[.ptr p 0,.ip [aI 1],.ptr q 0,.ptr r 0]) (addE 1 s f y (xs++l) P p q r st.mu U) ?_ (by rintro e m ⟨h,_⟩;cases h);rintro e m ⟨h,C,I⟩;cases h;simp[go_sem,j];refine⟨⟨_,_,⟨rfl,rfl⟩,(ja (y :: g)).ok⟩,?_⟩;simp[go_sem,n1,zi];refine Keep.loop ((x :: i).length+g.length) (by simp at hn⊢;omega) ⟨x :: i,g,l++[⟨1,s,f,y⟩],zS1 o,zSi,zS1 R,zS1 T,rfl,?_,zVs C,by simp[go_sem];omega⟩;rw[<-t,qO,if_neg h1,if_pos h2];simp
    .simp [go_sem,o,j,h2,m0]
     refine aQ zKr ?_;simp[go_sem,o,j];refine⟨⟨_,_,⟨rfl,rfl⟩,(ja (x :: i)).ok⟩,?_⟩;simp[go_sem,m1,j,zi];refine⟨⟨_,_,⟨rfl,rfl⟩,(ja (y :: g)).ok⟩,?_⟩;simp[go_sem,n1,zi];refine Keep.loop (i.length+g.length) (by simp at hn⊢;omega) ⟨i,g,l,zSi,zSi,zS1 R,zS1 T,rfl,?_,zVs U,by simp[go_sem];omega⟩;rw[<-t,qO,if_neg h1,if_neg h2]
theorem KV(k:Int)(p q r:Nat)(mu:Mu):qK qb 46 [aI k,.ptr p 0,.ptr q 0,.ptr r 0] mu (fun e m=>e = .ret (fnE k p q r)/\m=mu):=by
 refine qSW call46 func46 rfl {} ?_;simp[go_sem]
def dIn(A B:Sts)(s j:Nat):List Ed:=(qm j).flatMap fun f:Nat=>qO (s:Int) (f:Int) (getR A s f).ts (getR B s f).ts
def dTo(n:Nat)(A B:Sts)(k:Nat):List Ed:=(qm k).flatMap fun s:Nat=>dIn A B s n
theorem KW(A B:Sts)(s j:Nat):dIn A B s (j+1)=dIn A B s j++qO (s:Int) (j:Int) (getR A s j).ts (getR B s j).ts:=by
 rw[dIn,List.range_succ,List.flatMap_append];simp[dIn]
theorem KX(n:Nat)(A B:Sts)(k:Nat):dTo n A B (k+1)=dTo n A B k++dIn A B k n:=by
 rw[dTo,List.range_succ,List.flatMap_append];simp[dTo]
theorem Ui{A B:Sts}{N n s:Nat}(i:ShpS N n 1000 A)(hB:ShpS N n 1000 B)(g:s<N):∀{j:Nat},j<=n->(dIn A B s j).length<=j*2000
 | 0,_=>by simp[dIn]
 |j+1,h=>by
  rw[KW,zc];have l:=Ui i hB g (j:=j) zOm;have o:=Uh s j (getR A s j).ts (getR B s j).ts;have p:=i.sm s j g zOm;have r:=hB.sm s j g zOm;omega
theorem KY{A B:Sts}{N n:Nat}(g:ShpS N n 1000 A)(hB:ShpS N n 1000 B)(i:n<=100):∀{k:Nat},k<=N->(dTo n A B k).length<=k*200000
 | 0,_=>by simp[dTo]
 |k+1,h=>by
  rw[KX,zc];have j:=KY g hB i (k:=k) zOm;have l:=Ui g hB (s:=k) zOm (qr n);have:n*2000<=100*2000:=Nat.mul_le_mul_right _ i;omega
theorem KZ(a b:Md)(n N:Nat)(a2:a.sc.sN=b.sc.sN)(a3:a.sc.sC=b.sc.sC)(al:a.sc.sC.length<=1000000)(hA:ShpS N n 1000 a.sK)(hB:ShpS N n 1000 b.sK)(hN:N<=4)(hn:n<=100) :
  qd qb 12 [eMd a,eMd b] (lEd (q9 N n a.sK b.sK)):=by
 have heq:=Xw a.sc.sC b.sc.sC zOm;rw[decide_eq_true a3]at heq;have a8:=hA.shp.len;have a9:=hB.shp.len;refine qSV call12 func12 rfl ?_;simp[go_sem,a2];refine cA heq (.zk (qM _) (.zk (qM _) .nil)) ?_;simp[go_sem,a8,a9];refine fZ N (fun k st=>st.tm 2 = .ip (cMd a)/\st.tm 3 = .ip (cMd b)/\st.tm 5 = .ptr 0 0/\st.tm 37=aI N/\st.tm 38=aI k/\∃ P,st.mu[0]?=some (.arr [P])/\Own st.mu 4 P ((dTo n a.sK b.sK k).map cEd)/\qw P≠some 0) ?_ ?_
 .exact ⟨zS2 a2 a3,zSi,zSi,zSi,zSi,.lst true [],zSi,.inl (by simp[dTo]),by simp[qw]⟩
 rintro k st hk ⟨J,R,T,i,l,P,c0,ho,aa⟩;have l0:=(qn.1 c0).1;have ab:=Own.one ho;have ad:=Own.cells ho;by_cases t:k<N
 .have w1:=zWk k
  have o:k<a.sK.length:=zOm;have p:k<b.sK.length:=zOm;have la:=hA.shp.lens _ (qo o);have lb:=hB.shp.lens _ (qo p);generalize hQ:st.mu.length=Q at *
  simp[go_sem,i,l,t];refine aQ zKr ?_;simp[go_sem,J,R,o,p,la,lb,hQ];refine fZ n (fun j st2=>st2.tm 2 = .ip (cMd a)/\st2.tm 3 = .ip (cMd b)/\st2.tm 5 = .ptr 0 0/\st2.tm 37=aI N/\st2.tm 38=aI k/\st2.tm 6 = .ptr Q 0/\st2.tm 59=aI n/\st2.tm 60=aI j/\st2.mu[Q]?=some (.arr [aI k]) /\
   ∃ P,st2.mu[0]?=some (.arr [P])/\Own st2.mu 4 P ((dTo n a.sK b.sK k++dIn a.sK b.sK k j).map cEd)/\qw P≠some 0/\qw P≠some Q) ?_ ?_
  .refine ⟨zS1 J,zS1 R,zS1 T,zS1 i,zS1 l,zS1 hQ,zSi,zSi,by simp[go_sem,<-hQ],P,?_,?_,aa,fun q=>zW1 (Own.lt ho q)⟩
   .simp only[go_sem]
    rw[zGa];exact c0
   .simp only[go_sem,dIn,List.range_zero,List.flatMap_nil,zA]
    exact Own.push ho _
  clear J R T i l;rintro j st2 hj ⟨J,R,T,i,l,e6,a0,a1,dQ,a4,d0,C,a5,ae⟩;have aj:=Own.one C;have ak:=Own.cells C;have lQ:=(qn.1 dQ).1;by_cases g:j<n
  .have w2:=zWk j
   have ga:getR a.sK k j=a.sK[k][j]:=zE o zOm;have gb:getR b.sK k j=b.sK[k][j]:=zE p zOm;have sa:=hA.sm k j t g;have sb:=hB.sm k j t g;rw[ga]at sa;rw[gb]at sb;generalize I:st2.mu.length=r at *
   have U:∀ L,(st2.mu++L)[Q]?=some (.arr [aI k]):=fun L=>by rw[zGa];exact dQ
   simp[go_sem,a0,a1,g,I];refine fD [0,1,2,3,4,5,6,7,8,9,10,11,12,13,14,15,16,17,18,20,19,21,22] [(0,0,[]),(1,0,[]),(2,0,[]),(3,0,[]),(4,0,[]),(5,0,[]),(6,0,[]),(7,0,[]),(8,0,[]),(9,0,[]),(10,0,[]),(11,0,[]),(12,0,[]),(13,0,[]),(14,0,[]),(15,0,[]),(16,0,[]),(17,0,[]),(18,0,[]),(20,0,[]),(19,1,[1,2,4,5,8,10,11,13,14,17]),(21,1,[1,2,4,5,8,10,11,13,14,17]),(22,1,[])] zKr zKr zSi ?_;simp[go_sem,J,R,T,e6,U,o,p,la,lb,g,I];refine fR (caps:=[.ptr 0 0,.ptr Q 0,.ptr r 0]) (KV 2 0 Q r _) ?_ (by rintro e m ⟨h,_⟩;cases h);rintro e m ⟨h,rfl⟩;cases h;simp[go_sem,J,R,T,e6,U,o,p,la,lb,g,I];refine fR (caps:=[.ptr 0 0,.ptr Q 0,.ptr r 0]) (KV 1 0 Q r _) ?_ (by rintro e m ⟨h,_⟩;cases h);rintro e m ⟨h,rfl⟩;cases h;simp[go_sem,J,R,T,e6,U,o,p,la,lb,g,I];have af:(dTo n a.sK b.sK k++dIn a.sK b.sK k j).length<=1000000:=by
    rw[zc];have h1:=KY hA hB hn (k:=k) zOm;have h2:=Ui hA hB (s:=k) t (Nat.le_of_lt g);have:k*200000<=3*200000:=Nat.mul_le_mul_right _ zOm;have:j*2000<=100*2000:=Nat.mul_le_mul_right _ zOm;omega
   have a7:OutM (st2.mu++[.arr [aI j]]) 0 Q r k j (dTo n a.sK b.sK k++dIn a.sK b.sK k j):=
    ⟨⟨a4,by rw[zGa];exact d0,Own.push C _,fun b hb=>⟨fun e=>a5 (by rw[hb,e]),fun e=>ae (by rw[hb,e]),fun e=>zW1 (Own.lt C hb)⟩⟩,U _,by simp[<-I],zOm,zOm,zOm⟩
   refine fL (qcU k j a.sK[k][j].ts b.sK[k][j].ts zOm zOm _ af 0 Q r _ a7) ?_ (by rintro e m ⟨h,_⟩;cases h);rintro e m ⟨h,ag,ah⟩;cases h;obtain⟨⟨ai,g0,go,gn⟩,gq,gr,an⟩:=ag;simp[go_sem,a1,w2];refine⟨g,aK ⟨zS1 J,zS1 R,zS1 T,zS1 i,zS1 l,zS1 e6,zS1 a0,zSi,zVs gq,ai,zVs g0,?_,fun q=>(gn 0 q).1 rfl,fun q=>(gn Q q).2.1 rfl⟩⟩;simp only[go_sem];rw[KW,ga,gb,<-List.append_assoc];exact go
  .obtain rfl:j=n:=by omega
   simp[go_sem,a0,a1,l,w1];refine⟨t,aK ⟨zS1 J,zS1 R,zS1 T,zS1 i,zSi,a4,by simpa[go_sem] using d0,by rw[KX];simpa[go_sem] using C,a5⟩⟩
 .obtain rfl:k=N:=by omega
  simp[go_sem,i,l,T,c0,ab,ad];exact Own.rd ho (jp _).ok fun r hr c hc=>by
   obtain⟨q,_,rfl⟩:=qs.1 hr;simp at hc;rcases hc with rfl|rfl|rfl|rfl<;>exact HF.sc _
end HT
namespace Q9
end Q9
namespace PA
open P1 P2 Y1 Y2 Y15 Y16
section
variable {inn:Bool}{c c':Ck}{s s':Scp}
def K0(nm:cD)(s:Scp):Option Kd:=(jb nm s).head?.map Prod.snd
theorem qcV(c:Ck)(s:Scp)(nm:cD)(pos:Int):yA c s nm pos=match K0 nm s with
  |some k => .ok (some k)
  |none=>match vy c.ts nm with
   | [] => .error (40,pos)
   | [k] => .ok (some k)
   |_ => .error (44,pos):=by
 grind [yA,K0,jb]
theorem qcW{n g:Nd}(l:g.op=n.op)(o:g.name=n.name)(t:g.n=n.n)(C:g.pos=n.pos)
  (I:yo c' n.op n.name=yo c n.op n.name) (P:n.op=1->yA c s n.name n.pos=yA c' s' n.name n.pos) (p:c'.ts.sT=c.ts.sT) (i:zh c' n.name=zh c n.name)
  (r:c'.ts.sS.length=c.ts.sS.length) (j:g.sM.length=n.sM.length)
  (R:n.op=47->∀ ps,yf c s n.pos ps n.sM=yf c' s' n.pos ps g.sM)
  (hB:(n.op=15\/n.op=45\/n.op=46)->∀ inn,yp c s inn n.name n.pos n.sM=yp c' s' inn n.name n.pos g.sM)
  (J:¬n.op=1->¬n.op=47->¬(n.op=15\/n.op=45\/n.op=46)->∀ inn,zq c s inn n.sM=zq c' s' inn g.sM):exam c s inn n=exam c' s' inn g:=by
 rw[va,va,l,o,t,C,I,p,i,r,j];by_cases a:(inn&&yo c n.op n.name)=true
 .rw [if_pos a,if_pos a]
 rw[if_neg a,if_neg a];by_cases b:n.op=1
 .grind
 rw[if_neg b,if_neg b];by_cases d:n.op=47
 .simp_all
 rw[if_neg d,if_neg d];by_cases e:n.op=15\/n.op=45\/n.op=46
 .rw [if_pos e,if_pos e];exact hB e _
 rw[if_neg e,if_neg e,J b d e]
theorem K1(f:Nd->Nd):∀{ks:List Nd},(∀ k,k∈ks->exam c s inn k=exam c' s' inn (f k))->zq c s inn ks=zq c' s' inn (ks.map f)
 | [],_=>rfl
 |k :: ks,h=>by
  simp only[jM,zq];rw[h k (q8 ..),K1 f fun g i=>h g (qJ _ i)]
theorem K2{pos:Int}(f:Nd->Nd):∀{ks:List Nd} {ps:List (cD×Int)},(∀ k,k∈ks->exam c s true k=exam c' s' true (f k))->yf c s pos ps ks=yf c' s' pos ps (ks.map f)
 | [],ps,_=>by cases ps<;>rfl
 |k :: ks,[],_=>rfl
 |k :: ks,p :: ps,h=>by
  simp only[jM,yf];rw[h k (q8 ..),K2 f (ps:=ps) fun g i=>h g (qJ _ i)]
theorem K3{ks:List Nd}(h:∀ k,k∈ks->exam c s inn k=exam c' s' inn k):zq c s inn ks=zq c' s' inn ks:=by
 have:=K1 (c:=c) (c':=c') (s:=s) (s':=s') (inn:=inn) id (ks:=ks) h
 rwa[List.map_id]at this
theorem qcX{pos:Int}{ks:List Nd}{ps:List (cD×Int)}(h:∀ k,k∈ks->exam c s true k=exam c' s' true k):yf c s pos ps ks=yf c' s' pos ps ks:=by
 have:=K2 (c:=c) (c':=c') (s:=s) (s':=s') (pos:=pos) id (ks:=ks) (ps:=ps) h
 rwa[List.map_id]at this
def wf(ts:TS)(g:List (cD×Nd)):TS:=⟨ts.sS,ts.sA,ts.sT,g⟩
theorem qcY{C:Type}(g:C->C->Bool)(l:List C)(i:Nat):(repL g l)[i]?=(l[i]?).map fun x=>(l.take i).any fun y=>g x y:=by
 grind [X2,qq,je,vC]
theorem K4{C:Type}(g:C->C->Bool)(l:List C)(i:Nat):repB g l i=match l[i]? with|some x=>[(l.take i).any fun y=>g x y] | none=>[]:=by
 unfold repB;rw[List.take_add_one,qcY,List.drop_append];by_cases h:i<l.length
 .rw [qq h,List.length_take,vC,Nat.min_eq_left zOm,List.drop_of_length_le zSo]
  simp
 grind
end
end PA
namespace YZ
open Y1
mutual
def depN:Nd->Int
 | .mk _ _ _ ks _=>jH ks+1
def jH:List Nd->Int
 | []=>0
 |k :: ks=>max (depN k) (jH ks)
end
theorem Yv(n:Nd):depN n=jH n.sM+1:=by
 obtain⟨op,g,i,ks,p⟩:=n;simp[depN,Nd.sM]
mutual
def preN:Nd->List Nd
 | .mk op g n ks p => .mk op g n ks p :: v9 ks
def v9:List Nd->List Nd
 | []=>[]
 |k :: ks=>preN k++v9 ks
end
theorem Uj(n:Nd):preN n=n :: v9 n.sM:=by
 obtain⟨op,g,i,ks,p⟩:=n;simp[preN,Nd.sM]
end YZ
namespace YA
end YA
namespace YB
end YB
namespace YC
open Y1 YZ
theorem qcZ{ks:List Nd}{k x:Nd}(g:k∈ks)(i:x∈preN k):x∈v9 ks:=by
 induction ks with
 |nil=>simp at g
 |cons a l j =>
  simp only[v9,qR];rcases qp.1 g with rfl|g
  .exact .inl i
  grind
theorem qc0{n k x:Nd}(g:k∈n.sM)(i:x∈preN k):x∈preN n:=by
 grind [Uj,qJ,qcZ]
theorem qc1(n:Nd):n∈preN n:=by rw[Uj];exact q8 ..
end YC
namespace YD
end YD
namespace YE
open Y1
mutual
def cntT:Nd->Int
 | .mk _ _ _ ks _=>1+jq ks
def jq:List Nd->Int
 | []=>0
 |k :: ks=>cntT k+jq ks
end
mutual
theorem K5:∀ n:Nd,1<=cntT n
 | .mk _ _ _ ks _=>by simp only[cntT];have:=Uk ks;omega
theorem Uk:∀ ks:List Nd,0<=jq ks
 | []=>by simp[jq]
 |k :: ks=>by simp only[jq];have:=K5 k;have:=Uk ks;omega
end
end YE
namespace YG
end YG
namespace YH
end YH
end Go.Proofs.YthkdjhkmlmjkbaaGreatDoor
namespace Go.EvW
open Go Go.Ev Go.RowKit Go.ChangeShapes Go.WideShapes
section
variable {C H:Type}{c:C->List AV}{fs:List (j1×Nat)}{cs:List j3}{N:Nat}{P:qf}{e t:j1}{w:j2}
def CR(w:j2)(xs:List AV)(cs:List j3):Prop:=
 cs.length=xs.length/\∀(k:Nat) x,xs[k]?=some x->VRel ⟨(·<w.heap.size),[]⟩ w.heap x (cs.getD k vd)
theorem CR.nil(w:j2):CR w [] []:=⟨rfl,zSp⟩
theorem CR.one{x:AV}{v:j3}(h:VRel ⟨(·<w.heap.size),[]⟩ w.heap x v):CR w [x] [v]:=⟨rfl,fun k y g=>by
 grind⟩
theorem CR.app{xs ys:List AV}{ds:List j3}(h:CR w xs cs)(k:CR w ys ds):CR w (xs++ys) (cs++ds):=by
 refine⟨by simp[h.1,k.1],fun i x g=>?_⟩;by_cases j:i<xs.length
 .rw [qT j]at g
  have:=h.2 i x g;rw[qS]at this⊢;rw[qT (by rw[h.1];exact j)];exact this
 .rw [zo zOm]at g
  have:=k.2 _ x g;rw[qS]at this⊢;rw[zo (by rw[h.1];omega),h.1];exact this
def yr(P:qf)(t:j1)(d:DataW H):Prop:=(d.weights P t).all (·<=reachBytes)=true
theorem yr.all:∀{ds:List (DataW H)},(DataW.weightsAll P e ds).all (·<=reachBytes)=true->∀(i:Nat) d,ds[i]?=some d->yr P e d
 | [],_,i,d,g=>by simp at g
 |x :: r,h,i,d,g=>by
  simp only[DataW.weightsAll,List.all_append,qi]at h;cases i with
  |zero=>simp at g;subst g;exact h.1
  |succ i=>exact yr.all h.2 i d (zUs g)
theorem aY:∀{ts:List j1} {ds:List (DataW H)},(DataW.weightsEach P ts ds).all (·<=reachBytes)=true->∀(i:Nat) t d,ts[i]?=some t->ds[i]?=some d->yr P t d
 | [],ds,_,i,t,d,g,_=>by simp at g
 |t0 :: ts,[],_,i,t,d,_,j=>by simp at j
 |t0 :: ts,x :: r,h,i,t,d,g,j=>by
  simp only[DataW.weightsEach,List.all_append,qi]at h;cases i with
  |zero=>simp at g j;subst g;subst j;exact h.1
  |succ i=>exact aY h.2 i t d (zUs g) (zUs j)
def ShT(P:qf)(n:Nat)(t:j1){C:Type}(c:C->List AV)(ok:C->Prop):Prop:=
 ∀(H:Type) (g:j1×j3->H) (w:j2) (i:List j3) (x:DataW H×List MemPlace),
  DataW.trod g P w 0 (fun _=>true) true n t i=some x->yr P t x.1->∃ a,ok a/\CR w (c a) i
def ShU(P:qf)(N:Nat)(t:j1){C:Type}(c:C->List AV)(ok:C->Prop):Prop:=∀ n,n<N->ShT P n t c ok
theorem ShU.le{M:Nat}{ok:C->Prop}(h:ShU P N t c ok)(g:M<=N):ShU P M t c ok:=fun n i=>h n zOm
theorem ShU.map{i:Type}{ok:C->Prop}{c':i->List AV}{g:i->Prop}(h:ShU P N t c ok)(f:C->i)(I:∀ a,c' (f a)=c a)(J:∀ a,ok a->g (f a)):ShU P N t c' g:=by
 intro n l H j w o x p r;obtain⟨a,R,T⟩:=h n l H j w o x p r
 grind
theorem ShU.int{k:IntKind}(g:P.underlying t=some (.int k))(N:Nat):ShU P N t (fun n:Int=>[.sc (.int k n)]) (fun n=>(Lit.int k n).wf=true):=by
 intro n o H j w p x h _;obtain⟨i,rfl,_,l⟩:=DataW.trod_int g h;exact⟨i,l,.one (.sc _ rfl)⟩
theorem ShU.bool(g:P.underlying t=some .bool)(N:Nat):ShU P N t (fun b:Bool=>[.sc (.bool b)]) (fun _=>True):=by
 intro n l H j w o x h _;obtain⟨i,rfl,_⟩:=DataW.trod_bool g h;exact⟨i,trivial,.one (.sc _ rfl)⟩
theorem ShU.string(j:P.underlying t=some .string)(N:Nat):ShU P N t (fun s:cD=>[.sc (.string s)]) (fun s=>s.size<=140737488351232):=by
 intro n p H l w r x h g;obtain⟨i,rfl,rfl,C⟩:=DataW.trod_string j h;refine⟨i,?_,.one (.sc _ rfl)⟩;unfold yr at g;simp only[DataW.weights,List.all_cons,List.all_nil,Bool.and_true,decide_eq_true_eq]at g;have e:i.data.toList.length=i.size:=Array.length_toList;have o:i.size<=reachBytes:=by rw[<-e];exact g
 exact zu o (zG rfl)
theorem K6{a:Addr}{n:Nat}(h:w.cells? 0 a n=some cs):cs.length=n/\∀ i,i<n->w.cell? (a.add i)=some (cs.getD i vd):=by
 unfold World.cells? at h;rw[if_pos (Zq _)]at h;have g:=mapM_some_length h;refine⟨zUs g,fun i j=>?_⟩;have:=mapM_some_get h i i (zP1 j)
 grind
theorem K7{a:Addr}{v:j3}(h:w.cell? a=some v):∃ arr e g,w.heap[a.block]?=some (.cells arr e g)/\a.spot=none/\arr[a.off]?=some v:=by
 unfold World.cell? at h;split at h
 .simp_all
 .cases h
theorem qc2 [Inhabited C] {p:Nat->C->Prop} (n:Nat) (h:∀ i,i<n->∃ a,p i a):∃ l:List C,l.length=n/\∀(i:Nat) a,l[i]?=some a->p i a:=by
 induction n with
 |zero=>simp
 |succ n g =>
  obtain⟨l,j,o⟩:=g (fun i r=>h i zOm);obtain⟨a,t⟩:=h n zOm;refine⟨l++[a],zP1 j,fun i b I=>?_⟩
  grind
theorem ShU.slice [Inhabited C] {c:C->List AV} {ok:C->Prop} (ht:P.underlying t=some (.slice e)) (he:ShU P N e c ok) (ak:∀ a,ok a->(c a).length=P.cellsOf e) (p:0<P.cellsOf e) (a5:Nat.blt 0 (P.bytesOf e)=true) :
  ShU P (N+1) t (fun l:List C=>[.lst false (l.map c)]) (fun l=>l.length<=140737488351232/\∀ a,a∈l->ok a):=by
 intro n hn H a6 w cs x h hw;rcases DataW.trod_slice ht h with ⟨rfl,_⟩|⟨a,len,cap,g,I,m,rfl,rfl,rfl,_,hl,hc,al,T,_,_⟩
 .exact ⟨[],⟨zSp,zSp⟩,.one (.nil _)⟩
 .have a7:(DataW.weightsAll P e (g.map (·.1))).all (·<=reachBytes)=true:=by
   simp_all[yr,DataW.weights,List.all_cons,List.all_append,qi]
  have an:len<=140737488351232:=by
   unfold yr at hw;simp only[DataW.weights,ht,List.all_cons,List.all_append,qi,decide_eq_true_eq]at hw;have J:=hw.1;have a8:1<=P.bytesOf e:=zG a5;have h2:((g.map (·.1)).length+(I.map (·.1)).length)*1<=((g.map (·.1)).length+(I.map (·.1)).length)*P.bytesOf e:=Nat.mul_le_mul_left _ a8;simp only[yP]at J h2;have h3:reachBytes<=140737488351232:=zG rfl;omega
  have key:∀ i,i<len->∃ b,ok b/\∃ o,w.cells? 0 (a.add (i*P.cellsOf e)) (P.cellsOf e)=some o/\CR w (c b) o:=by
   intro i hi;have J:=T i hi;have U:i<g.length:=zOm;rw[qq U]at J;obtain⟨o,h2,h3⟩:=Option.bind_eq_some_iff.1 J;obtain⟨b,h4,h5⟩:=he m zOm H a6 w o _ h3 (yr.all a7 i _ (by rw[qZ,qq U];rfl))
   grind
  obtain⟨l,a9,a0⟩:=qc2 len key;refine⟨l,⟨zOm,fun b hb=>?_⟩,.one ?_⟩
  .grind [List.mem_iff_getElem?]
  .have aa:(l.map c).length=len:=by simp[a9]
   rw[<-aa];cases Nat.eq_zero_or_pos len with
   |inl h0 =>
    have:l=[]:=jt zOm;subst this;exact .emp _ a cap zSp
   |inr hp =>
    have ab:0<l.length:=zOm;obtain⟨_,ao,J,_⟩:=a0 0 l[0] (qq ab);obtain⟨ad,R⟩:=K6 J;have ae:=R 0 p;obtain⟨arr,el,fr,hb,hs,_⟩:=K7 ae;have ai:∀ k:Nat,a.spot=none->(a.add k).spot=none/\(a.add k).off=a.off+k:=by
     grind [Addr.add]
    have a1:∀(b:Addr) (j:Nat),(b.add j).block=b.block:=by
     grind [Addr.add]
    have e0:((a.add (0*P.cellsOf e)).add 0).block=a.block/\((a.add (0*P.cellsOf e)).add 0).spot=a.spot:=by
     grind [Addr.add]
    rw[e0.1]at hb;rw[e0.2]at hs;have hz:ya (P.cellsOf e) (l.map c):=fun r hr=>by
     obtain⟨b,aq,rfl⟩:=qs.1 hr
     grind [List.mem_iff_getElem?]
    have ar:=z2 hz;refine .lst false (l.map c) (P.cellsOf e) a cap arr el fr (fun k=>arr.getD (a.off+k) vd) hb hs zOm zSp (zw.1 hb).1 hz ?_ ?_
    all_goals
     intro k x hk;have au:k<(l.map c).length*P.cellsOf e:=by grind
     have hq:k / P.cellsOf e<l.length:=by
      simp_all[yP,Nat.div_lt_of_lt_mul,Nat.mul_comm]
     have hr:k % P.cellsOf e<P.cellsOf e:=Nat.mod_lt _ p;have av:k / P.cellsOf e*P.cellsOf e+k % P.cellsOf e=k:=by
      grind [Nat.div_add_mod,Nat.mul_comm]
     obtain⟨_,o,J,h2⟩:=a0 (k / P.cellsOf e) _ (qq hq);obtain⟨ad,R⟩:=K6 J;have af:=R _ hr;have a2:(l.map c)[k / P.cellsOf e]?=some (c l[k / P.cellsOf e]):=by rw[qZ,qq hq];rfl
     have hx:(c l[k / P.cellsOf e])[k % P.cellsOf e]?=some x:=by
      have ag:k % P.cellsOf e<(c l[k / P.cellsOf e]).length:=by grind
      have:=Jj hz a2 (qq ag)
      grind
     obtain⟨aj,aw,ax,a3,ay,a4⟩:=K7 af;have e1:((a.add (k / P.cellsOf e*P.cellsOf e)).add (k % P.cellsOf e)).block=a.block:=by rw[a1,a1]
     have e2:((a.add (k / P.cellsOf e*P.cellsOf e)).add (k % P.cellsOf e)).off=a.off+k:=by
      grind [Addr.add]
     rw[e1,hb]at a3;cases a3;rw[e2]at a4;have ah:arr.getD (a.off+k) vd=o.getD (k % P.cellsOf e) vd:=by
      rw[qB,a4];rfl
    .grind
    .show VRel _ _ x (arr.getD (a.off+k) vd)
     rw[ah];exact h2.2 _ x hx
def Yw(P:qf)(t:j1):Option (List (j1×Nat)):=match P.underlying t with|some (.struct g)=>some (g.toList.map fun f=>(f.type,f.offset))|_=>none
inductive ShF (P:qf) (N:Nat):Nat->List (j1×Nat)->{α:Type}->(α->List AV)->(α->Prop)->Prop where
 |nil (o:Nat):ShF P N o [] (fun _:Unit=>[]) (fun _=>True)
 |cons {o:Nat} {t:j1} {fs:List (j1×Nat)} {α β:Type} {c:α->List AV} {ok:α->Prop} {c':β->List AV} {ok':β->Prop} (h:ShU P N t c ok) (k:ShF P N (o+P.cellsOf t) fs c' ok') :
   ShF P N o ((t,o) :: fs) (fun x:α×β=>c x.1++c' x.2) (fun x=>ok x.1/\ok' x.2)
def Zb(P:qf)(fs:List (j1×Nat)):Nat:=(fs.map fun f=>P.cellsOf f.1).foldr (·+·) 0
theorem ShF.read{n o:Nat}{ok:C->Prop}(h:ShF P N o fs c ok)(I:n<N){H:Type}{enc:j1×j3->H}{w:j2}(cs:List j3)
  (p:cs.length=o+Zb P fs) (r:∀(i:Nat) f,fs[i]?=some f->∃ x,DataW.trod enc P w 0 (fun _=>true) true n f.1 ((cs.drop f.2).take (P.cellsOf f.1))=some x/\yr P f.1 x.1) :
  ∃ a,ok a/\CR w (c a) (cs.drop o):=by
 induction h with
 |nil o =>
  refine⟨(),trivial,?_⟩;rw[List.drop_of_length_le (by grind [Zb])];exact .nil w
 | @cons o t fs C β c ok c' J h k R =>
  obtain⟨x,j,l⟩:=r 0 _ rfl;obtain⟨a,T,U⟩:=h n I H enc w _ x j l;have a0:Zb P ((t,o) :: fs)=P.cellsOf t+Zb P fs:=rfl;obtain⟨b,hb,hs⟩:=R zOm (fun i g hg=>r (i+1) g hg);refine⟨(a,b),⟨T,hb⟩,?_⟩;have e:cs.drop o=(cs.drop o).take (P.cellsOf t)++cs.drop (o+P.cellsOf t):=by
   rw[<-List.drop_drop,uN]
  rw[e];exact U.app hs
theorem ShU.struct{ok:C->Prop}(j:Yw P t=some fs)(hf:ShF P N 0 fs c ok)(T:P.cellsOf t=Zb P fs):ShU P (N+1) t c ok:=by
 intro n hn H l w U x h hw;unfold Yw at j;split at j
 .rename_i gs hu
  simp only[qj]at j;subst j;obtain⟨J,m,rfl,rfl,hl,a0,hg⟩:=DataW.trod_struct hu h;have r:(DataW.weightsEach P (gs.toList.map (·.type)) (J.map (·.1))).all (·<=reachBytes)=true:=by
   grind [yr,DataW.weights]
  obtain⟨a,ha,hr⟩:=hf.read (n:=m) zOm (w:=w) (enc:=l) U zOm (fun i f I=>by
   simp only[qZ,zW]at I;obtain⟨g,o,rfl⟩:=I;have R:=hg i g (zUs o);have p:i<J.length:=by
    grind
   rw[qq p]at R;exact⟨_,R,aY r i _ _ (by rw[qZ,o];rfl) (by rw[qZ,qq p];rfl)⟩)
  grind
 .cases j
theorem aH{c:C->AV}{ok:C->Prop}(h:∀ N,ShU P N t (fun a=>[c a]) ok)(g:∀(w:j2) (r:Reach) (b:Nat) (v:j3),Value.okWide P w r b t v->v.cells=#[v])
  {H:Type} {enc:j1×j3->H} {w:j2} {r:Reach} {b:Nat} {v:j3} {d:DataW H} {ps:List MemPlace} (i:Value.okWide P w r b t v) (l:DataW.Trod enc P w 0 (fun _=>true) true t v d ps) (o:yr P t d) :
  ∃ a,ok a/\VRel ⟨(·<w.heap.size),[]⟩ w.heap (c a) v:=by
 obtain⟨n,p⟩:=l;obtain⟨a,I,j⟩:=h (n+1) n zOm H enc w _ _ p o;rw[g w r b v i]at j;have:=j.2 0 (c a) rfl
 grind
theorem aV{ok:C->Prop}{fs:Array Field}(h:∀ N,ShU P N t c ok)(j:P.underlying t=some (.struct fs))
  {H:Type} {enc:j1×j3->H} {w:j2} {r:Reach} {b:Nat} {v:j3} {d:DataW H} {ps:List MemPlace} (g:Value.okWide P w r b t v) (l:DataW.Trod enc P w 0 (fun _=>true) true t v d ps) (o:yr P t d) :
  ∃ a,ok a/\VRel ⟨(·<w.heap.size),[]⟩ w.heap (.agg (c a)) v:=by
 obtain⟨n,p⟩:=l;obtain⟨a,I,i⟩:=h (n+1) n zOm H enc w _ _ p o;unfold Value.okWide at g;rw[j]at g;obtain⟨R,rfl,_,_⟩:=g;refine⟨a,I,.agg _ _ (by simpa[Value.cells] using i.1) (fun k x J=>?_)⟩;have:=i.2 k x J
 grind [Value.cells,qB]
theorem qc3(g:P.underlying t=some (.slice e))(w:j2)(r:Reach)(b:Nat)(v:j3)(h:Value.okWide P w r b t v):v.cells=#[v]:=by
 unfold Value.okWide at h;rw[g]at h;simp only[Cell.okWide,g]at h;cases v<;>simp_all[Value.cells,Cell.ok]
end
end Go.EvW
namespace Go.EvW
open Go Go.Ev Go.RowKit Go.ChangeShapes Go.WideShapes
section
variable {C:Type}{c:C->List AV}{ts:List j1}{P:qf}{t:j1}{w:j2}
def jd(P:qf)(t:j1){C:Type}(c:C->AV)(ok:C->Prop):Prop:=
 ∀(H:Type) (g:j1×j3->H) (w:j2) (r:Reach) (b:Nat) (v:j3) (d:DataW H) (i:List MemPlace),Value.okWide P w r b t v->DataW.Trod g P w 0 (fun _=>true) true t v d i->yr P t d ->
  ∃ a,ok a/\VRel ⟨(·<w.heap.size),[]⟩ w.heap (c a) v
theorem jd.struct{ok:C->Prop}(g:(Yw P t).isSome=true)(h:∀ N,ShU P N t c ok):jd P t (fun a => .agg (c a)) ok:=by
 intro H i w r b v d I j l o;unfold Yw at g;split at g
 .rename_i J p;exact aV h p j l o
 grind
theorem jd.slice{e:j1}{c:C->AV}{ok:C->Prop}(g:P.underlying t=some (.slice e))(h:∀ N,ShU P N t (fun a=>[c a]) ok):jd P t c ok:=
 fun H i w r b v d p j l o=>aH h (qc3 g) j l o
inductive ArgF (P:qf):List j1->{α:Type}->(α->List AV)->(α->Prop)->Prop where
 |nil:ArgF P [] (fun _:Unit=>[]) (fun _=>True)
 |cons {t:j1} {ts:List j1} {α β:Type} {c:α->AV} {ok:α->Prop} {c':β->List AV} {ok':β->Prop} (h:jd P t c ok) (k:ArgF P ts c' ok'):ArgF P (t :: ts) (fun x:α×β=>c x.1 :: c' x.2) (fun x=>ok x.1/\ok' x.2)
theorem ArgF.read{ok:C->Prop}(h:ArgF P ts c ok){H:Type}{enc:j1×j3->H}{w:j2}{r:Reach}{b:Nat} :
  ∀{vs:List j3} {ds:List (DataW H)} {ps:List MemPlace},DataW.TrodAll enc P w 0 (fun _=>true) true ts vs ds ps->(∀(j:Nat) t v,ts[j]?=some t->vs[j]?=some v->Value.okWide P w r b t v)->(DataW.weightsEach P ts ds).all (·<=reachBytes)=true ->
  ∃ a,ok a/\ds.length=ts.length/\vs.length=(c a).length/\∀(k:Nat) x,(c a)[k]?=some x->VRel ⟨(·<w.heap.size),[]⟩ w.heap x (vs.getD k vd):=by
 induction h with
 |nil =>
  intro vs ds ps g _ _;obtain⟨rfl,rfl,rfl⟩:=trodAll_nil g;simp
 | @cons t ts C β c ok c' J h k R =>
  intro vs ds ps g I i;obtain⟨v,T,d,U,p,q,rfl,rfl,rfl,h1,h2⟩:=trodAll_cons g;simp only[DataW.weightsEach,List.all_append,qi]at i;obtain⟨a,ha,hr⟩:=h H enc w r b v d p (I 0 t v rfl rfl) h1 i.1;obtain⟨a',l,o,hl,hg⟩:=R h2 (fun j t v=>I (j+1) t v) i.2;refine⟨(a,a'),⟨ha,l⟩,zP1 o,zP1 hl,fun k x hx=>?_⟩
  grind
theorem Ul(j:laidOutB P=true){H:Type}{enc:j1×j3->H}{W l:j2}{sp:Nat->Bool}:∀{ts:List j1} {vs:List j3} {ds:List (DataW H)} {ps:List MemPlace},
  (∀ t,t∈ts->P.readableRec t=true/\t<P.types.size)->DataW.TrodAll enc P W 0 (fun _=>true) true ts vs ds ps->(∀ p∈ps,W.sameAt l p)->(∀ p∈ps,sp p.block=true)->DataW.TrodAll enc P l 0 sp true ts vs ds ps
 | [],vs,ds,ps,_,h,_,_=>by
  obtain⟨rfl,rfl,rfl⟩:=trodAll_nil h;exact trodAll_mk0
 |t :: ts,vs,ds,ps,o,h,r,C=>by
  obtain⟨v,I,d,J,p,q,rfl,rfl,rfl,g1,R⟩:=trodAll_cons h;have i:=o t zSp;exact trodAll_cons_mk (WideElems.Trod_stays j i.1 i.2 g1 (fun x g=>r x (zP1 g)) (fun x g=>C x (zP1 g)))
   (Ul j (fun t i=>o t (zP1 i)) R (fun x g=>r x (zP1 g)) (fun x g=>C x (zP1 g)))
theorem Um{f:us}{fn:Func}{s:ChangeSpec}{tb:j1}{ok:C->Prop}(hp:fn.params=ts.toArray)(hF:ArgF P ts c ok)(hv:s.vars=[])
  (T:∀(H:Type) (ds:List (DataW H)),ds.length=ts.length->s.fn H ds={ results:=[.lit (.bool true)],args:=ds }) (hr:fn.resultTypes=#[tb]) (U:P.underlying tb=some .bool)
  (hl:laidOutB P=true) (a7:(ts.all fun t=>P.readableRec t&&decide (t<P.types.size))=true) (hS:∀ a,ok a->qd P f (c a) (aB true))
  (H:Type) (I:j1×j3->H) (W:j2) (base:Nat) (args:Array j3) (ds gs:List (DataW H)) (g:List MemPlace)
  (i:∀(j:Nat) t v,fn.params[j]?=some t->args[j]?=some v->Value.okWide P W .any base t v) (hW:DataW.Whole I P fn.params.toList s.vars false W args.toList ds gs g) (a8:(DataW.weightsEach P fn.params.toList ds).all (·<=reachBytes)=true) (hT:vN (·<W.heap.size) W.heap) :
  Calls P f args W fun e W'=>∃ v,e = .returned v/\s.post I P fn false true false false W args v W':=by
 have a0:=hW;obtain⟨p,q,R,hV,J,a9,_⟩:=hW;rw[hv]at hV;obtain⟨hg,hq⟩:=trodVars_none hV;subst hg;subst hq;rw[zA]at J;subst J;rw[hp]at R i;obtain⟨a,ha,a1,a2,aa⟩:=hF.read (r := .any) (b:=base) R (fun j t v h1 h2=>i j t v (zUs h1) (zUs h2)) (by grind);have a3:∀ x,x∈g->x.block<W.heap.size:=fun x l=>R.lt x l
 obtain⟨_,o⟩:=hS a ha;refine(o (·<W.heap.size) W args (Sim.empty (fun _ h=>h) hT) ⟨zUs a2,fun k x hk=>?_⟩).mono fun e W' ⟨a6,v,he,_,_,hb,a4⟩=>?_
 .simp_all
 .have a5:v = .bool true:=by cases a4;rfl
  subst a5;refine⟨_,he,ds,[],g,[],g,[],a0,?_,?_,?_,World.keptBut_mono (fun x l=>⟨l,.inr (.inl l)⟩) (hb.frame (·∈g)),fun h=>by cases h⟩
  all_goals try rw[zA]
  all_goals try rw[T H ds a1]
  .rw [hr]
   exact trodAll_cons_mk (p':=[]) (shut_bool U true) trodAll_mk0
  .rw [hp]
   refine Ul hl (fun t ht=>?_) R (fun x l=>hb.same (a3 x l)) (fun x l=>by grind)
   grind
  .rw [hv];rfl
theorem ShF.cons'{N o o':Nat}{fs:List (j1×Nat)}{i:Type}{ok:C->Prop}{c':i->List AV}{g:i->Prop}(j:o+P.cellsOf t=o')(h:ShU P N t c ok)(k:ShF P N o' fs c' g) :
  ShF P N o ((t,o) :: fs) (fun x:C×i=>c x.1++c' x.2) (fun x=>ok x.1/\g x.2):=by
 subst j;exact .cons h k
theorem K8:∀{laid:List (String×DataW Unit)} {ps:List MemPlace},DataW.LaidVars P w laid ps->∀ x,x∈laid->∃ g t cs fuel p,P.globalNamed x.1=some g/\(P.globals[g]?).map (·.type)=some t/\w.var? P x.1=some cs/\DataW.trod (fun _=>()) P w 0 (fun _=>true) false fuel t cs.toList=some (x.2,p)
 | [],_,_,x,i=>by simp at i
 | (n,d) :: r,ps,h,x,i=>by
  obtain⟨g,t,cs,fuel,p,q,l,o,C,I,j,_⟩:=h;rcases qp.1 i with rfl|i
  .grind
  .exact K8 j x i
theorem qc4{e:j1}{n fuel:Nat}{k:IntKind}(T:P.underlying t=some (.array n e))(U:P.underlying e=some (.int k))(hc:P.cellsOf e=1)(r:P.cellsOf t=n){cs:List j3}{ns:List Int}{p:List MemPlace}
  (h:DataW.trod (fun _=>()) P w 0 (fun _=>true) false fuel t cs=some (.agg (ns.map fun i => .lit (.int k i)),p)):cs=ns.map fun i => .int k i:=by
 obtain⟨J,m,_,g,R,hn,j⟩:=DataW.trod_array T h;simp only[Prod.mk.injEq,DataW.agg.injEq]at g;have g:=g.1;have C:ns.length=n:=by have:=congrArg List.length g;simp at this;omega
 rw[r]at R;rw[hc]at j;apply List.ext_getElem
 .simp [R,C]
 .intro i h1 h2
  have I:=j i zOm;rw[Nat.mul_one]at I;have l:i<J.length:=zOm;rw[qq l]at I;obtain⟨z,e1,e2,_⟩:=DataW.trod_int U I;have h4:(J[i]).1=DataW.lit (.int k z):=by rw[e2]
  have o:(ns.map fun i=>(DataW.lit (.int k i):DataW Unit))[i]?=(J.map (·.1))[i]?:=by rw[g]
  rw[qZ,qZ,qq l,qq zOm]at o;simp only[qU,qj]at o;rw[h4]at o;simp only[DataW.lit.injEq,Lit.int.injEq,true_and]at o;have h6:(cs.drop i).take 1=[cs[i]]:=by rw[zH h1];rfl
  grind
theorem qc5{name:String}{g:Nat}{cs:Array j3}(j:P.globalNamed name=some g)(h:w.var? P name=some cs):∃ e i,w.heap[g]?=some (.cells cs e i):=by
 grind [World.var?]
end
end Go.EvW
namespace Go.Proofs.YthkdjhkmlmjkbaaGreatDoor
open Go Go.Ev Go.Proofs Tryz
namespace DT
open Go.EvW Y1 P1 YF
theorem unInt:qb.underlying 3=some (.int .i64):=by kernel_rfl
theorem Zc:qb.underlying 4=some .bool:=by kernel_rfl
theorem qc6:qb.underlying 9=some .string:=by kernel_rfl
theorem qc7:qb.underlying 28=some (.slice 3):=by kernel_rfl
theorem qc8:qb.underlying 22=some (.slice 118):=by kernel_rfl
theorem qc9:qb.underlying 23=some (.slice 93):=by kernel_rfl
theorem qdA:qb.underlying 33=some (.slice 35):=by kernel_rfl
theorem qdB:qb.underlying 133=some (.slice 167):=by kernel_rfl
theorem qdC:qb.underlying 24=some (.slice 135):=by kernel_rfl
theorem qdD:qb.underlying 25=some (.slice 137):=by kernel_rfl
abbrev okI(n:Int):Prop := -9223372036854775808<=n/\n<=9223372036854775807
abbrev okS(s:cD):Prop:=s.size<=140737488351232
instance:Inhabited Nd:=⟨.mk 0 ⟨#[]⟩ 0 [] 0⟩
instance:Inhabited Pd:=⟨⟨⟨#[]⟩,[],default⟩⟩
instance:Inhabited Fld:=⟨⟨⟨#[]⟩,[],false⟩⟩
theorem jr(N:Nat):ShU qb N 3 (fun n:Int=>[aI n]) okI:=
 (ShU.int unInt N).map (fun n=>n) (fun _=>rfl) (fun n h=>by
  grind [Lit.wf,IntKind.min,IntKind.max,IntKind.signed,IntKind.bits])
theorem K9(N:Nat):ShU qb N 4 (fun b:Bool=>[aB b]) (fun _=>True):=ShU.bool Zc N
theorem wG(N:Nat):ShU qb N 9 (fun s:cD=>[aS s]) okS:=ShU.string qc6 N
theorem Un(N:Nat):ShU qb N 28 (fun xs:List Int=>[lI xs]) (fun l=>l.length<=140737488351232/\∀ x,x∈l->okI x):=
 ((ShU.slice qc7 (jr N) (fun _ _=>zKr) (Nat.lt_of_lt_of_eq Nat.zero_lt_one zKr) zKr).le zOm).map (fun l=>l) (fun _=>rfl) fun _ h=>h
theorem qdE(N:Nat):ShU qb N 93 j6 (fun f=>f.sS.length<=140737488351232/\∀ x,x∈f.sS->okI x):=
 ((ShU.struct (fs:=[(9,0),(28,1),(4,2)]) zKr (.cons' (o':=1) zKr (wG N) (.cons' (o':=2) zKr (Un N) (.cons' (o':=3) zKr (K9 N) (.nil 3)))) zKr).map
  (fun x=>(⟨x.1,x.2.1,x.2.2.1⟩:Fld)) (fun _=>rfl) (fun x h=>h.2.1)).le zOm
theorem qdF(N:Nat):ShU qb N 118 u9 (fun s=>okS s.1):=
 ((ShU.struct (fs:=[(9,0),(4,1)]) zKr (.cons' (o':=1) zKr (wG N) (.cons' (o':=2) zKr (K9 N) (.nil 2))) zKr).map
  (fun x=>((x.1,x.2.1):cD×Bool)) (fun _=>rfl) (fun x h=>h.1)).le zOm
theorem Uo:∀ N:Nat,ShU qb N 35 cNd (fun _=>True)
 | 0=>fun n i=>absurd i zOm
 | N+1 =>
  have ks:ShU qb N 33 (fun l:List Nd=>[.lst false (l.map cNd)]) (fun _=>True):=((ShU.slice qdA (Uo N) (fun a _=>(Z5 a).trans zKr) (Nat.lt_of_lt_of_eq (show 0<5 by omega) zKr) zKr).le zOm).map (fun l=>l) (fun _=>rfl) fun _ _=>trivial
  ((ShU.struct (fs:=[(3,0),(9,1),(3,2),(33,3),(3,4)]) zKr
   (.cons' (o':=1) zKr (jr N) (.cons' (o':=2) zKr (wG N) (.cons' (o':=3) zKr (jr N) (.cons' (o':=4) zKr ks (.cons' (o':=5) zKr (jr N) (.nil 5)))))) zKr)).map
   (fun x=>Nd.mk x.1 x.2.1 x.2.2.1 x.2.2.2.1 x.2.2.2.2.1) (fun x=>by rw[vX];rfl) fun _ _=>trivial
theorem qdG(N:Nat):ShU qb N 167 cPm (fun p=>okI p.2):=
 ((ShU.struct (fs:=[(9,0),(3,1)]) zKr (.cons' (o':=1) zKr (wG N) (.cons' (o':=2) zKr (jr N) (.nil 2))) zKr).map
  (fun x=>((x.1,x.2.1):cD×Int)) (fun _=>rfl) (fun x h=>h.2.1)).le zOm
theorem qdH(N:Nat):ShU qb N 133 (fun l:List (cD×Int)=>[lPm l]) (fun l=>l.length<=140737488351232):=
 ((ShU.slice qdB (qdG N) (fun _ _=>zKr) (Nat.lt_of_lt_of_eq (show 0<2 by omega) zKr) zKr).le zOm).map (fun l=>l) (fun _=>rfl) fun _ h=>h.1
theorem qdI(N:Nat):ShU qb N 135 cPd (fun _=>True):=
 ((ShU.struct (fs:=[(9,0),(133,1),(35,2)]) zKr (.cons' (o':=1) zKr (wG N) (.cons' (o':=2) zKr (qdH N) (.cons' (o':=7) zKr (Uo N) (.nil 7)))) zKr).map
  (fun x=>(⟨x.1,x.2.1,x.2.2.1⟩:Pd)) (fun x=>by simp[cPd]) fun _ _=>trivial).le zOm
theorem qdJ(N:Nat):ShU qb N 137 cFa (fun _=>True):=
 ((ShU.struct (fs:=[(9,0),(35,1)]) zKr (.cons' (o':=1) zKr (wG N) (.cons' (o':=6) zKr (Uo N) (.nil 6))) zKr).map
  (fun x=>((x.1,x.2.1):cD×Nd)) (fun x=>by simp[cFa]) fun _ _=>trivial).le zOm
structure okTA (ts:TS):Prop where
 so:∀ x,x∈ts.sS->okS x.1
 nso:ts.sS.length<=140737488351232
 nf:ts.sA.length<=140737488351232
 fl:∀ f,f∈ts.sA->f.sS.length<=140737488351232/\∀ x,x∈f.sS->okI x
theorem qdK(N:Nat):ShU qb N 27 cTS okTA:=by
 have s1:=(ShU.slice qc8 (qdF N) (fun _ _=>zKr) (Nat.lt_of_lt_of_eq (show 0<2 by omega) zKr) zKr).le (M:=N) zOm;have i:=(ShU.slice qc9 (qdE N) (fun _ _=>zKr) (Nat.lt_of_lt_of_eq (show 0<3 by omega) zKr) zKr).le (M:=N) zOm;have j:=(ShU.slice qdC (qdI N) (fun a h=>(Xr a).1.trans zKr) (Nat.lt_of_lt_of_eq (show 0<7 by omega) zKr) zKr).le (M:=N) zOm;have l:=(ShU.slice qdD (qdJ N) (fun a h=>(Xs a).1.trans zKr) (Nat.lt_of_lt_of_eq (show 0<6 by omega) zKr) zKr).le (M:=N) zOm;have st:=ShU.struct (t:=27) (fs:=[(22,0),(23,1),(24,2),(25,3)]) zKr (.cons' (o':=1) zKr s1 (.cons' (o':=2) zKr i (.cons' (o':=3) zKr j (.cons' (o':=4) zKr l (.nil 4))))) zKr;exact(st.map (fun x=>(⟨x.1,x.2.1,x.2.2.1,x.2.2.2.1⟩:TS)) (fun _=>rfl) fun x h=>⟨h.1.2,h.1.1,h.2.1.1,h.2.1.2⟩).le zOm
theorem Yx:jd qb 27 eTS okTA:=jd.struct zKr qdK
end DT
namespace QA
end QA
namespace QB
end QB
namespace QC
end QC
namespace QD
open YF P1 Y1 Y2
section
variable {nm:cD}{x:cD×Bool}{c:List AV}{i:Nat}
def atF(a:Int):List Int->Int
 | []=>a
 |x :: l=>atF (qx.wrap (qx.wrap (4*a)+x)) l
def zs:List AV:=zd 64 (aB false)
def oneC(l:List Int):List AV:=aI l.length :: (if 0<=atF 0 l/\atF 0 l<64 then zs.set (atF 0 l).toNat (aB true) else zs)
structure SetC (c:List AV):Prop where
 len:c.length=65
 sc:∀ x,x∈c->x.one=true/\HF x
theorem SetC.one(h:SetC c):∀ x,x∈c->x.one=true:=fun x g=>(h.sc x g).1
theorem SetC.hf(h:SetC c):HF (.agg c):=HF.agg fun x g=>(h.sc x g).2
theorem SetC.take(h:SetC c):List.take 65 c=c:=zi (by rw[h.len];omega)
theorem SetC.put{d:List AV}(h:SetC c)(g:SetC d):qH c 0 d=d:=by
 rw[y0 _ _ _ (by rw[h.len,g.len];omega)];simp[h.len,g.len,List.drop_of_length_le]
theorem SetC.zero:SetC (aI 0 :: zs):=⟨rfl,fun x g=>by
 rcases qp.1 g with rfl|g
 .exact ⟨rfl,HF.sc _⟩
 .rw [List.eq_of_mem_replicate g];exact⟨rfl,HF.sc _⟩⟩
theorem SetC.oneC(l:List Int):SetC (oneC l):=by
 have i:∀ x:AV,x∈zs->x.one=true/\HF x:=fun x g=>by rw[List.eq_of_mem_replicate g];exact⟨rfl,HF.sc _⟩
 unfold QD.oneC;split
 .refine ⟨by simp[zs],fun x g=>?_⟩
  rcases qp.1 g with rfl|g
  .exact ⟨rfl,HF.sc _⟩
  .rcases List.mem_or_eq_of_mem_set g with h|rfl
   .exact i x h
   .exact ⟨rfl,HF.sc _⟩
 .refine ⟨by simp[zs],fun x g=>?_⟩
  rcases qp.1 g with rfl|g
  .exact ⟨rfl,HF.sc _⟩
  .exact i x g
theorem oneU(l:List Int)(hl:l.length<=140737488351232):qd qb 144 [lI l] (.agg (oneC l)):=by
 have g:=SetC.oneC l;generalize C:oneC l=R at *
 unfold oneC at C;refine qSU call144 func144 rfl ?_;have i:zs.length=64:=rfl;refine fZ l.length (fun k st=>∃ a:Int,st.tm 0=lI l/\st.tm 2 = .ptr 0 0/\st.tm 3 = .ptr 1 0/\st.tm 4=aI a/\st.tm 5=aI k/\st.mu=[.arr (aI 0 :: zs),.arr (aI l.length :: zs)]/\atF a (l.drop k)=atF 0 l) ?_ ?_
 .exact ⟨0,zSi,zSi,zSi,zSi,zSi,by simp[go_sem,zs,zd],rfl⟩
 rintro k st hk ⟨a,I,r,U,e4,e5,hm,hI⟩;by_cases J:k<l.length
 .have w1:=zWk k
  rw[zH J]at hI;simp[go_sem,I,e4,e5,hm,J,w1];exact aK ⟨_,zS1 I,zS1 r,zS1 U,zSi,zSi,zSi,hI⟩
 have a0:k=l.length:=zOm;subst a0;rw[yQ]at hI;have ha:a=atF 0 l:=hI;rw[<-ha]at C;have z1:∀ x:AV,(x :: zs).length=65:=fun x=>rfl
 have o:∀ x:AV,x∈zs->x.one=true:=fun x hx=>by rw[List.eq_of_mem_replicate hx];rfl
 have tk:List.take 64 zs=zs:=rfl;have pc:∀(x y:AV) (Z:List AV),Z.length=64->qH (x :: zs) 0 (y :: Z)=y :: Z:=fun x y Z hZ=>by
  grind [y0,List.drop_of_length_le]
 by_cases h0:0<=a
 .obtain ⟨j,rfl⟩:∃ j:Nat,a=j:=⟨a.toNat,zOm⟩
  by_cases t:(j:Int)<64
  .have hj:1+j<=64:=by omega
   have a1:∀ x:AV,(x :: zs).set (1+j) (AV.sc (Value.bool true))=x :: zs.set j (AV.sc (Value.bool true)):=fun x=>by rw[Nat.add_comm];rfl
   have sl:(zs.set j (AV.sc (Value.bool true))).length=64:=zP1 i;have P:∀ x:AV,x∈zs.set j (AV.sc (Value.bool true))->x.one=true:=fun x hx=>by
    rcases List.mem_or_eq_of_mem_set hx with h|rfl
    .exact o x h
    .rfl
   have T:List.take 64 (zs.set j (AV.sc (Value.bool true)))=zs.set j (AV.sc (Value.bool true)):=zi zOm;have p:R=aI l.length :: zs.set j (AV.sc (Value.bool true)):=by rw[<-C,if_pos ⟨h0,t⟩];rfl
   generalize zs.set j (AV.sc (Value.bool true))=Z at *
   simp[go_sem,I,r,U,e4,e5,hm,h0,t,i,hj,a1,sl,T,pc _ _ _ sl];rw[if_pos P];simp[go_sem,r,sl,T];rw[p]at g⊢;exact .hf _ g.hf
  .simp [go_sem,I,r,U,e4,e5,hm,h0,t,i,tk,pc _ _ _ i]
   rw[if_pos o];simp[go_sem,r,i,tk];have p:R=aI l.length :: zs:=by rw[<-C,zIn]
   rw[p]at g⊢;exact .hf _ g.hf
 .simp [go_sem,I,r,U,e4,e5,hm,h0,i,tk,pc _ _ _ i]
  rw[if_pos o];simp[go_sem,r,i,tk];have p:R=aI l.length :: zs:=by rw[<-C,zIn]
  rw[p]at g⊢;exact .hf _ g.hf
abbrev NS:=List AV×Nat
variable {s:NS}
def stF(nm:cD)(f:Fld)(s:NS):NS:=if f.name=nm then (oneC f.sS,s.2+1) else s
def nmF(nm:cD):List Fld->NS->NS
 | [],s=>s
 |f :: l,s=>nmF nm l (stF nm f s)
def st1(nm:cD)(i:Nat)(x:cD×Bool)(s:NS):NS:=if x.1=nm then (oneC [(i:Int)],s.2+1) else s
def st2(nm:cD)(i:Nat)(x:cD×Bool)(s:NS):NS:=if x.2=true/\x.1++Qs=nm then (oneC [(i:Int)],s.2+1) else s
def st3(nm:cD)(i:Nat)(x:cD×Bool)(s:NS):NS:=if x.2=true/\x.1++Qt=nm then (oneC [(i:Int),(i:Int)],s.2+1) else s
def nmS(nm:cD):Nat->List (cD×Bool)->NS->NS
 |_,[],s=>s
 |i,x :: l,s=>nmS nm (i+1) l (st3 nm i x (st2 nm i x (st1 nm i x s)))
def named(ts:TS)(nm:cD):NS:=nmS nm 0 ts.sS (nmF nm ts.sA (aI 0 :: zs,0))
theorem qdL{f:Fld}(h:SetC s.1):SetC (stF nm f s).1:=by
 grind [stF,SetC.oneC]
theorem ka(h:SetC s.1):SetC (st1 nm i x s).1:=by
 grind [st1,SetC.oneC]
theorem kb(h:SetC s.1):SetC (st2 nm i x s).1:=by
 grind [st2,SetC.oneC]
theorem kc(h:SetC s.1):SetC (st3 nm i x s).1:=by
 grind [st3,SetC.oneC]
theorem st_le:(st3 nm i x (st2 nm i x (st1 nm i x s))).2<=s.2+3:=by
 have g:(st1 nm i x s).2<=s.2+1:=by grind [st1]
 have j:∀ s:NS,(st2 nm i x s).2<=s.2+1:=fun s=>by grind [st2]
 have l:∀ s:NS,(st3 nm i x s).2<=s.2+1:=fun s=>by grind [st3]
 grind
theorem kf(nm:cD):∀(l:List Fld) (s:NS),SetC s.1->SetC (nmF nm l s).1
 | [],_,h=>h
 |f :: l,s,h=>kf nm l _ (qdL h)
theorem kg(nm:cD):∀(l:List (cD×Bool)) (i:Nat) (s:NS),SetC s.1->SetC (nmS nm i l s).1
 | [],_,_,h=>h
 |x :: l,i,s,h=>kg nm l _ _ (kc (kb (ka h)))
theorem qdM(ts:TS)(nm:cD):SetC (named ts nm).1:=kg nm _ _ _ (kf nm _ _ SetC.zero)
theorem wk1(i:Int):WK (.lst true [rI i]) (lI [i]):=WK.lst fun r g c j=>by
 grind [qV,HF.sc]
theorem wk2(i j:Int):WK (.lst true [rI i,rI j]) (lI [i,j]):=WK.lst fun r g c l=>by
 rcases qp.1 g with rfl|g
 .grind [qV,HF.sc]
 grind [qV,HF.sc]
structure okNm (ts:TS):Prop where
 so:∀ x,x∈ts.sS->x.1.size<=4611686018427387904
 nso:ts.sS.length<=140737488351232
 nf:ts.sA.length<=140737488351232
 fl:∀ f,f∈ts.sA->f.sS.length<=140737488351232
theorem qdN(ts:TS)(ha:okNm ts)(nm:cD):qd qb 147 [eTS ts,aS nm] (.tup [.agg (named ts nm).1,aI (named ts nm).2]):=by
  generalize hR:named ts nm=R;unfold named at hR;refine qSV call147 func147 rfl ?_;have ar:=ha.nf;have au:zs.length=64:=rfl;have av:=ha.nso;simp[go_sem];refine fZ ts.sA.length (fun i st=>∃ s:NS,st.tm 1=aS nm/\st.tm 2 = .ip (cTS ts)/\st.tm 4 = .ptr 0 0/\st.tm 6 = .ptr 1 0/\st.tm 7=aI s.2/\st.tm 8=aI i/\st.mu=[.arr (aI 0 :: zs),.arr s.1]/\SetC s.1/\s.2<=i/\nmS nm 0 ts.sS (nmF nm (ts.sA.drop i) s)=R) ?_ ?_
  · exact⟨(aI 0 :: zs,0),zSi,zSi,zSi,zSi,zSi,zSi,by simp[go_sem,zs,zd],SetC.zero,zSp,zUs hR⟩
  clear hR;rintro i st hi ⟨⟨c,k⟩,J,t,e4,P,T,e8,U,j,hk,r⟩;have hk:k<=i:=hk;have j:SetC c:=j;by_cases g:i<ts.sA.length
  · have w1:=zWk i
    have w2:=zWk k;rw[zH g]at r;have ho:=oneU ts.sA[i].sS (ha.fl _ (qo g));have C:=SetC.oneC ts.sA[i].sS;by_cases hq:ts.sA[i].name=nm
    · simp[go_sem,J,t,e8,U,g,hq]
      refine cA ho (.zk (qM _) .nil) ?_;simp[go_sem,P,C.len,j.len,j.put C];rw[if_pos C.one];simp[go_sem,T,e8,g,w1,w2];exact aK ⟨(oneC ts.sA[i].sS,k+1),zS1 J,zS1 t,zS1 e4,zS1 P,zSi,zSi,zSi,C,zOm,by grind [nmF,stF]⟩
    · simp[go_sem,J,t,e8,U,g,j7 hq,w1]
      exact aK ⟨(c,k),zS1 J,zS1 t,zS1 e4,zS1 P,zS1 T,zSi,zSi,j,zOm,by grind [nmF,stF]⟩
  have a0:i=ts.sA.length:=zOm;subst a0;rw[yQ]at r;simp only[nmF]at r;simp[go_sem,t,e8,U];refine fZ ts.sS.length (fun i st=>∃ s:NS,st.tm 1=aS nm/\st.tm 2 = .ip (cTS ts)/\st.tm 4 = .ptr 0 0/\st.tm 6 = .ptr 1 0/\st.tm 7=aI s.2/\st.tm 9=aI i/\st.mu=[.arr (aI 0 :: zs),.arr s.1]/\SetC s.1/\s.2<=ts.sA.length+3*i/\nmS nm i (ts.sS.drop i) s=R) ?_ ?_
  · simp[go_sem, *]
  clear J t e4 P T e8 U j hk r g;rintro i st hi ⟨⟨c,k⟩,J,t,e4,P,T,e9,U,j,hk,r⟩;have hk:k<=ts.sA.length+3*i:=hk;have j:SetC c:=j;by_cases g:i<ts.sS.length
  · have w1:=zWk i
    have w2:=zWk k;have w3:qx.wrap ((k:Int)+1+1)=(k:Int)+1+1:=zWr;have w4:qx.wrap ((k:Int)+1+1+1)=(k:Int)+1+1+1:=zWr;rw[zH g]at r;simp only[nmS]at r;have af:=oneU [(i:Int)] zSp;have ag:=oneU [(i:Int),(i:Int)] zSp;have p:=SetC.oneC [(i:Int)];have I:=SetC.oneC [(i:Int),(i:Int)];have ah:=j.put p;have ai:=j.put I;have aj:=p.put p;have ak:=p.put I;have l1:=p.len;have l2:=I.len;have l0:=j.len;have aw:=st_le (nm:=nm) (i:=i) (x:=ts.sS[i]) (s:=(c,k));have al:=kc (nm:=nm) (i:=i) (x:=ts.sS[i]) (kb (nm:=nm) (i:=i) (x:=ts.sS[i]) (ka (nm:=nm) (i:=i) (x:=ts.sS[i]) (s:=(c,k)) j));have a8:=ha.so _ (qo g);have a8:ts.sS[i].1.size<=4611686018427387904:=a8;generalize a9:ts.sS[i]=so at *
    obtain⟨o,sb⟩:=so;have aa:o.size<=9223372036854775801:=by grind
    have ab:o.size<=9223372036854775802:=zOm;generalize hN:st3 nm i (o,sb) (st2 nm i (o,sb) (st1 nm i (o,sb) (c,k)))=N at *
    have an:(o++Qs=nm)=(o++(⟨#[95,102,105,114,115,116]⟩:cD)=nm):=rfl;have ao:(o++Qt=nm)=(o++(⟨#[95,110,101,120,116]⟩:cD)=nm):=rfl;simp only[st1,st2,st3,an,ao]at hN;obtain⟨d1,aq⟩:∃ d,decide (o=nm)=d:=⟨_,rfl⟩;obtain⟨d2,ad⟩:∃ d,decide (o++(⟨#[95,102,105,114,115,116]⟩:cD)=nm)=d:=⟨_,rfl⟩;obtain⟨d3,ae⟩:∃ d,decide (o++(⟨#[95,110,101,120,116]⟩:cD)=nm)=d:=⟨_,rfl⟩;have p1:(o=nm)=(d1=true):=by grind
    have p2:(o++(⟨#[95,102,105,114,115,116]⟩:cD)=nm)=(d2=true):=by grind
    have p3:(o++(⟨#[95,110,101,120,116]⟩:cD)=nm)=(d3=true):=by grind
    simp only[p1,p2,p3]at hN;have done:∀ l:St,l.tm 1=aS nm->l.tm 2 = .ip (cTS ts)->l.tm 4 = .ptr 0 0->l.tm 6 = .ptr 1 0->l.tm 7=aI N.2->l.tm 9=aI (i+1:Nat)->l.mu=[.arr (aI 0 :: zs),.arr N.1] ->
        Keep (fun st=>∃ s:NS,st.tm 1=aS nm/\st.tm 2 = .ip (cTS ts)/\st.tm 4 = .ptr 0 0/\st.tm 6 = .ptr 1 0/\st.tm 7=aI s.2/\st.tm 9=aI (i+1:Nat)/\st.mu=[.arr (aI 0 :: zs),.arr s.1]/\SetC s.1/\s.2<=ts.sA.length+3*(i+1)/\nmS nm (i+1) (ts.sS.drop (i+1)) s=R) .mk l:=
      fun l a1 a2 a3 a4 a5 a6 a7=>aK ⟨N,a1,a2,a3,a4,a5,a6,a7,al,zOm,r⟩
    cases d1<;>cases d2<;>cases d3<;>cases sb
    all_goals simp only[if_true,if_false,and_false,and_true,reduceCtorEq]at hN
    all_goals simp[go_sem,Y10.XT,J,t,e9,U,g,a9,aq,ad,ae,w1,aa,ab]
    all_goals repeat' (first
      | (refine cA af (.cons (wk1 _) .nil) ?_
         simp[go_sem,P,ah,aj,l0,l1];rw[if_pos p.one];simp[go_sem,Y10.XT,J,t,T,e9,g,a9,ad,ae,w1,w2,w3,aa,ab])
      | (refine cA ag (.cons (wk2 _ _) .nil) ?_
         simp[go_sem,P,ai,ak,l0,l1,l2];rw[if_pos I.one];simp[go_sem,T,e9,g,w1,w2,w3,w4]))
    all_goals try subst hN
    all_goals simp_all[go_sem]
  have a0:i=ts.sS.length:=zOm;subst a0;rw[yQ]at r;simp only[nmS]at r;subst r;simp[go_sem,t,e4,P,T,e9,U,j.len,j.take,SetC.zero.put j,SetC.zero.len];rw[if_pos j.one];simp[go_sem,e4,j.len,j.take];refine .hf _ (HF.tup fun x hx=>?_);rcases qp.1 hx with rfl|hx
  · exact j.hf
  grind [qV,HF.sc]
end
end QD
namespace QE
open Y6 QD
abbrev RS:=Int×(Nat->Bool)
def hB(g:Nat->Bool):List AV:=(qm 64).map fun i=>aB (g i)
abbrev cRS(s:RS):List AV:=aI s.1 :: hB s.2
abbrev eRS(s:RS):AV := .agg (cRS s)
theorem qh(g:Nat->Bool):(hB g).length=64:=by simp[hB]
theorem kh(g:Nat->Bool)(i:Nat)(v:Bool):(hB g).set i (aB v)=hB fun j=>if j=i then v else g j:=by
 refine List.ext_getElem (by simp[hB]) fun j l o=>?_
 rw[List.getElem_set];simp only[hB,List.getElem_map,List.getElem_range];by_cases h:i=j
 .rw [if_pos h,if_pos h.symm]
 .rw [if_neg h,if_neg (fun e=>h e.symm)]
theorem qdO(g:Nat->Bool)(i:Nat)(h:i<64):(hB g)[i]?=some (aB (g i)):=by
 simp[hB,h]
theorem jI{g i:Nat->Bool}(h:∀ j,j<64->g j=i j):hB g=hB i:=by
 refine List.map_congr_left fun j l=>?_
 rw[h j (zY.1 l)]
theorem setC(s:RS):SetC (cRS s):=⟨by simp[hB],fun x g=>by
 rcases qp.1 g with rfl|g
 .exact ⟨rfl,HF.sc _⟩
 .obtain ⟨j,_,rfl⟩:=qs.1 g
  exact⟨rfl,HF.sc _⟩⟩
theorem zz(s:RS):HF (eRS s):=(setC s).hf
theorem ki:hB (fun _=>false)=zs:=rfl
def oneS(l:List Int):RS:=(l.length,fun j=>decide ((j:Int)=atF 0 l))
theorem Up(l:List Int):oneC l=cRS (oneS l):=by
 unfold oneC oneS;simp only[cRS];split
 .rename_i h
  have e:aB true=aB true:=rfl;rw[<-ki,kh];congr 1;refine jI fun j i=>?_
  by_cases g:j=(atF 0 l).toNat
  .rw [if_pos g];exact(decide_eq_true zOm).symm
  .rw [if_neg g];exact(decide_eq_false zOm).symm
 .rename_i h
  rw[<-ki];congr 1;refine jI fun j i=>?_
  exact(decide_eq_false zOm).symm
def szA(k:Int):Nat:=if k<1 then 1 else if k=1 then 4 else if k=2 then 16 else 64
theorem Zd(k:Int):szA k<=64/\1<=szA k:=by unfold szA;split<;>(try split)<;>(try split)<;>omega
theorem Yy(k:Int):qd qb 182 [aI k] (aI (szA k)):=by
 refine qSV call182 func182 rfl ?_;unfold szA;by_cases g:k<1
 .simp [go_sem,g];exact .zsc _
 by_cases i:k=1
 .simp [go_sem,i];exact .zsc _
 by_cases j:k=2
 .simp [go_sem,j];exact .zsc _
 simp[go_sem,g,i,j];exact .zsc _
def uniS(a b:RS):RS:=(a.1,fun j=>a.2 j||b.2 j)
def intS(a b:RS):RS:=(a.1,fun j=>a.2 j&&b.2 j)
theorem g1(x:AV)(g:Nat->Bool)(i:Nat)(h:i<64):(x :: hB g)[1+i]?=some (aB (g i)):=by
 rw[Nat.add_comm,vh,qdO g i h]
theorem d1(x:AV)(g:Nat->Bool)(i:Nat)(h:i<64):List.take 1 (List.drop (1+i) (x :: hB g))=[aB (g i)]:=by
 rw[Nat.add_comm,List.drop_succ_cons,zH (by rw[qh];exact h)];simp[hB]
theorem d0(g:Nat->Bool)(i:Nat)(h:i<64):List.take 1 (List.drop i (hB g))=[aB (g i)]:=by
 rw[zH (by rw[qh];exact h)];simp[hB]
theorem s1(x:AV)(g:Nat->Bool)(i:Nat)(v:Bool):(x :: hB g).set (1+i) (aB v)=x :: hB fun j=>if j=i then v else g j:=by
 rw[Nat.add_comm,List.set_cons_succ,kh]
theorem qC(g:Nat->Bool):∀ x:AV,x∈hB g->x.one=true:=fun x i=>by
 obtain⟨j,_,rfl⟩:=qs.1 i;rfl
theorem tk(g:Nat->Bool):List.take 64 (hB g)=hB g:=zi (by rw[qh];exact qr _)
theorem pc(x y:AV)(g i:Nat->Bool):qH (x :: hB g) 0 (y :: hB i)=y :: hB i:=by
 rw[y0 _ _ _ (by simp[qh])];simp[qh,List.drop_of_length_le]
theorem vG(a b:RS):qd qb 162 [eRS a,eRS b] (eRS (uniS a b)):=by
 refine qSQ call162 func162 rfl { mt:=[2] } ?_;simp[go_sem];refine⟨qC _,qC _,?_⟩;refine fZ 64 (fun i st=>st.tm 2 = .ptr 0 0/\st.tm 3 = .ip (cRS b)/\st.tm 4 = .ptr 1 0/\st.tm 5=aI i/\st.mu=[.arr (aI a.1 :: hB (fun j=>if j<i then a.2 j||b.2 j else a.2 j)),.arr (aI 0 :: hB fun _=>false)]) ?_ ?_
 .exact ⟨zSi,zSi,zSi,zSi,by simp[go_sem];rfl⟩
 rintro i st hi ⟨p,I,C,J,P⟩;by_cases l:i<64
 .have o:(i:Int)<64:=by omega
  have r:1+i<=64:=zOm;have w1:=zWk i;generalize hG:(fun j=>if j<i then a.2 j||b.2 j else a.2 j)=G at *
  have R:G i=a.2 i:=by rw[<-hG];simp
  have g:∀ v:Bool,v=(a.2 i||b.2 i)->(aI a.1 :: hB G).set (1+i) (aB v)=aI a.1 :: hB (fun j=>if j<i+1 then a.2 j||b.2 j else a.2 j):=fun v hv=>by
   rw[s1];congr 2;funext j;rw[<-hG,hv];by_cases T:j=i
   .subst T;simp
   .by_cases h2:j<i
    .simp [T,h2,show j<i+1 by omega]
    .simp [T,h2,show ¬j<i+1 by omega]
  have t:=d1 (aI a.1) G i l;have m2:=d0 b.2 i l;have U:1<=64-i:=zOm;rw[R]at t;cases ha:a.2 i with
  |true =>
   rw[ha]at t g;have hn:=g true zSp;simp[go_sem,p,J,P,l,o,r,qh,t,hn,w1];exact aK ⟨zS1 p,zS1 I,zS1 C,zSi,zSi⟩
  |false =>
   rw[ha]at t g;have hn:=g (b.2 i) zSp;simp[go_sem,p,I,J,P,l,o,r,U,qh,t,m2,hn,w1];exact aK ⟨zS1 p,zS1 I,zS1 C,zSi,zSi⟩
 .have a0:i=64:=by omega
  subst a0;simp[go_sem,p,C,J,P,qh,tk,pc];rw[if_pos (qC _)];simp[go_sem,C,qh,tk];have e:(aI a.1 :: hB fun j=>if j<64 then a.2 j||b.2 j else a.2 j)=cRS (uniS a b):=by
   exact congrArg (aI a.1 :: ·) (jI fun j hj=>if_pos hj)
  rw[e];exact .hf _ (zz _)
theorem kj(a b:RS):qd qb 163 [eRS a,eRS b] (eRS (intS a b)):=by
 refine qSQ call163 func163 rfl { mt:=[2] } ?_;simp[go_sem];refine⟨qC _,qC _,?_⟩;refine fZ 64 (fun i st=>st.tm 2 = .ptr 0 0/\st.tm 3 = .ip (cRS b)/\st.tm 4 = .ptr 1 0/\st.tm 5=aI i/\st.mu=[.arr (aI a.1 :: hB (fun j=>if j<i then a.2 j&&b.2 j else a.2 j)),.arr (aI 0 :: hB fun _=>false)]) ?_ ?_
 .exact ⟨zSi,zSi,zSi,zSi,by simp[go_sem];rfl⟩
 rintro i st hi ⟨p,I,C,J,P⟩;by_cases l:i<64
 .have o:(i:Int)<64:=by omega
  have r:1+i<=64:=zOm;have w1:=zWk i;generalize hG:(fun j=>if j<i then a.2 j&&b.2 j else a.2 j)=G at *
  have R:G i=a.2 i:=by rw[<-hG];simp
  have g:∀ v:Bool,v=(a.2 i&&b.2 i)->(aI a.1 :: hB G).set (1+i) (aB v)=aI a.1 :: hB (fun j=>if j<i+1 then a.2 j&&b.2 j else a.2 j):=fun v hv=>by
   rw[s1];congr 2;funext j;rw[<-hG,hv];by_cases T:j=i
   .subst T;simp
   .by_cases h2:j<i
    .simp [T,h2,show j<i+1 by omega]
    .simp [T,h2,show ¬j<i+1 by omega]
  have t:=d1 (aI a.1) G i l;have m2:=d0 b.2 i l;have U:1<=64-i:=zOm;rw[R]at t;cases ha:a.2 i with
  |false =>
   rw[ha]at t g;have hn:=g false zSp;simp[go_sem,p,J,P,l,o,r,qh,t,hn,w1];exact aK ⟨zS1 p,zS1 I,zS1 C,zSi,zSi⟩
  |true =>
   rw[ha]at t g;have hn:=g (b.2 i) zSp;simp[go_sem,p,I,J,P,l,o,r,U,qh,t,m2,hn,w1];exact aK ⟨zS1 p,zS1 I,zS1 C,zSi,zSi⟩
 .have a0:i=64:=by omega
  subst a0;simp[go_sem,p,C,J,P,qh,tk,pc];rw[if_pos (qC _)];simp[go_sem,C,qh,tk];have e:(aI a.1 :: hB fun j=>if j<64 then a.2 j&&b.2 j else a.2 j)=cRS (intS a b):=by
   exact congrArg (aI a.1 :: ·) (jI fun j hj=>if_pos hj)
  rw[e];exact .hf _ (zz _)
def trS(a:RS):RS:=(2,fun j=>decide (j<16)&&a.2 (j % 4*4+j / 4))
theorem kl(a:RS):qd qb 166 [eRS a] (eRS (trS a)):=by
 refine qSU call166 func166 rfl ?_;refine⟨qC _,?_⟩;refine fZ 16 (fun i st=>st.tm 1 = .ip (cRS a)/\st.tm 2 = .ptr 0 0/\st.tm 3 = .ptr 1 0/\st.tm 4=aI i/\st.mu=[.arr (aI 0 :: hB fun _=>false),.arr (aI 2 :: hB (fun j=>decide (j<16/\j % 4*4+j / 4<i)&&a.2 (j % 4*4+j / 4)))]) ?_ ?_
 .exact ⟨zSi,zSi,zSi,zSi,by simp[go_sem];first|rfl|exact⟨rfl,rfl⟩⟩
 rintro i st hi ⟨R,o,p,U,r⟩;by_cases t:i<16
 .have l:(i:Int)<16:=by omega
  have w1:=zWk i;obtain⟨q,hq⟩:∃ q:Nat,q=i % 4*4+i / 4:=⟨_,rfl⟩;have a0:q<16:=zOm;have w2:qx.wrap ((i:Int).tmod 4)=((i % 4:Nat):Int):=by
   rw[uO zOm];rw[zWr];omega
  have w3:qx.wrap (qx.wrap ((i:Int).tmod 4*4)+qx.wrap ((i:Int) / 4))=(q:Int):=by
   have x1:qx.wrap ((i:Int) % 4*4)=(i:Int) % 4*4:=zWr;have x2:qx.wrap ((i:Int) / 4)=(i:Int) / 4:=zWr;rw[uO zOm,x1,x2,zWr];omega
  generalize hG:(fun j=>decide (j<16/\j % 4*4+j / 4<i)&&a.2 (j % 4*4+j / 4))=G at *
  have g:(aI 2 :: hB G).set (1+q) (aB (a.2 i))=aI 2 :: hB (fun j=>decide (j<16/\j % 4*4+j / 4<i+1)&&a.2 (j % 4*4+j / 4)):=by
   rw[s1];refine congrArg (aI 2 :: ·) (jI fun j hj=>?_);rw[<-hG];by_cases C:j=q
   .have h2:j % 4*4+j / 4=i:=by omega
    rw[if_pos C,h2,decide_eq_true ⟨zOm,zOm⟩];rfl
   .have h2:¬(j<16/\j % 4*4+j / 4=i):=fun h=>C zOm
    rw[if_neg C];have h3:(j<16/\j % 4*4+j / 4<i+1)=(j<16/\j % 4*4+j / 4<i):=propext ⟨fun h=>⟨h.1,zOm⟩,fun h=>⟨h.1,zOm⟩⟩;rw[show decide (j<16/\j % 4*4+j / 4<i+1)=decide (j<16/\j % 4*4+j / 4<i) from decide_eq_decide.2 (by rw[h3])]
  have m2:=d0 a.2 i zOm;have I:(i:Int)<64:=zOm;have J:1<=64-i:=zOm;simp[go_sem,R,p,U,r,t,l,I,J,m2,qh,w1,w3,show (q:Int)<64 by omega,show 1+q<=64 by omega,g];exact aK ⟨zS1 R,zS1 o,zS1 p,zSi,zSi⟩
 .have P:i=16:=by omega
  subst P;have e:hB (fun j=>decide (j<16/\j % 4*4+j / 4<16)&&a.2 (j % 4*4+j / 4))=hB (trS a).2:=by
   refine jI fun j hj=>?_
   rw[show decide (j<16/\j % 4*4+j / 4<16)=decide (j<16) from decide_eq_decide.2 ⟨fun h=>h.1,fun h=>⟨h,zOm⟩⟩];rfl
  rw[e]at r;have hT:eRS (trS a) = .agg (aI 2 :: hB (trS a).2):=rfl;rw[hT];generalize (trS a).2=T at *
  simp[go_sem,o,p,U,r,qh,tk,pc];rw[if_pos (qC _)];simp[go_sem,o,qh,tk];exact .hf _ (zz (2,T))
def v6(a b:RS)(j:Nat):Bool:=a.2 (j / szA b.1)&&b.2 (j % szA b.1)
def Uq(a b:RS):RS:=(a.1+b.1,fun j=>decide (j<szA a.1*szA b.1)&&v6 a b j)
theorem qdP(f:Nat->Bool)(p:Nat)(v:Bool)(i:v=f p):∀ j,(if j=p then v else decide (j<p)&&f j)=(decide (j<p+1)&&f j):=fun j=>by
 by_cases g:j=p
 .subst g;simp[i]
 .rw [if_neg g,show decide (j<p+1)=decide (j<p) from decide_eq_decide.2 zOm]
theorem kn(a b:RS)(ha:0<=a.1/\a.1<=1000)(hb:0<=b.1/\b.1<=1000):qd qb 165 [eRS a,eRS b] (eRS (Uq a b)):=by
 refine qSV call165 func165 rfl ?_;have w0:qx.wrap (a.1+b.1)=a.1+b.1:=zWr;have af:=Zd a.1;have ag:=Zd b.1;have ca:=Yy a.1;have cb:=Yy b.1;have hf:∀ j,v6 a b j=(a.2 (j / szA b.1)&&b.2 (j % szA b.1)):=fun _=>rfl
 simp[go_sem,qh];refine⟨qC _,qC _,?_⟩;simp[go_sem,w0];refine cA cb (.zs .nil) ?_;generalize hE:Uq a b=E;have a9:E=(a.1+b.1,fun j=>decide (j<szA a.1*szA b.1)&&v6 a b j):=hE.symm;clear hE;generalize v6 a b=F at *
 generalize szA a.1=sa at *
 generalize szA b.1=n at *
 simp[go_sem];refine fZ sa (fun i st=>st.tm 2 = .ip (cRS a)/\st.tm 3 = .ip (cRS b)/\st.tm 4 = .ptr 0 0/\st.tm 5 = .ptr 1 0/\st.tm 6=aI n/\st.tm 7=aI i/\st.mu=[.arr (aI 0 :: hB fun _=>false),.arr (aI (a.1+b.1) :: hB (fun j=>decide (j<i*n)&&F j))]) ?_ ?_
 .exact ⟨zSi,zSi,zSi,zSi,zSi,zSi,by simp[go_sem];first|rfl|exact⟨rfl,rfl⟩⟩
 rintro i st hi ⟨l,C,J,P,o,r,R⟩;simp[go_sem,l,r,R];refine cA ca (.zs .nil) ?_;by_cases a6:i<sa
 .have w1:=zWk i
  simp[go_sem,a6];refine fZ n (fun k st=>st.tm 2 = .ip (cRS a)/\st.tm 3 = .ip (cRS b)/\st.tm 4 = .ptr 0 0/\st.tm 5 = .ptr 1 0/\st.tm 6=aI n/\st.tm 7=aI i/\st.tm 8=aI k/\st.mu=[.arr (aI 0 :: hB fun _=>false),.arr (aI (a.1+b.1) :: hB (fun j=>decide (j<i*n+k)&&F j))]) ?_ ?_
  .exact ⟨zS1 l,zS1 C,zS1 J,zS1 P,zS1 o,zS1 r,zSi,zSi⟩
  clear l C J P o r R;rintro k st hk ⟨l,C,J,P,o,r,e8,R⟩;by_cases t:k<n
  .have w2:=zWk k
   obtain⟨p,hp⟩:∃ p:Nat,p=i*n+k:=⟨_,rfl⟩;have a7:((i:Int)*n+k)=(p:Int):=by rw[hp];push_cast;rfl
   have ah:i*n<=63*64:=Nat.mul_le_mul zOm zOm;have w3:qx.wrap ((i:Int)*n)=(i:Int)*n:=by
    have:((i*n:Nat):Int)=(i:Int)*n:=by push_cast;rfl
    rw[<-this];exact zWr
   have w4:qx.wrap (p:Int)=(p:Int):=zWr;have a2:F p=(a.2 i&&b.2 k):=by
    rw[hf,hp,Nat.add_comm,Nat.add_mul_div_right _ _ zOm,Nat.add_mul_mod_self_right,Nat.div_eq_of_lt t,Nat.mod_eq_of_lt t,yw]
   have m1:=d0 a.2 i zOm;have m2:=d0 b.2 k zOm;have U:1<=64-i:=zOm;have a3:1<=64-k:=zOm;have a0:(i:Int)<64:=zOm;have a4:(k:Int)<64:=zOm;have hq:∀ x:AV,(x :: hB (fun j=>decide (j<p)&&F j)).set (1+p) (aB true)=x :: hB (fun j=>if j=p then true else decide (j<p)&&F j):=fun x=>s1 x _ p true
   rw[<-hp]at R;have aa:F p=true->(fun j=>if j=p then true else decide (j<p)&&F j)=(fun j=>decide (j<p+1)&&F j):=fun h=>funext (qdP F p true h.symm)
   have ab:F p=true->∀ x:AV,(x :: hB (fun j=>decide (j<p)&&F j)).set (1+p) (AV.sc (Value.bool true))=x :: hB (fun j=>decide (j<p+1)&&F j):=fun h x=>by rw[<-aa h];exact hq x
   have a5:(F p=false\/64<=p)->hB (fun j=>decide (j<p)&&F j)=hB (fun j=>decide (j<p+1)&&F j):=fun h=>jI fun j hj=>by
    by_cases h1:j=p
    .rcases h with h|h
     .rw [h1,h];simp
     .omega
    .rw [show decide (j<p+1)=decide (j<p) from decide_eq_decide.2 zOm]
   have done:∀ g:St,g.tm 2 = .ip (cRS a)->g.tm 3 = .ip (cRS b)->g.tm 4 = .ptr 0 0->g.tm 5 = .ptr 1 0->g.tm 6=aI n->g.tm 7=aI i->g.tm 8=aI (k+1:Nat)->g.mu=[.arr (aI 0 :: hB fun _=>false),.arr (aI (a.1+b.1) :: hB (fun j=>decide (j<p+1)&&F j))]->Keep (fun st=>st.tm 2 = .ip (cRS a)/\st.tm 3 = .ip (cRS b)/\st.tm 4 = .ptr 0 0/\st.tm 5 = .ptr 1 0/\st.tm 6=aI n/\st.tm 7=aI i/\st.tm 8=aI (k+1:Nat)/\st.mu=[.arr (aI 0 :: hB fun _=>false),.arr (aI (a.1+b.1) :: hB (fun j=>decide (j<i*n+(k+1))&&F j))]) .mk g:=
    fun g b1 b2 b3 b4 b5 b6 b7 b8=>aK ⟨b1,b2,b3,b4,b5,b6,b7,by rw[b8,hp];rfl⟩
   cases I:a.2 i with
   |false =>
    rw[I]at m1;simp[go_sem,l,o,r,e8,R,t,qh,m1,U,a0,w2];exact done _ (zS1 l) (zS1 C) (zS1 J) (zS1 P) (zS1 o) (zS1 r) zSi (by simp[go_sem,a5 (.inl (by rw[a2,I];rfl))])
   |true =>
    rw[I]at m1;cases a1:b.2 k with
    |false =>
     rw[a1]at m2;simp[go_sem,l,C,o,r,e8,R,t,qh,m1,m2,U,a3,a0,a4,w2];exact done _ (zS1 l) (zS1 C) (zS1 J) (zS1 P) (zS1 o) (zS1 r) zSi (by simp[go_sem,a5 (.inl (by rw[a2,I,a1];rfl))])
    |true =>
     rw[a1]at m2;by_cases a8:(p:Int)<64
     .simp [go_sem,l,C,P,o,r,e8,R,t,qh,m1,m2,U,a3,a0,a4,w2,w3,a7,w4,a8,show 1+p<=64 by omega,ab (by rw[a2,I,a1];rfl)]
      exact done _ (zS1 l) (zS1 C) (zS1 J) (zS1 P) (zS1 o) (zS1 r) zSi zSi
     .simp [go_sem,l,C,o,r,e8,R,t,qh,m1,m2,U,a3,a0,a4,w2,w3,a7,w4,a8]
      exact done _ (zS1 l) (zS1 C) (zS1 J) (zS1 P) (zS1 o) (zS1 r) zSi (by simp[go_sem,a5 (.inr zOm)])
  .have ad:k=n:=by omega
   subst ad;rw[show i*k+k=(i+1)*k by rw[Nat.add_mul,Nat.one_mul]]at R;simp[go_sem,o,r,e8,R,w1];exact⟨a6,aK ⟨zS1 l,zS1 C,zS1 J,zS1 P,zS1 o,zSi,zSi⟩⟩
 .have ae:i=sa:=by omega
  subst ae;rw[a9];generalize (fun j=>decide (j<i*n)&&F j)=T at *
  simp[go_sem,J,P,qh,tk,pc];rw[if_pos (qC _)];simp[go_sem,J,qh,tk];exact .hf _ (zz (_,T))
def rowJ(a b:RS)(i g j:Nat):Bool:=(qm g).any fun k=>decide (i / 4*(szA b.1 / 4)+k % (szA b.1 / 4)=j)&&(decide (i % 4=k / (szA b.1 / 4))&&(a.2 i&&b.2 k))
def uK(a b:RS):RS:=(a.1+b.1-2,fun j=>(qm (szA a.1)).any fun i=>rowJ a b i (szA b.1) j)
theorem qdQ(a b:RS)(i k j:Nat):rowJ a b i (k+1) j=(rowJ a b i k j||(decide (i / 4*(szA b.1 / 4)+k % (szA b.1 / 4)=j)&&(decide (i % 4=k / (szA b.1 / 4))&&(a.2 i&&b.2 k)))):=by
 unfold rowJ;rw[List.range_succ,List.any_append];simp
theorem qdR{k:Int}(h:1<=k):4<=szA k:=by unfold szA;split<;>(try split)<;>(try split)<;>omega
theorem Yz(a b:RS)(ha:0<=a.1/\a.1<=1000)(hb:1<=b.1/\b.1<=1000):qd qb 164 [eRS a,eRS b] (eRS (uK a b)):=by
 refine qSV call164 func164 rfl ?_;have w0:qx.wrap (a.1+b.1)=a.1+b.1:=zWr;have aa:qx.wrap (a.1+b.1-2)=a.1+b.1-2:=zWr;have ai:=Zd a.1;have aj:=Zd b.1;have ak:=qdR hb.1;have ca:=Yy a.1;have cb:=Yy b.1;have hR:∀ i k j,rowJ a b i (k+1) j=(rowJ a b i k j||(decide (i / 4*(szA b.1 / 4)+k % (szA b.1 / 4)=j)&&(decide (i % 4=k / (szA b.1 / 4))&&(a.2 i&&b.2 k)))):=qdQ a b;have ab:∀ i j,rowJ a b i 0 j=false:=fun i j=>rfl
 simp[go_sem,qh];refine⟨qC _,qC _,?_⟩;simp[go_sem,w0,aa];refine cA cb (.zs .nil) ?_;generalize hE:uK a b=E;have ad:E=(a.1+b.1-2,fun j=>(qm (szA a.1)).any fun i=>rowJ a b i (szA b.1) j):=hE.symm;clear hE;generalize rowJ a b=F at *
 generalize szA a.1=sa at *
 generalize szA b.1=sb at *
 obtain⟨n,hn⟩:∃ n:Nat,n=sb / 4:=⟨_,rfl⟩;have al:1<=n/\n<=16:=zOm;have wn:qx.wrap ((sb:Int) / 4)=(n:Int):=by rw[zWr];omega
 rw[<-hn]at hR;simp[go_sem,wn];refine fZ sa (fun i st=>st.tm 2 = .ip (cRS a)/\st.tm 3 = .ip (cRS b)/\st.tm 4 = .ptr 0 0/\st.tm 5 = .ptr 1 0/\st.tm 6=aI n/\st.tm 7=aI i/\st.mu=[.arr (aI 0 :: hB fun _=>false),.arr (aI (a.1+b.1-2) :: hB (fun j=>(qm i).any fun i=>F i sb j))]) ?_ ?_
 .exact ⟨zSi,zSi,zSi,zSi,zSi,zSi,by simp[go_sem];first|rfl|exact⟨rfl,rfl⟩⟩
 rintro i st hi ⟨l,r,C,I,t,o,hm⟩;simp[go_sem,l,o,hm];refine cA ca (.zs .nil) ?_;by_cases a8:i<sa
 .have w1:=zWk i
  generalize hP:(fun j=>(qm i).any fun i=>F i sb j)=P at *
  simp[go_sem,a8];refine fZ sb (fun k st=>st.tm 2 = .ip (cRS a)/\st.tm 3 = .ip (cRS b)/\st.tm 4 = .ptr 0 0/\st.tm 5 = .ptr 1 0/\st.tm 6=aI n/\st.tm 7=aI i/\st.tm 8=aI k/\st.mu=[.arr (aI 0 :: hB fun _=>false),.arr (aI (a.1+b.1-2) :: hB (fun j=>P j||F i k j))]) ?_ ?_
  .exact ⟨zS1 l,zS1 r,zS1 C,zS1 I,zS1 t,zS1 o,zSi,zS1 ab⟩
  clear l r C I t o hm;rintro k st hk ⟨l,r,C,I,t,o,e8,hm⟩;simp[go_sem,r,e8,hm];refine cA cb (.zs .nil) ?_;by_cases J:k<sb
  .have w2:=zWk k
   obtain⟨p,hp⟩:∃ p:Nat,p=i / 4*n+k % n:=⟨_,rfl⟩;have an:k % n<n:=Nat.mod_lt _ zOm;have ao:i / 4*n<=15*16:=Nat.mul_le_mul zOm zOm;have y1:((i / 4:Nat):Int)=(i:Int) / 4:=zOm;have y2:((i / 4*n:Nat):Int)=(i:Int) / 4*n:=by rw[<-y1];push_cast;rfl
   have y3:((k % n:Nat):Int)=(k:Int) % n:=rfl;have y4:((k / n:Nat):Int)=(k:Int) / n:=rfl;have ae:k / n<=64:=zu (Nat.div_le_self k n) zOm;have x1:qx.wrap ((i:Int) / 4)=(i:Int) / 4:=zWr;have x2:qx.wrap ((i:Int) / 4*n)=(i:Int) / 4*n:=by rw[<-y2];exact zWr
   have x4:qx.wrap ((i:Int) / 4*n+(k:Int) % n)=(p:Int):=by rw[<-y2,<-y3,zWr,hp];push_cast;rfl
   have a7:qx.wrap ((i:Int) / 4*n+(k:Int).tmod n)=(p:Int):=by rw[uO zOm];exact x4
   have x5:qx.wrap ((k:Int) / n)=(k:Int) / n:=by
    rw[<-y4];clear y4;generalize k / n=c at ae⊢;exact zWr
   have R:¬n=0:=zOm;have m1:=d0 a.2 i zOm;have m2:=d0 b.2 k zOm;have U:1<=64-i:=zOm;have a1:1<=64-k:=zOm;have a0:(i:Int)<64:=zOm;have a2:(k:Int)<64:=zOm;have a3:((decide (i % 4=k / n)&&(a.2 i&&b.2 k))=false\/64<=p)->hB (fun j=>P j||F i k j)=hB (fun j=>P j||F i (k+1) j):=fun h=>jI fun j hj=>by
    rw[hR,<-hp];rcases h with h|h
    .rw [h,Bool.and_false,Bool.or_false]
    .rw [decide_eq_false zOm,Bool.false_and,Bool.or_false]
   have af:(decide (i % 4=k / n)&&(a.2 i&&b.2 k))=true->∀ x:AV,(x :: hB (fun j=>P j||F i k j)).set (1+p) (AV.sc (Value.bool true))=x :: hB (fun j=>P j||F i (k+1) j):=fun h x=>by
    refine(s1 x _ p true).trans (congrArg (x :: ·) (jI fun j hj=>?_));rw[hR,<-hp,h,Bool.and_true];by_cases h1:j=p
    .rw [if_pos h1,h1];simp
    .rw [if_neg h1,decide_eq_false (fun e=>h1 e.symm),Bool.or_false]
   have done:∀ g:St,g.tm 2 = .ip (cRS a)->g.tm 3 = .ip (cRS b)->g.tm 4 = .ptr 0 0->g.tm 5 = .ptr 1 0->g.tm 6=aI n->g.tm 7=aI i->g.tm 8=aI (k+1:Nat)->g.mu=[.arr (aI 0 :: hB fun _=>false),.arr (aI (a.1+b.1-2) :: hB (fun j=>P j||F i (k+1) j))]->Keep (fun st=>st.tm 2 = .ip (cRS a)/\st.tm 3 = .ip (cRS b)/\st.tm 4 = .ptr 0 0/\st.tm 5 = .ptr 1 0/\st.tm 6=aI n/\st.tm 7=aI i/\st.tm 8=aI (k+1:Nat)/\st.mu=[.arr (aI 0 :: hB fun _=>false),.arr (aI (a.1+b.1-2) :: hB (fun j=>P j||F i (k+1) j))]) .mk g:=
    fun g b1 b2 b3 b4 b5 b6 b7 b8=>aK ⟨b1,b2,b3,b4,b5,b6,b7,b8⟩
   cases a4:a.2 i with
   |false =>
    rw[a4]at m1;simp[go_sem,l,t,o,e8,J,qh,x1,x2,R,m1,U,a0,w2];exact done _ (zS1 l) (zS1 r) (zS1 C) (zS1 I) (zS1 t) (zS1 o) zSi (by simp[go_sem,a3 (.inl (by rw[a4];simp))])
   |true =>
    rw[a4]at m1;cases a5:b.2 k with
    |false =>
     rw[a5]at m2;simp[go_sem,l,r,t,o,e8,J,qh,x1,x2,R,m1,m2,U,a0,a1,a2,w2];exact done _ (zS1 l) (zS1 r) (zS1 C) (zS1 I) (zS1 t) (zS1 o) zSi (by simp[go_sem,a3 (.inl (by rw[a5];simp))])
    |true =>
     rw[a5]at m2;by_cases hq:i % 4=k / n
     .have a6:(i:Int).tmod 4=(k:Int) / n:=by rw[uO zOm,<-y4,<-hq];rfl
      by_cases a9:(p:Int)<64
      .simp [go_sem,l,r,I,t,o,e8,J,qh,x1,x2,a7,x5,R,m1,m2,U,a0,a1,a2,w2,a6,a9,show 1+p<=64 by omega,af (by rw[decide_eq_true hq,a4,a5];rfl)]
       exact done _ (zS1 l) (zS1 r) (zS1 C) (zS1 I) (zS1 t) (zS1 o) zSi zSi
      .simp [go_sem,l,r,t,o,e8,J,qh,x1,x2,a7,x5,R,m1,m2,U,a0,a1,a2,w2,a6,a9]
       exact done _ (zS1 l) (zS1 r) (zS1 C) (zS1 I) (zS1 t) (zS1 o) zSi (by simp[go_sem,a3 (.inr zOm)])
     .have a6:¬(i:Int).tmod 4=(k:Int) / n:=fun e=>hq (by rw[uO zOm,<-y4]at e;exact Int.ofNat.inj e)
      simp[go_sem,l,r,t,o,e8,J,qh,x1,x2,a7,x5,R,m1,m2,U,a0,a1,a2,w2,a6];exact done _ (zS1 l) (zS1 r) (zS1 C) (zS1 I) (zS1 t) (zS1 o) zSi (by simp[go_sem,a3 (.inl (by rw[decide_eq_false hq];rfl))])
  .have ag:k=sb:=by omega
   subst ag;simp[go_sem,o,w1];exact⟨a8,aK ⟨zS1 l,zS1 r,zS1 C,zS1 I,zS1 t,zSi,by simp[go_sem];rw[<-hP]⟩⟩
 .have ah:i=sa:=by omega
  subst ah;rw[ad];generalize (fun j=>(qm i).any fun i=>F i sb j)=T at *
  simp[go_sem,C,I,qh,tk,pc];rw[if_pos (qC _)];simp[go_sem,C,qh,tk];exact .hf _ (zz (_,T))
end QE
namespace PB
open P1 P2 Y1 Y2 Y6 Y9 YW
def Sub(a b:Kd):Prop:=a.ar=b.ar/\∀ t,t∈a.ts->t∈b.ts
theorem qdS{n m:Nat}{a g b i:List Tp}(j:∀ t,t∈a->t∈g)(l:∀ t,t∈b->t∈i):∀ t,t∈j8 n m a b->t∈j8 n m g i:=fun t o=>by
 grind [wd]
theorem Ur{a j b l:Kd}(g:Sub a j)(i:Sub b l):Sub (zl a b) (zl j l):=by
 refine⟨by simp only[zl];rw[g.1,i.1],fun t o=>?_⟩;simp only[zl]at o⊢;rw[<-g.1,<-i.1];exact qdS g.2 i.2 t o
theorem wH{a b:Kd}{t:Tp}:t∈(kSum a b).ts↔t∈a.ts\/t∈b.ts:=by
 show t∈uni (uni [] a.ts) b.ts↔_;rw[jB,jB];simp
theorem Sub.refl(a:Kd):Sub a a:=⟨rfl,fun _ h=>h⟩
theorem Sub.trans{a b c:Kd}(h:Sub a b)(k:Sub b c):Sub a c:=⟨h.1.trans k.1,fun t g=>k.2 t (h.2 t g)⟩
theorem Us(a b:Kd):Sub a (kSum a b):=⟨rfl,fun t g=>wH.2 (.inl g)⟩
def YI(k:Kd):Prop:=∀ t,t∈(zl k k).ts->t∈k.ts
theorem kq:∀(f n:Nat) (a:Kd),Sub a (cloN f n a)
 | 0,n,a => .refl a
 |f+1,n,a=>by
  unfold cloN;split
  .exact (Us a _).trans (kq f _ _)
  .exact .refl a
theorem kr{S:Kd}(i:YI S):∀(f n:Nat) (a:Kd),Sub a S->Sub (cloN f n a) S
 | 0,n,a,h=>h
 |f+1,n,a,h=>by
  unfold cloN;split
  .refine kr i f _ _ ⟨h.1,fun t g=>?_⟩
   rcases wH.1 g with g|g
   .exact h.2 t g
   .exact i t ((Ur h h).2 t g)
  .exact h
theorem ku{ns:Nat}(o:ns<=4):∀(f n:Nat) (a:Kd),okKd ns a->a.ar=2->70<=f+n->(n=0\/∃ p,okKd ns p/\p.ar=2/\n=p.ts.length/\a=kSum p (zl p p))->YI (cloN f n a)
 | 0,n,a,g,r,hf,C=>by
  rcases C with rfl|⟨p,J,_,rfl,_⟩
  .omega
  grind [aM]
 |f+1,n,a,g,r,hf,C=>by
  unfold cloN;split
  .rename_i T
   have U:okKd ns (zl a a):=QX g g zOm zOm;refine ku o f _ _ (QV g U (by grind [zl])) r zOm (.inr ⟨a,g,r,rfl,rfl⟩)
  .rename_i a0
   rcases C with rfl|⟨p,J,a1,rfl,rfl⟩
   .have:a.ts=[]:=jt zOm
    intro t i;obtain⟨x,y,⟨I,_⟩,_⟩:=wd.1 i
    grind
   .have j:∀ t,t∈(kSum p (zl p p)).ts->t∈p.ts:=by
     have a2:(kSum p (zl p p)).ts.Nodup:=g.nd;have a3:∀ t,t∈p.ts->t∈(kSum p (zl p p)).ts:=(Us p _).2;intro t i;by_cases P:t∈p.ts
     .exact P
     .exfalso
      have l:(t :: p.ts).Nodup:=List.nodup_cons.2 ⟨P,J.nd⟩;have:=jv l (l₂:=(kSum p (zl p p)).ts) (fun x I=>by
       rcases qp.1 I with rfl|I
       .exact i
       grind)
      grind
    intro t i;have R:Sub (kSum p (zl p p)) p:=⟨rfl,j⟩;exact wH.2 (.inr ((Ur R R).2 t i))
section
variable {ts:TS} (ok:okTS ts) (a b d:Nd)
include ok
end
end PB
namespace QF
open Y2 Y3 P1 P2 QD QE
section
variable {p q:Int}{a b:Kd}{l:List Int}{m ns:Nat}
def dig(k:Int)(j:Nat):List Int:=if k=0 then [] else if k=1 then [(j:Int)] else if k=2 then [((j / 4:Nat):Int),((j % 4:Nat):Int)] else [((j / 16:Nat):Int),((j / 4 % 4:Nat):Int),((j % 4:Nat):Int)]
theorem uL{k:Int}(h:0<=k/\k<=3)(j:Nat):((dig k j).length:Int)=k:=by
 grind [dig]
theorem szA1:szA 1=4:=rfl
theorem szA2:szA 2=16:=rfl
theorem szA3:szA 3=64:=rfl
theorem Ze(h:0<=p/\p<=3):p=0\/p=1\/p=2\/p=3:=by omega
theorem kw(g:0<=p)(i:0<=q)(h:p+q<=3){j:Nat}(l:j<szA (p+q)):j / szA q<szA p/\j % szA q<szA q/\dig (p+q) j=dig p (j / szA q)++dig q (j % szA q):=by
 rcases Ze (p:=p) ⟨g,zOm⟩ with rfl|rfl|rfl|rfl<;>rcases Ze (p:=q) ⟨i,zOm⟩ with rfl|rfl|rfl|rfl<;>first | (exfalso;omega)|skip
 all_goals simp[dig,szA]at l⊢
 all_goals omega
theorem Ut(g:0<=p)(j:0<=q)(h:p+q<=3){i k:Nat}(l:i<szA p)(o:k<szA q):i*szA q+k<szA (p+q)/\dig (p+q) (i*szA q+k)=dig p i++dig q k:=by
 rcases Ze (p:=p) ⟨g,zOm⟩ with rfl|rfl|rfl|rfl<;>rcases Ze (p:=q) ⟨j,zOm⟩ with rfl|rfl|rfl|rfl<;>first | (exfalso;omega)|skip
 all_goals simp[dig,szA]at l o⊢
 all_goals omega
theorem Uu(h:0<=p/\p<=3){i j:Nat}(g:i<szA p)(l:j<szA p)(e:dig p i=dig p j):i=j:=by
 rcases Ze h with rfl|rfl|rfl|rfl
 all_goals grind [dig,szA]
 all_goals omega
theorem kx(h:1<=p/\p<=3){l:List Int}(j:(l.length:Int)=p)(g:∀ x,x∈l->0<=x/\x<4):∃ i,i<szA p/\l=dig p i:=by
 match l,j,g with
 | [],j,_=>simp at j;omega
 | [a],j,g =>
  obtain rfl:p=1:=by grind
  have:=g a zSp;exact⟨a.toNat,by rw[szA1];omega,by simp[dig];omega⟩
 | [a,b],j,g =>
  obtain rfl:p=2:=by grind
  have:=g a zSp;have:=g b zSp;exact⟨(a*4+b).toNat,by rw[szA2];omega,by simp[dig];omega⟩
 | [a,b,c],j,g =>
  obtain rfl:p=3:=by grind
  have:=g a zSp;have:=g b zSp;have:=g c zSp;exact⟨(a*16+b*4+c).toNat,by rw[szA3];omega,by simp[dig];omega⟩
 |a :: b :: c :: d :: l,j,_=>simp at j;omega
theorem Uv{g:List Int}(h:l.length=g.length)(i:l.length<=3)(e:pad l=pad g):l=g:=by
 have j:=uF i l.length (qr _);have o:=uF (l:=g) zOm g.length (qr _)
 grind
theorem wI{k:Kd}(h:okKd ns k)(g:ns<=4){t:Tp}(j:t∈k.ts):∃ i,i<szA k.ar/\t=pad (dig k.ar i):=by
 obtain⟨l,rfl,o,p⟩:=h.ts t j;obtain⟨i,r,e⟩:=kx h.ar o fun x C=>by grind
 grind
def qe(k:Kd):RS:=(k.ar,fun j=>decide (j<szA k.ar/\pad (dig k.ar j)∈k.ts))
theorem zF(k:Kd)(j:Nat):(qe k).2 j=true↔j<szA k.ar/\pad (dig k.ar j)∈k.ts:=decide_eq_true_iff
theorem vH{a b:RS}(g:a.1=b.1)(i:∀ j,j<64->a.2 j=b.2 j):eRS a=eRS b:=by
 simp only[eRS,cRS,g,jI i]
theorem Zf(h:a.ar=b.ar):eRS (uniS (qe a) (qe b))=eRS (qe (kSum a b)):=by
 refine vH rfl fun j g=>?_
 rw[jN,zF];show ((qe a).2 j||(qe b).2 j)=true↔j<szA a.ar/\pad (dig a.ar j)∈uni (uni [] a.ts) b.ts;rw[Bool.or_eq_true,zF,zF,<-h,jB,jB]
 grind
theorem qdT(h:a.ar=b.ar):eRS (intS (qe a) (qe b))=eRS (qe (Vu a b)):=by
 refine vH rfl fun j g=>?_
 rw[jN,zF];show ((qe a).2 j&&(qe b).2 j)=true↔j<szA a.ar/\pad (dig a.ar j)∈a.ts.filter fun t=>decide (t∈b.ts)
 rw[qi,zF,zF,<-h,List.mem_filter,decide_eq_true_eq]
 grind
theorem Vw{n:Nat}{a b:List Tp}{t:Tp}:t∈uA n m a b↔∃ x y,x∈a/\y∈b/\conc x n y m 0=t:=by
 unfold uA;rw[jB];simp only[zb,false_or,qs,Prod.exists,wb]
 grind
theorem QW{g:List Int}{n:Nat}(h:l.length=n)(i:g.length=m)(j:n<=3)(o:m<=3):conc (pad l) n (pad g) m 0=pad (l++g):=by
 unfold conc;rw[Nat.sub_zero,List.drop_zero,uF zOm n zOm,uF zOm m zOm,<-h,<-i,zt,zt]
theorem qdU(J:okKd ns a)(P:okKd ns b)(l:ns<=4)(R:a.ar+b.ar<=3):eRS (Uq (qe a) (qe b))=eRS (qe (wc a b)):=by
 have a0:=J.ar;have a1:=P.ar;have la:=fun i=>uL (k:=a.ar) zOm i
 have lb:=fun i=>uL (k:=b.ar) zOm i
 have g:=fun i=>uL (k:=a.ar+b.ar) zOm i
 refine vH rfl fun j hj=>?_
 rw[jN,zF];show (decide (j<szA a.ar*szA b.ar)&&((qe a).2 (j / szA b.ar)&&(qe b).2 (j % szA b.ar)))=true↔j<szA (a.ar+b.ar)/\pad (dig (a.ar+b.ar) j)∈uA a.ar.toNat b.ar.toNat a.ts b.ts;rw[qi,qi,zF,zF,Vw,decide_eq_true_eq];constructor
 .rintro ⟨_,⟨r,h2⟩,h4,h5⟩
  have t:=Ut (p:=a.ar) (q:=b.ar) zOm zOm R r h4
  grind [szA,Nat.div_add_mod',QW]
 .rintro ⟨r,x,y,T,U,e⟩
  obtain⟨i,C,rfl⟩:=wI J l T;obtain⟨k,o,rfl⟩:=wI P l U;rw[QW (zW1 (la i)) (zW1 (lb k)) zOm zOm]at e;have t:=Ut (p:=a.ar) (q:=b.ar) zOm zOm R C o;rw[<-t.2]at e;have e2:=Uv (zW2 (g (i*szA b.ar+k)) (g j)) (zW1 (g (i*szA b.ar+k))) e;have I:=Uu zOm t.1 r e2;have a2:=Zd b.ar;have d1:j / szA b.ar=i:=by rw[<-I,Nat.add_comm,Nat.add_mul_div_right _ _ zOm,Nat.div_eq_of_lt o,yw]
  have d2:j % szA b.ar=k:=by rw[<-I,Nat.add_comm,Nat.add_mul_mod_self_right,Nat.mod_eq_of_lt o]
  rw[d1,d2];refine⟨?_,⟨C,T⟩,o,U⟩;rw[<-I]
  calc i*szA b.ar+k<i*szA b.ar+szA b.ar:=by omega
   _=(i+1)*szA b.ar:=by rw[Nat.add_mul,Nat.one_mul]
   _<=szA a.ar*szA b.ar:=Nat.mul_le_mul_right _ C
theorem wd{n:Nat}{a b:List Tp}{t:Tp}:t∈j8 n m a b↔∃ x y,x∈a/\y∈b/\x.getD (n-1) 0=y.getD 0 0/\conc x n y m 1=t:=by
 unfold j8;rw[jB];simp only[zb,false_or,List.mem_filterMap,Prod.exists,wb];constructor
 .rintro ⟨x,y,⟨i,j⟩,g⟩
  split at g
  .rename_i h;cases g;exact⟨x,y,i,j,h,rfl⟩
  .cases g
 .rintro ⟨x,y,i,j,g,l⟩;exact⟨x,y,⟨i,j⟩,by rw[if_pos g,l]⟩
theorem qdV{u v:List Int}{e f:Int}{n:Nat}(h:u.length+1=n)(g:v.length+1=m)(i:n<=3)(j:m<=3):conc (pad (u++[e])) n (pad ([f]++v)) m 1=pad (u++v):=by
 unfold conc;rw[uF zSo (n-1) zSo,uF zSo m zSo,List.take_append_of_le_length zOm,zi zOm,zi zSo];rfl
theorem ky{k:Nat}(h:k<3):(pad l).getD k 0=l.getD k 0:=by
 match k,h with
 | 0,_=>rfl
 | 1,_=>rfl
 | 2,_=>rfl
theorem qdW(g:0<=p/\p<=2){i:Nat}(j:i<szA (p+1)):i / 4<szA p/\dig (p+1) i=dig p (i / 4)++[((i % 4:Nat):Int)]:=by
 have:=kw (p:=p) (q:=1) g.1 zOm zOm j;rw[szA1]at this;exact⟨this.1,this.2.2⟩
theorem qdX(g:0<=q/\q<=2){k:Nat}(i:k<szA (1+q)):k % szA q<szA q/\dig (1+q) k=[((k / szA q:Nat):Int)]++dig q (k % szA q):=by
 have:=kw (p:=1) (q:=q) zOm g.1 zOm i;exact⟨this.2.1,this.2.2⟩
theorem qdY(g:0<=q/\q<=2):szA (q+1) / 4=szA q/\szA (q+1)=4*szA q:=by
 rcases (show q=0\/q=1\/q=2 by omega) with rfl|rfl|rfl<;>exact⟨rfl,rfl⟩
theorem kz(ha:okKd ns a)(hb:okKd ns b)(r:ns<=4)(h3:1<=a.ar+b.ar-2/\a.ar+b.ar-2<=3):eRS (uK (qe a) (qe b))=eRS (qe (zl a b)):=by
 have a0:=ha.ar;have a3:=hb.ar;obtain⟨p,hp⟩:∃ p,p=a.ar-1:=⟨_,rfl⟩;obtain⟨q,hq⟩:∃ q,q=b.ar-1:=⟨_,rfl⟩;have ea:a.ar=p+1:=zOm;have eb:b.ar=1+q:=zOm;have t:b.ar=q+1:=zOm;have C:a.ar+b.ar-2=p+q:=zOm;have I:=qdY (q:=q) zOm;have hn:szA b.ar / 4=szA q:=by rw[t];exact I.1
 have lp:=fun i=>uL (k:=p) zOm i
 have lq:=fun i=>uL (k:=q) zOm i
 have o:=fun i=>uL (k:=p+q) zOm i
 have A:∀ i,i<szA a.ar->i / 4<szA p/\dig a.ar i=dig p (i / 4)++[((i % 4:Nat):Int)]:=fun i g=>by rw[ea]at g⊢;exact qdW zOm g
 have B:∀ k,k<szA b.ar->k % szA q<szA q/\dig b.ar k=[((k / szA q:Nat):Int)]++dig q (k % szA q):=fun k l=>by rw[eb]at l⊢;exact qdX zOm l
 have J:∀ i k,i<szA a.ar->k<szA b.ar->i / 4*szA q+k % szA q<szA (p+q)/\(pad (dig a.ar i)).getD (a.ar.toNat-1) 0=((i % 4:Nat):Int)/\(pad (dig b.ar k)).getD 0 0=((k / szA q:Nat):Int)/\conc (pad (dig a.ar i)) a.ar.toNat (pad (dig b.ar k)) b.ar.toNat 1=pad (dig (p+q) (i / 4*szA q+k % szA q)):=fun i k g l=>by
  obtain⟨a1,a2⟩:=A i g;obtain⟨b1,b2⟩:=B k l;have hm:=Ut (p:=p) (q:=q) zOm zOm zOm a1 b1;have l1:=lp (i / 4);have l2:=lq (k % szA q);refine⟨hm.1,?_,?_,?_⟩
  .rw [ky zOm,a2,show a.ar.toNat-1=(dig p (i / 4)).length by omega];simp
  .rw [ky zOm,b2];rfl
  .rw [a2,b2,hm.2];exact qdV zOm zOm zOm zOm
 refine vH rfl fun j hj=>?_
 rw[jN,zF];show ((qm (szA a.ar)).any fun i=>(qm (szA b.ar)).any fun k=>decide (i / 4*(szA b.ar / 4)+k % (szA b.ar / 4)=j)&&(decide (i % 4=k / (szA b.ar / 4))&&((qe a).2 i&&(qe b).2 k)))=true↔j<szA (a.ar+b.ar-2)/\pad (dig (a.ar+b.ar-2) j)∈j8 a.ar.toNat b.ar.toNat a.ts b.ts;rw[wd,List.any_eq_true,hn,C];constructor
 .rintro ⟨i,g,h⟩
  obtain⟨k,l,h⟩:=List.any_eq_true.1 h;rw[zY]at g l;rw[qi,qi,qi,decide_eq_true_eq,decide_eq_true_eq,zF,zF]at h;obtain⟨rfl,P,⟨_,h4⟩,_,h5⟩:=h;obtain⟨R,T,U,j4⟩:=J i k g l;exact⟨R,_,_,h4,h5,by rw[T,U,P],j4⟩
 .rintro ⟨h1,x,y,hx,hy,P,e⟩
  obtain⟨i,g,rfl⟩:=wI ha r hx;obtain⟨k,l,rfl⟩:=wI hb r hy;obtain⟨R,T,U,j4⟩:=J i k g l;rw[j4]at e;have e2:=Uv (zW2 (o (i / 4*szA q+k % szA q)) (o j)) (zW1 (o (i / 4*szA q+k % szA q))) e;have e3:=Uu zOm R h1 e2;rw[T,U]at P;refine⟨i,zY.2 g,List.any_eq_true.2 ⟨k,zY.2 l,?_⟩⟩;rw[qi,qi,qi,decide_eq_true_eq,decide_eq_true_eq,zF,zF];exact⟨e3,zOm,⟨g,hx⟩,l,hy⟩
theorem qdZ(o:okKd ns a)(g:ns<=4)(p:a.ar=2):eRS (trS (qe a))=eRS (qe (kTr a)):=by
 refine vH rfl fun j I=>?_
 rw[jN,zF];show (decide (j<16)&&(qe a).2 (j % 4*4+j / 4))=true↔j<16/\pad (dig 2 j)∈uni [] (a.ts.map fun t=>[t.getD 1 0,t.getD 0 0,0]);rw[qi,zF,jB,decide_eq_true_eq,p,szA2];simp only[zb,false_or,qs];constructor
 .rintro ⟨l,J,r⟩
  refine⟨l,_,r,?_⟩
  grind [dig,pad]
 .rintro ⟨l,t,C,e⟩
  obtain⟨i,P,rfl⟩:=wI o g C
  grind [szA2,dig,pad]
theorem Uw(h:1<=l.length/\l.length<=3)(g:∀ x,x∈l->0<=x/\x<4):eRS (oneS l)=eRS (qe (kOf l)):=by
 refine vH rfl fun j P=>?_
 obtain⟨i,o,e⟩:=kx (p:=(l.length:Int)) zOm rfl g;have r:atF 0 l=i:=by
  match l,h,g,o,e with
  | [x],_,g,o,e =>
   have:=g x zSp;simp[dig]at e;simp[atF,IntKind.wrap,IntKind.signed,IntKind.bits];omega
  | [x,y],_,g,o,e =>
   have:=g x zSp;have:=g y zSp;simp[dig]at e;simp[atF,IntKind.wrap,IntKind.signed,IntKind.bits];omega
  | [x,y,z],_,g,o,e =>
   have:=g x zSp;have:=g y zSp;have:=g z zSp;simp[dig]at e;simp[atF,IntKind.wrap,IntKind.signed,IntKind.bits];omega
 rw[jN,zF];show decide ((j:Int)=atF 0 l)=true↔j<szA (l.length:Int)/\pad (dig (l.length:Int) j)∈[pad l];rw[decide_eq_true_eq,r,qV];have C:=fun j=>uL (k:=(l.length:Int)) zOm j
 constructor
 .intro I
  obtain rfl:j=i:=zOm
  grind
 .rintro ⟨I,J⟩
  have t:=Uv (zW1 (C j)) (zW1 (C j)) J;rw[e]at t;have:=Uu (p:=(l.length:Int)) zOm I o (by rw[<-e]at t⊢;exact t);omega
end
end QF
namespace QG
open Y2 P1 P2 PB QE QF
section
variable {k:Kd}{ns:Nat}
def Zg(k:Kd):Kd:=kSum k (zl k k)
def itK:Nat->Kd->Kd
 | 0,k=>k
 |i+1,k=>Zg (itK i k)
theorem qd0(h:okKd ns k)(g:k.ar=2):okKd ns (Zg k)/\(Zg k).ar=2:=
 ⟨QV h (QX h h zOm zOm) (by grind [zl]),g⟩
theorem okIt(h:okKd ns k)(g:k.ar=2):∀ i,okKd ns (itK i k)/\(itK i k).ar=2
 | 0=>⟨h,g⟩
 |i+1=>qd0 (okIt h g i).1 (okIt h g i).2
abbrev Ed(k:Kd)(u v:Int):Prop:=[u,v,0]∈k.ts
theorem YJ(h:okKd ns k)(o:k.ar=2){t:Tp}(j:t∈k.ts):∃ u v,t=[u,v,0]/\(0<=u/\u<ns)/\(0<=v/\v<ns):=by
 obtain⟨l,rfl,g,i⟩:=h.ts t j
 match l,g,i with
 | [u,v],_,i=>exact⟨u,v,rfl,i u zSp,i v zSp⟩
 | [],g,_=>simp at g;omega
 | [_],g,_=>simp at g;omega
 |_ :: _ :: _ :: _,g,_=>simp at g;omega
theorem kA(h:okKd ns k)(j:k.ar=2){u v:Int}:[u,v,0]∈(zl k k).ts↔∃ w,Ed k u w/\Ed k w v:=by
 show [u,v,0]∈j8 k.ar.toNat k.ar.toNat k.ts k.ts↔_;rw[QF.wd,j];constructor
 .rintro ⟨x,y,l,o,g,i⟩
  obtain⟨a,b,rfl,_,_⟩:=YJ h j l;obtain⟨c,d,rfl,_,_⟩:=YJ h j o;have g:b=c:=g;have i:[a,d,0]=[u,v,0]:=i
  grind
 .rintro ⟨w,g,i⟩
  exact⟨[u,w,0],[w,v,0],g,i,rfl,rfl⟩
theorem Ux(h:okKd ns k)(g:k.ar=2){u v:Int}:Ed (Zg k) u v↔Ed k u v\/∃ w,Ed k u w/\Ed k w v:=by
 unfold Ed Zg;rw[wH,kA h g]
def Path(k:Kd)(n:Nat)(u v:Int):Prop:=∃ f:Nat->Int,f 0=u/\f n=v/\∀ i,i<n->Ed k (f i) (f (i+1))
theorem Path.one{u v:Int}(h:Ed k u v):Path k 1 u v:=⟨fun i=>if i=0 then u else v,rfl,rfl,fun i g=>by
 grind⟩
theorem Path.comp{n m:Nat}{u w v:Int}(h:Path k n u w)(o:Path k m w v):Path k (n+m) u v:=by
 obtain⟨f,f0,fn,hf⟩:=h;obtain⟨g,p,r,t⟩:=o;refine⟨fun i=>if i<n then f i else g (i-n),?_,?_,fun i C=>?_⟩
 .grind
 .grind
 .by_cases j:i+1<n
  .simp only[if_pos j,if_pos (show i<n by omega)];grind
  .by_cases l:i<n
   .have e:i+1=n:=by omega
    simp only[if_neg j,if_pos l]
    grind
   .simp only[if_neg j,if_neg l,show i+1-n=(i-n)+1 by omega]
    grind
theorem aJ(h:okKd ns k)(J:k.ar=2)(g:ns<=4):∀(N n:Nat) (u v:Int),n<=N->1<=n->Path k n u v->∃ m,1<=m/\m<=4/\Path k m u v
 | 0,n,u,v,P,R,_=>zOm
 | N+1,n,u,v,P,R,T=>by
  by_cases h4:n<=4
  .grind
  obtain⟨f,f0,fn,hf⟩:=T;have U:∀ i,i<5->0<=f i/\f i<4:=fun i t=>by
   grind [YJ]
  obtain⟨i,j,a0,hj,e⟩:∃ i j,i<j/\j<5/\f i=f j:=by
   apply Classical.byContradiction;intro l;have o:((qm 5).map f).Nodup:=List.pairwise_map.2 (List.pairwise_lt_range.imp_of_mem fun {a b} ha hb p e=>l ⟨a,b,p,zY.1 hb,e⟩);have:=jv o (l₂:=[0,1,2,3]) fun x C=>by
    obtain⟨i,t,rfl⟩:=qs.1 C;have:=U i (zY.1 t);simp;omega
   simp at this
  refine aJ h J g N (n-(j-i)) u v zOm zOm ⟨fun x=>if x<i then f x else f (x+(j-i)),?_,?_,fun x C=>?_⟩
  .grind
  .simp only[if_neg (show ¬n-(j-i)<i by omega),show n-(j-i)+(j-i)=n by omega,fn]
  .by_cases r:x+1<i
   .simp only[if_pos r,if_pos (show x<i by omega)];grind
   .by_cases I:x<i
    .have e1:x+1=i:=by omega
     simp only[if_neg r,if_pos I]
     grind
    .simp only[if_neg r,if_neg I,show x+1+(j-i)=(x+(j-i))+1 by omega]
     exact hf _ zOm
theorem Zh(h:okKd ns k)(g:k.ar=2):∀(i:Nat) (u v:Int),Ed (itK i k) u v->∃ n,1<=n/\Path k n u v
 | 0,u,v,j=>⟨1,zOm,.one j⟩
 |i+1,u,v,j=>by
  rcases (Ux (okIt h g i).1 (okIt h g i).2).1 j with j|⟨w,l,o⟩
  .exact Zh h g i u v j
  .obtain ⟨n,r,p⟩:=Zh h g i u w l
   obtain⟨m,t,q⟩:=Zh h g i w v o;exact⟨n+m,zOm,p.comp q⟩
theorem wJ(i:Nat):Sub (itK i k) (itK (i+1) k):=Us _ _
theorem qd1(h:okKd ns k)(g:k.ar=2){m:Nat}{u v:Int}(p:1<=m)(r:m<=4)(o:Path k m u v):Ed (itK 4 k) u v:=by
 obtain⟨f,rfl,rfl,hf⟩:=o;have up:∀{u v},Ed (itK 2 k) u v->Ed (itK 4 k) u v:=fun i=>(wJ 3).2 _ ((wJ 2).2 _ i)
 have s1:∀{u w v},Ed (itK 0 k) u w->Ed (itK 0 k) w v->Ed (itK 1 k) u v:=fun a b=>(Ux (okIt h g 0).1 (okIt h g 0).2).2 (.inr ⟨_,a,b⟩)
 have j:∀{u w v},Ed (itK 1 k) u w->Ed (itK 1 k) w v->Ed (itK 2 k) u v:=fun a b=>(Ux (okIt h g 1).1 (okIt h g 1).2).2 (.inr ⟨_,a,b⟩)
 have l:∀{u v},Ed (itK 0 k) u v->Ed (itK 1 k) u v:=fun i=>(wJ 0).2 _ i
 refine up ?_;rcases (show m=1\/m=2\/m=3\/m=4 by omega) with rfl|rfl|rfl|rfl
 .exact (wJ 1).2 _ (l (hf 0 zOm))
 .exact (wJ 1).2 _ (s1 (hf 0 zOm) (hf 1 zOm))
 .exact j (s1 (hf 0 zOm) (hf 1 zOm)) (l (hf 2 zOm))
 .exact j (s1 (hf 0 zOm) (hf 1 zOm)) (s1 (hf 2 zOm) (hf 3 zOm))
theorem qd2(h:okKd ns k)(g:k.ar=2)(i:ns<=4):YI (itK 4 k):=fun t l=>by
 have ok:=okIt h g 4;have j:=QX ok.1 ok.1 (by rw[ok.2];omega) (by rw[ok.2];omega);obtain⟨u,v,rfl,_,_⟩:=YJ j (by grind [zl]) l;obtain⟨w,o,r⟩:=(kA ok.1 ok.2).1 l;obtain⟨n,C,p⟩:=Zh h g 4 u w o;obtain⟨m,I,q⟩:=Zh h g 4 w v r;obtain⟨c,c1,c4,J⟩:=aJ h g i (n+m) (n+m) u v (qr _) zOm (p.comp q)
 grind [qd1]
theorem Zi{S:Kd}(g:YI S){k:Kd}(h:Sub k S):∀ i,Sub (itK i k) S
 | 0=>h
 |i+1=>⟨(Zi g h i).1,fun t j=>by
  rcases wH.1 j with j|j
  .exact (Zi g h i).2 t j
  .exact g t ((Ur (Zi g h i) (Zi g h i)).2 t j)⟩
theorem kB:∀ i,Sub k (itK i k)
 | 0 => .refl k
 |i+1=>(kB i).trans (wJ i)
theorem qd3(h:okKd ns k)(l:k.ar=2)(g:ns<=4):eRS (qe (itK 4 k))=eRS (qe (kClo k)):=by
 have o:Sub (kClo k) (itK 4 k):=kr (qd2 h l g) 70 0 k (kB 4);have i:Sub (itK 4 k) (kClo k):=Zi (ku g 70 0 k h l zOm (.inl rfl)) (kq 70 0 k) 4;refine vH i.1 fun j p=>?_
 rw[jN,zF,zF,i.1];exact⟨fun x=>⟨x.1,i.2 _ x.2⟩,fun x=>⟨x.1,o.2 _ x.2⟩⟩
end
end QG
namespace QH
open YF Y9 Y2 Y3 P1 P2 PB QD QE QF QG
theorem qd4{ns:Nat}{a:Kd}(h:okKd ns a)(I:a.ar=2)(g:ns<=4):qd qb 167 [eRS (qe a)] (eRS (qe (kClo a))):=by
 refine qSQ call167 func167 rfl { mt:=[1] } ?_;rw[<-qd3 h I g];simp[go_sem];refine⟨qC _,?_⟩;refine fZ 4 (fun i st=>st.tm 1 = .ptr 0 0/\st.tm 2 = .ptr 1 0/\st.tm 3=aI i/\st.mu=[.arr (cRS (qe (itK i a))),.arr (aI 0 :: hB fun _=>false)]) ?_ ?_
 .exact ⟨zSi,zSi,zSi,by simp[go_sem];exact⟨⟨rfl,rfl⟩,rfl⟩⟩
 rintro i st U ⟨l,o,p,J⟩;by_cases r:i<4
 .have j:(i:Int)<4:=by omega
  have P:=zWk i;obtain⟨ok,o2⟩:=okIt h I i;have R:qd qb 164 [eRS (qe (itK i a)),eRS (qe (itK i a))] (eRS (qe (zl (itK i a) (itK i a)))):=by
   rw[<-kz ok ok g zOm];exact Yz _ _ (by show 0<=(itK i a).ar/\(itK i a).ar<=1000;omega) (by show 1<=(itK i a).ar/\(itK i a).ar<=1000;omega)
  have T:qd qb 162 [eRS (qe (itK i a)),eRS (qe (zl (itK i a) (itK i a)))] (eRS (qe (itK (i+1) a))):=by
   have:=vG (qe (itK i a)) (qe (zl (itK i a) (itK i a)));rw[Zf (by simp only[zl];omega)]at this;exact this
  generalize t:qe (itK (i+1) a)=s' at *
  generalize qe (zl (itK i a) (itK i a))=q at *
  generalize qe (itK i a)=s at *
  simp[go_sem,p,J,j];refine aQ zKr ?_;simp[go_sem,l,qh,tk];refine fG R (.zk (zz _) (.zk (zz _) .nil)) ?_;refine cA T (.zk (zz _) (.zk (zz _) .nil)) ?_;simp[go_sem,l,qh,pc];rw[if_pos (qC _)];simp[go_sem,p,P];exact⟨r,aK ⟨zS1 l,zS1 o,zSi,zS1 t⟩⟩
 .have C:i=4:=by omega
  subst C;generalize qe (itK 4 a)=s at *
  simp[go_sem,l,o,p,J,qh,tk,pc];rw[if_pos (qC _)];simp[go_sem,o,qh,tk];exact .hf _ (zz s)
theorem qd5(i k:Nat)(g:k=1\/k=2):eRS (qe (kSum (zg i k) (kOf (zd k (i:Int)))))=eRS (qe (zg (i+1) k)):=by
 refine vH rfl fun j l=>?_
 rw[jN,zF,zF];show j<szA (k:Int)/\pad (dig (k:Int) j)∈(kSum (zg i k) (kOf (zd k (i:Int)))).ts↔j<szA (k:Int)/\pad (dig (k:Int) j)∈(qm (i+1)).map fun (x:Nat)=>pad (zd k (x:Int))
 rw[wH,List.range_succ,yv,qR];rfl
theorem qd6(k:Nat):hB (qe (zg 0 k)).2=hB fun _=>false:=jI fun j _=>decide_eq_false fun h=>absurd h.2 zb
theorem allU(ts:TS)(h:okTS ts)(k:Nat)(R:k=1\/k=2):qd qb 161 [eTS ts,aI k] (eRS (qe (zg ts.sS.length k))):=by
 refine qSV call161 func161 rfl ?_;have a0:=h.ns;have hz:=qd6 k;simp[go_sem];refine fZ ts.sS.length (fun i st=>st.tm 1=aI k/\st.tm 2 = .ip (cTS ts)/\st.tm 4 = .ptr 0 0/\st.tm 5 = .ptr 1 0/\st.tm 6=aI i/\st.mu=[.arr (aI 0 :: hB fun _=>false),.arr (cRS (qe (zg i k)))]) ?_ ?_
 .exact ⟨zSi,zSi,zSi,zSi,zSi,by
   have e:cRS (qe (zg 0 k))=aI k :: hB fun _=>false:=by simp only[cRS,hz];rfl
   rw[e];simp[go_sem];first|rfl|exact⟨rfl,rfl⟩⟩
 rintro i st hi ⟨C,r,I,j,o,J⟩;by_cases g:i<ts.sS.length
 .have T:=zWk i
  have c1:∀ l:List Int,l=zd k (i:Int)->qd qb 144 [lI l] (eRS (qe (kOf l))):=fun l p=>by
   have U:l.length=k:=by rw[p,List.length_replicate]
   have:=oneU l zOm;rw[Up]at this;rw[<-QF.Uw (l:=l) zOm (fun x hx=>by rw[p]at hx;rw[List.eq_of_mem_replicate hx];omega)];exact this
  have cu:∀ l:List Int,l=zd k (i:Int)->qd qb 162 [eRS (qe (zg i k)),eRS (qe (kOf l))] (eRS (qe (zg (i+1) k))):=fun l p=>by
   have:=vG (qe (zg i k)) (qe (kOf l));rw[Zf (by show (k:Int)=l.length;rw[p,List.length_replicate]),p,qd5 i k R]at this;rw[p];exact this
  generalize t:qe (zg (i+1) k)=s' at *
  generalize qe (zg i k)=s at *
  rcases R with rfl|rfl
  .have d1:=c1 [(i:Int)] rfl
   have d2:=cu [(i:Int)] rfl;generalize qe (kOf [(i:Int)])=q at *
   simp[go_sem,C,r,o,J,g];refine aQ zKr ?_;simp[go_sem,j,o,qh,tk];refine fG d1 (.cons (QD.wk1 _) .nil) ?_;refine cA d2 (.zk (zz _) (.zk (zz _) .nil)) ?_;simp[go_sem,j,qh,pc];rw[if_pos (qC _)];simp[go_sem,o,T];exact⟨g,aK ⟨zS1 C,zS1 r,zS1 I,zS1 j,zSi,zS1 t⟩⟩
  .have d1:=c1 [(i:Int),(i:Int)] rfl
   have d2:=cu [(i:Int),(i:Int)] rfl;generalize qe (kOf [(i:Int),(i:Int)])=q at *
   simp[go_sem,C,r,o,J,g];refine aQ zKr ?_;simp[go_sem,j,o,qh,tk];refine fG d1 (.cons (QD.wk2 _ _) .nil) ?_;refine cA d2 (.zk (zz _) (.zk (zz _) .nil)) ?_;simp[go_sem,j,qh,pc];rw[if_pos (qC _)];simp[go_sem,o,T];exact⟨g,aK ⟨zS1 C,zS1 r,zS1 I,zS1 j,zSi,zS1 t⟩⟩
 .have P:i=ts.sS.length:=by omega
  subst P;generalize qe (zg ts.sS.length k)=s at *
  simp[go_sem,r,I,j,o,J,qh,tk,pc];rw[if_pos (qC _)];simp[go_sem,I,qh,tk];exact .hf _ (zz s)
end QH
namespace QI
open YF Y9 Y10 Y1 Y2 P1 P2
section
variable {nm:cD}
theorem qd7{c:Ck}{k:Nat}(l:k<c.calls)(o:k<c.ts.sT.length)(h:c.ts.sT[k].name=nm)(i:∀(j:Nat) (g:j<c.ts.sT.length),j<k->c.ts.sT[j].name≠nm):zh c nm=some k:=by
 unfold zh;rw[List.findIdx?_eq_some_iff_getElem];refine⟨zSo,zP1 h,fun j g=>?_⟩;simp[i j zOm g]
theorem qd8{c:Ck}(i:∀(j:Nat) (g:j<c.ts.sT.length),j<c.calls->c.ts.sT[j].name≠nm):zh c nm=none:=by
 unfold zh;rw[List.findIdx?_eq_none_iff];intro p l;obtain⟨j,g,e⟩:=List.mem_iff_getElem.1 l;simp at g;rw[List.getElem_take]at e;rw[<-e];exact decide_eq_false (i j zOm zOm)
abbrev idxO:Option Nat->Int
 |some i=>i
 |none => -1
theorem YK(c:Ck)(P:okCk c)(nm:cD):qd qb 107 [eTS c.ts,aI c.calls,aS nm] (aI (idxO (zh c nm))):=by
 refine qSV call107 func107 rfl ?_;have R:=P.calls;have T:=P.ts.np;simp[go_sem];refine fZ c.calls (fun k st=>st.tm 1=aI c.calls/\st.tm 2=aS nm/\st.tm 3 = .ip (cTS c.ts)/\st.tm 7=aI k/\∀(j:Nat) (p:j<c.ts.sT.length),j<k->c.ts.sT[j].name≠nm) ?_ ?_
 .exact ⟨zSi,zSi,zSi,zSi,fun j p h=>zOm⟩
 rintro k st hk ⟨l,r,t,C,I⟩;by_cases g:k<c.calls
 .have U:=zWk k
  have i:k<c.ts.sT.length:=zOm;by_cases o:c.ts.sT[k].name=nm
  .rw [qd7 g i o I]
   simp[go_sem,l,r,t,C,g,i,o];exact .zsc _
  .simp [go_sem,l,r,t,C,g,i,j7 o,U]
   refine aK ⟨zS1 l,zS1 r,zS1 t,zSi,fun j p a0=>?_⟩;by_cases he:j=k
   .subst he;exact o
   .exact I j p zOm
 .have J:k=c.calls:=by omega
  subst J;rw[qd8 I];simp[go_sem,l,C];exact .zsc _
theorem wK(op:Int):qd qb 137 [aI op] (aB (zL op)):=by
 refine qSV call137 func137 rfl ?_;by_cases g:op=5
 .rw [show zL op=true by simp[zL,g]]
  simp[go_sem,g];exact .zsc _
 by_cases i:48<=op
 .by_cases j:op<=51
  .rw [show zL op=true by unfold zL;rcases (show op=48\/op=49\/op=50\/op=51 by omega) with h|h|h|h<;>simp[h]]
   simp[go_sem,g,i,j];exact .zsc _
  .rw [show zL op=false by simp[zL,g,show ¬op=48 by omega,show ¬op=49 by omega,show ¬op=50 by omega,show ¬op=51 by omega]]
   simp[go_sem,g,i,j];exact .zsc _
 .rw [show zL op=false by simp[zL,g,show ¬op=48 by omega,show ¬op=49 by omega,show ¬op=50 by omega,show ¬op=51 by omega]]
  simp[go_sem,g,i];exact .zsc _
abbrev rBo(b:Bool):List AV:=[aB b]
abbrev lBo(l:List Bool):AV := .lst false (l.map rBo)
theorem Zj(l:List Bool):HF (lBo l):=HF.lst fun r i c g=>by
 obtain⟨b,_,rfl⟩:=qs.1 i;rw[qV]at g;subst g;exact HF.sc _
def tpB(c:Ck)(nm:cD):Bool:=match zh c nm with|some p=>c.timed.getD p false|none=>false
theorem wL(c:Ck)(o:okCk c)(nm:cD):qd qb 138 [eTS c.ts,lBo c.timed,aI c.calls,aS nm] (aB (tpB c nm)):=by
 generalize i:tpB c nm=r;unfold tpB at i;refine qSU call138 func138 rfl ?_;refine cA (YK c o nm) (.zk (qG _) (.zs (.zs .nil))) ?_;cases j:zh c nm with
 |none =>
  rw[j]at i;subst i;simp[go_sem,idxO];exact .zsc _
 |some p =>
  rw[j]at i;by_cases l:p<c.timed.length
  .have g:r=c.timed[p]:=by rw[<-i];simp[List.getD,l]
   subst g;simp[go_sem,idxO,l];exact .zsc _
  .have g:r=false:=by rw[<-i];simp[List.getD,l]
   subst g;simp[go_sem,idxO,l];exact .zsc _
theorem kC(c:Ck)(hc:okCk c)(hl:c.timed.length=c.calls):∀(m:Nat) (n:Nd),szN n<=m->jD n->qd qb 143 [eTS c.ts,lBo c.timed,eNd n] (aB (ye c n))
 | 0,n,hm,_=>by obtain⟨op,nm,i,ks,p⟩:=n;simp[szN]at hm
 |m+1,n,hm,hs=>by
  have ih:∀ k,k∈n.sM->qd qb 143 [eTS c.ts,lBo c.timed,eNd k] (aB (ye c k)):=fun k J =>
   kC c hc hl m k (zW1 (jC J)) (hs.kid J)
  have a0:=hs.len;have P:yo c n.op n.name=(zL n.op||(decide (n.op=47)&&tpB c n.name)):=rfl;rw[mA,P];generalize hR:n.sM.any (ye c)=R;have ct:=wK n.op;have cp:=wL c hc n.name;generalize zL n.op=T at *
  generalize tpB c n.name=B at *
  refine qSU call143 func143 rfl ?_;refine cA ct (.zs .nil) ?_;cases T with
  |true =>
   simp[go_sem];exact .zsc _
  |false =>
  rw[Bool.false_or];by_cases h47:n.op=47
  .rw [decide_eq_true h47,Bool.true_and]
   simp[go_sem,h47,hl];refine cA cp (.zk (qG _) (.zk (Zj _) (.zs (.zs .nil)))) ?_;cases B with
   |true =>
    simp[go_sem];exact .zsc _
   |false =>
   rw[Bool.false_or];simp[go_sem];refine fZ n.sM.length (fun k st=>st.tm 1=lBo c.timed/\st.tm 3 = .ip (cTS c.ts)/\st.tm 5 = .ip (cNd n)/\st.tm 7=aI k/\(n.sM.drop k).any (ye c)=R) ?_ ?_
   .exact ⟨zSi,zSi,zSi,zSi,zUs hR⟩
   rintro k st J ⟨t,C,l,o,j⟩;by_cases r:k=n.sM.length
   .subst r
    rw[yQ]at j;have j:R=false:=by rw[<-j];rfl
    subst j;simp[go_sem,l,o];exact .zsc _
   have g:k<n.sM.length:=zOm;have U:=zWk k;rw[zH g,List.any_cons]at j;have hi:=ih n.sM[k] (qo g);simp[go_sem,l,o,g];refine aQ zKr ?_;simp[go_sem,t,C,l,o,g];refine cA hi (.zk (qG _) (.zk (Zj _) (.zk (zV _) .nil))) ?_;cases I:ye c n.sM[k] with
   |true =>
    rw[I,Bool.true_or]at j;subst j;simp[go_sem];exact .zsc _
   |false =>
    rw[I,Bool.false_or]at j;simp[go_sem,o,g,U];exact aK ⟨zS1 t,zS1 C,zS1 l,zSi,j⟩
  .rw [decide_eq_false h47,Bool.false_and,Bool.false_or]
   simp[go_sem,h47];refine fZ n.sM.length (fun k st=>st.tm 1=lBo c.timed/\st.tm 3 = .ip (cTS c.ts)/\st.tm 5 = .ip (cNd n)/\st.tm 7=aI k/\(n.sM.drop k).any (ye c)=R) ?_ ?_
   .exact ⟨zSi,zSi,zSi,zSi,zUs hR⟩
   rintro k st J ⟨t,C,l,o,j⟩;by_cases r:k=n.sM.length
   .subst r
    rw[yQ]at j;have j:R=false:=by rw[<-j];rfl
    subst j;simp[go_sem,l,o];exact .zsc _
   have g:k<n.sM.length:=zOm;have U:=zWk k;rw[zH g,List.any_cons]at j;have hi:=ih n.sM[k] (qo g);simp[go_sem,l,o,g];refine aQ zKr ?_;simp[go_sem,t,C,l,o,g];refine cA hi (.zk (qG _) (.zk (Zj _) (.zk (zV _) .nil))) ?_;cases I:ye c n.sM[k] with
   |true =>
    rw[I,Bool.true_or]at j;subst j;simp[go_sem];exact .zsc _
   |false =>
    rw[I,Bool.false_or]at j;simp[go_sem,o,g,U];exact aK ⟨zS1 t,zS1 C,zS1 l,zSi,j⟩
theorem Uy(l:List Bool):za 1 (l.map rBo):=fun r g=>by
 obtain⟨b,_,rfl⟩:=qs.1 g;exact⟨rfl,rfl⟩
theorem appBo{mu:Mu}{lo:Nat}{s:AV}{xs:List Bool}{b:Bool}{K:AV->Mu->Prop}(g:OwnF lo mu 1 s (xs.map rBo))(t:xs.length<=100000)(o:∀ av p,OwnF lo p 1 av ((xs++[b]).map rBo)->(∀ i,i<lo->p[i]?=mu[i]?)->K av p) :
  qI qb mu #[97,97] s (.lst true [[aB b]]) K:=by
 refine qI.ownF (lo:=lo) (e:=4) (sz:=1) (bt:=1) (zv:=aB false) (xs:=xs.map rBo) (ys:=[rBo b]) zSi zSi zSi rfl rfl zOm zOm g (by simp[qE]) (Uy xs) (Uy [b]) zSo ?_;intro av p h r;exact o av p (by rw[yv];exact h) r
theorem rdBo{lo:Nat}{mu:Mu}{av:AV}{l:List Bool}(i:OwnF lo mu 1 av (l.map rBo)):Rd mu av (lBo l):=
 Own.rd (sz:=1) i.1 (Uy l).ok fun r o c g=>by
  obtain⟨b,_,rfl⟩:=qs.1 o;rw[qV]at g;subst g;exact HF.sc _
theorem qd9(ts:TS)(h:okTS ts)(T:∀ p,p∈ts.sT->WfN p.body):qd qb 110 [eTS ts] (lBo (tmsL ts ts.sT.length)):=by
 refine qSV call110 func110 rfl ?_;have U:=h.np;simp[go_sem];refine fZ ts.sT.length (fun k st=>st.tm 1 = .ip (cTS ts)/\st.tm 4=aI k/\OwnF 0 st.mu 1 (st.tm 3) ((tmsL ts k).map rBo)) ?_ ?_
 .exact ⟨zSi,zSi,by simp[go_sem,tmsL];exact OwnF.nil (Zq _)⟩
 rintro k st hk ⟨j,l,o⟩;by_cases g:k<ts.sT.length
 .have w1:=zWk k
  generalize r:st.tm 3=P at *
  have t:=rdBo o;have ht:=kC (mkCk ts k) (Yk h zOm) (wo ts k zOm) (szN ts.sT[k].body) ts.sT[k].body (qr _) (T _ (qo g)).small;have R:=wo ts k zOm;have i:tmsL ts (k+1)=tmsL ts k++[ye (mkCk ts k) ts.sT[k].body]:=by
   show tmsL ts k++(match ts.sT[k]? with|some p=>[ye ⟨ts,k,tmsL ts k⟩ p.body] | none=>[])=_;rw[qq g];rfl
  simp[go_sem,j,l,g];refine aQ zKr ?_;simp[go_sem,j,l,r,g];refine fB (args':=[eTS ts,lBo (tmsL ts k),eNd ts.sT[k].body]) ht ⟨.hf _ (qG ts),t,.hf _ (zV _),trivial⟩ (FL.sc _) ?_;simp[go_sem];refine appBo o zOm fun a0 m' I _=>?_
  simp[go_sem,l,g,w1];exact aK ⟨zS1 j,zSi,by rw[i];simpa[go_sem] using I⟩
 .have J:k=ts.sT.length:=by omega
  subst J;generalize r:st.tm 3=P at *
  simp[go_sem,j,l,r];exact rdBo o
end
end QI
namespace QJ
open YF Y1 P1 QD QE QF
abbrev Vr:=cD×RS
abbrev cVr(v:Vr):List AV:=aS v.1 :: cRS v.2
abbrev lVr(l:List Vr):AV := .lst false (l.map cVr)
theorem kD(v:Vr):∀ c,c∈cVr v->HF c:=fun c g=>by
 rcases qp.1 g with rfl|g
 .exact HF.sc _
 .exact ((setC v.2).sc c g).2
theorem qeA(l:List Vr):HF (lVr l):=HF.lst fun r g c i=>by
 obtain⟨v,_,rfl⟩:=qs.1 g;exact kD v c i
theorem Uz(v:Vr):∀ c,c∈cVr v->c.one=true:=fun c g=>by
 rcases qp.1 g with rfl|g
 .rfl
 .exact ((setC v.2).sc c g).1
theorem UA(l:List Vr):za 66 (l.map cVr):=fun r g=>by
 obtain⟨v,_,rfl⟩:=qs.1 g;exact⟨by simp[hB],qu.2 (Uz v)⟩
theorem UB{mu:Mu}{lo:Nat}{s x:AV}{xs ys:List Vr}{K:AV->Mu->Prop}(g:OwnF lo mu 66 s (xs.map cVr))(l:qE mu x=some (ys.map cVr))(t:xs.length+ys.length<=100000)(o:∀ av p,OwnF lo p 66 av ((xs++ys).map cVr)->(∀ i,i<lo->p[i]?=mu[i]?)->K av p) :
  qI qb mu #[179,179] s x K:=by
 refine qI.ownF (lo:=lo) (e:=209) (sz:=66) (bt:=88) (zv := .agg (aS ⟨#[]⟩ :: aI 0 :: zs)) (xs:=xs.map cVr) (ys:=ys.map cVr) zSi zSi (by simp[go_sem];rfl) rfl rfl zOm zOm g l (UA xs) (UA ys) zSo ?_;intro av p h r;exact o av p (by rw[yv];exact h) r
theorem rdVr{lo:Nat}{mu:Mu}{av:AV}{l:List Vr}(g:OwnF lo mu 66 av (l.map cVr)):Rd mu av (lVr l):=
 Own.rd (sz:=66) g.1 (UA l).ok fun r i c o=>by
  obtain⟨v,_,rfl⟩:=qs.1 i;exact kD v c o
theorem pcV(n:cD)(q:RS):qH (aS n :: aI 0 :: zs) 1 (aI q.1 :: hB q.2)=cVr (n,q):=by
 have g:zs.length=64:=rfl;rw[y0 _ _ _ (by simp[qh,g])];simp[qh,g,List.drop_of_length_le]
def envV(env:List (cD×Int)):List Vr:=env.map fun p=>(p.1,qe (kOf [p.2]))
theorem envU(env:List (cD×Int))(hl:env.length<=1000)(hr:∀ p,p∈env->0<=p.2/\p.2<4):qd qb 111 [lPm env] (lVr (envV env)):=by
 refine qSU call111 func111 rfl ?_;refine fZ env.length (fun k st=>st.tm 0=lPm env/\st.tm 4=aI k/\OwnF 0 st.mu 66 (st.tm 3) ((envV (env.take k)).map cVr)) ?_ ?_
 .exact ⟨zSi,zSi,by simp[go_sem,envV];exact OwnF.nil (Zq _)⟩
 rintro k st hk ⟨j,o,r⟩;by_cases g:k<env.length
 .have w1:=zWk k
  generalize t:st.tm 3=P at *
  have hp:=hr _ (qo g);have c1:qd qb 144 [lI [env[k].2]] (eRS (qe (kOf [env[k].2]))):=by
   have:=oneU [env[k].2] zSp;rw[Up]at this;rw[<-QF.Uw (l:=[env[k].2]) zSp (fun x hx=>by rw[qV]at hx;subst hx;exact hp)];exact this
  have i:envV (env.take (k+1))=envV (env.take k)++[(env[k].1,qe (kOf [env[k].2]))]:=by
   unfold envV;rw[ua g,yv];rfl
  have a0:(envV (env.take k)).length=k:=by simp[envV];omega
  generalize qe (kOf [env[k].2])=q at *
  simp[go_sem,j,o,g];refine aQ zKr ?_;simp[go_sem,j,o,t,g];refine fG c1 (.cons (QD.wk1 _) .nil) ?_;rw[if_pos ⟨qh _,qC _⟩];generalize hC:qH _ 1 _=C;have I:C=cVr (env[k].1,q):=by rw[<-hC];exact pcV _ _
  subst I;clear hC;have J:(cVr (env[k].1,q)).length=66:=by simp[qh]
  have R:=Uz (env[k].1,q);generalize hV:cVr (env[k].1,q)=V at *
  simp[go_sem,J];rw[if_pos R];simp[go_sem];refine UB (ys:=[(env[k].1,q)]) r (by simp[qE,hV]) zSo fun a1 m' T _=>?_
  simp[go_sem,o,g,w1];exact aK ⟨zS1 j,zSi,by rw[i];simpa[go_sem] using T⟩
 .have U:k=env.length:=by omega
  subst U;rw[zt]at r;generalize t:st.tm 3=P at *
  simp[go_sem,j,o,t];exact rdVr r
end QJ
namespace QK
open Y9 Y2 P1 QD QE QF
def fin(c:List AV)(l:List Kd):List AV:=match l.getLast? with|some k=>cRS (qe k)|none=>c
theorem Zk(c:List AV)(l m:List Kd):fin c (l++m)=fin (fin c l) m:=by
 unfold fin;rw[List.getLast?_append];cases m.getLast?<;>rfl
theorem YL(c:List AV)(k:Kd):fin c [k]=cRS (qe k):=rfl
theorem oneK{l:List Int}(h:1<=l.length/\l.length<=3)(g:∀ x,x∈l->0<=x/\x<4):oneC l=cRS (qe (kOf l)):=by
 rw[Up];exact AV.agg.inj (QF.Uw h g)
theorem kE(nm:cD):∀(l:List Fld) (c:List AV) (k:Nat),(∀ f,f∈l->(1<=f.sS.length/\f.sS.length<=3)/\∀ x,x∈f.sS->0<=x/\x<4)->nmF nm l (c,k)=(fin c (j9 l nm),k+(j9 l nm).length)
 | [],c,k,_=>rfl
 |f :: l,c,k,h=>by
  have hf:=h f (q8 ..);have j:=fun c k=>kE nm l c k fun g o=>h g (qJ _ o)
  by_cases i:f.name=nm
  .have e:j9 (f :: l) nm=[kOf f.sS]++j9 l nm:=by simp[j9,i]
   rw[e,Zk,YL];simp only[nmF,stF,if_pos i];rw[j,oneK hf.1 hf.2];simp;omega
  .have e:j9 (f :: l) nm=j9 l nm:=by simp[j9,i]
   rw[e];simp only[nmF,stF,if_neg i];exact j c k
theorem st_eq(nm:cD)(i:Nat)(C:i<4)(x:cD×Bool)(c:List AV)(k:Nat):st3 nm i x (st2 nm i x (st1 nm i x (c,k)))=(fin c (Qu i x nm),k+(Qu i x nm).length):=by
 have j:=oneK (l:=[(i:Int)]) zSp (fun y g=>by simp at g;subst g;omega);have o:=oneK (l:=[(i:Int),(i:Int)]) zSp (fun y g=>by simp at g;rcases g with rfl|rfl<;>omega);have p:∀ c k,st1 nm i x (c,k)=(fin c (if x.1=nm then [kOf [(i:Int)]] else []),k+(if x.1=nm then [kOf [(i:Int)]] else []).length):=fun c k=>by
  unfold st1;split
  .rw [YL,j];rfl
  .rfl
 have r:∀ c k,st2 nm i x (c,k)=(fin c (if x.2=true/\x.1++Qs=nm then [kOf [(i:Int)]] else []),k+(if x.2=true/\x.1++Qs=nm then [kOf [(i:Int)]] else []).length):=fun c k=>by
  unfold st2;split
  .rw [YL,j];rfl
  .rfl
 have t:∀ c k,st3 nm i x (c,k)=(fin c (if x.2=true/\x.1++Qt=nm then [kOf [(i:Int),(i:Int)]] else []),k+(if x.2=true/\x.1++Qt=nm then [kOf [(i:Int),(i:Int)]] else []).length):=fun c k=>by
  unfold st3;split
  .rw [YL,o];rfl
  .rfl
 unfold Qu;rw[p,r,t,Zk,Zk,zc,zc];simp only[Nat.add_assoc]
theorem kF(nm:cD):∀(l:List (cD×Bool)) (i:Nat) (c:List AV) (k:Nat),i+l.length<=4->nmS nm i l (c,k)=(fin c (vY i l nm),k+(vY i l nm).length)
 | [],i,c,k,_=>rfl
 |x :: l,i,c,k,h=>by
  simp only[zZ]at h;have g:=fun c k=>kF nm l (i+1) c k zOm
  simp only[nmS,vY];rw[st_eq nm i zOm,g,Zk,zc,Nat.add_assoc]
theorem qeB{ts:TS}(h:okTS ts)(nm:cD):named ts nm=(fin (aI 0 :: zs) (vy ts nm),(vy ts nm).length):=by
 unfold named vy;rw[kE nm ts.sA _ _ fun f hf=>?_,kF nm ts.sS _ _ _ (zW1 h.ns),Zk,zc,yw];have:=h.fl f hf;have g:=h.ns;exact⟨zOm,fun x i=>zW1 (this.2.2 x i)⟩
end QK
namespace QL
open YF Y9 Y1 Y2 P1 QD QE QF QI QJ QK
abbrev cVw(c:Ck)(inn:Bool):List AV:=[lSo c.ts.sS,lFl c.ts.sA,lPd c.ts.sT,lFa c.ts.sP,lBo c.timed,aI c.calls,aB inn]
abbrev eVw(c:Ck)(inn:Bool):AV := .agg (cVw c inn)
def envS(s:Scp):List Vr:=s.reverse.map fun v=>(v.1,qe v.2)
theorem YN(s:Scp):(envS s).length=s.length:=by simp[envS]
theorem kG(env:List (cD×Int)):envV env=envS (vZ env):=by
 have h:∀(l:List (cD×Int)) (a:Scp),l.foldl (fun s p=>(p.1,kOf [p.2]) :: s) a=(l.map fun p=>(p.1,kOf [p.2])).reverse++a:=by
  intro l;induction l with
  |nil=>intro a;rfl
  |cons p l g=>intro a;rw[List.foldl_cons,g];simp
 unfold envV envS vZ;rw[h,zA,List.reverse_reverse,List.map_map];rfl
theorem qeC(s:Scp)(d:Nat)(h:d<s.length)(g:s.length-1-d<(envS s).length):(envS s)[s.length-1-d]=(s[d].1,qe s[d].2):=by
 have e:s.length-1-(s.length-1-d)=d:=zOm;simp[envS,List.getElem_reverse,e]
abbrev zR:RS:=(0,fun _=>false)
abbrev eDg(d:Dg):AV := .agg [aI d.1,aI d.2]
def endR(z:RS):Res->AV
 | .error e => .tup [eRS z,eDg e]
 | .ok (some k) => .tup [eRS (qe k),eDg (0,0)]
 | .ok none => .tup [eRS zR,eDg (0,0)]
theorem yO(s:RS)(d:Dg):HF (.tup [eRS s,eDg d]):=HF.tup fun x g=>by
 rcases qp.1 g with rfl|g
 .exact zz s
 .rw [qV]at g;subst g
  exact HF.agg fun c i=>by
   rcases qp.1 i with rfl|i
   .exact HF.sc _
   .rw [qV]at i;subst i;exact HF.sc _
theorem aL{ts:TS}(h:okTS ts):okNm ts:=⟨h.sl,zW1 h.ns,zW1 h.nf,fun f hf=>zW1 (h.fl f hf)⟩
theorem nameU(c:Ck)(hc:okCk c)(inn:Bool)(s:Scp)(n:Nd)(hs:s.length<=100000):qd qb 139 [eVw c inn,lVr (envS s),eNd n] (endR zR (yA c s n.name n.pos)):=by
 generalize i:endR zR (yA c s n.name n.pos)=R;unfold yA at i;refine qSV call139 func139 rfl ?_;have a0:=YN s;have w0:qx.wrap ((s.length:Int)-1)=(s.length:Int)-1:=zWr;simp[go_sem,a0,w0];refine fZ s.length (fun d st=>st.tm 1=lVr (envS s)/\st.tm 3 = .ip (cVw c inn)/\st.tm 5 = .ip (cNd n)/\st.tm 6 = .ptr 0 0/\st.tm 7 = .ptr 1 0/\st.tm 8=aI ((s.length:Int)-1-d)/\st.mu=[.arr (aI 0 :: hB fun _=>false),.arr [aI 0,aI 0]]/\jb n.name (s.drop d)=jb n.name s) ?_ ?_
 .exact ⟨zSi,zSi,zSi,zSi,zSi,zSi,by simp[go_sem];first|rfl|exact⟨rfl,rfl⟩,rfl⟩
 rintro d st hd ⟨e1,e3,r,p,I,j,hm,t⟩;by_cases J:d<s.length
 .have T:s.length-1-d<(envS s).length:=by omega
  have g:=qeC s d J T;obtain⟨e,he⟩:∃ e:Nat,e=s.length-1-d:=⟨_,rfl⟩;have a1:(s.length:Int)-1-d=(e:Int):=zOm;rw[a1]at j;rw[<-he]at T;have g:(envS s)[e]=(s[d].1,qe s[d].2):=by simp only[he];exact g
  have w1:qx.wrap ((e:Int)-1)=(s.length:Int)-1-((d+1:Nat):Int):=by rw[zWr];omega
  rw[zH J]at t;have h0:(0:Int)<=(e:Int):=zOm;by_cases hq:s[d].1=n.name
  .have hf:jb n.name s=s[d] :: s.drop (d+1):=by rw[<-t,jb,if_pos hq]
   rw[hf]at i;simp only[endR]at i;have i:R = .tup [eRS (qe s[d].2),eDg (0,0)]:=i.symm;subst i;simp[go_sem,j,hm];refine aQ zKr ?_;simp[go_sem,e1,j,T,g,hq];generalize qe s[d].2=q at *
   simp[go_sem,e1,r,p,j,T,g,qh,tk,pc];rw[if_pos (qC _)];simp[go_sem,p,I,qh,tk];exact .hf _ (yO q (0,0))
  .rw [jb,if_neg hq]at t
   simp[go_sem,j,hm];refine aQ zKr ?_;simp[go_sem,e1,r,j,T,g,j7 hq,w1,qh];exact⟨zOm,aK ⟨zS1 e1,zS1 e3,zS1 r,zS1 p,zS1 I,zSi,zSi,t⟩⟩
 .have a2:d=s.length:=by omega
  subst a2;have j:st.tm 8=aI (-1):=by rw[j];congr 2;omega
  rw[yQ]at t;rw[<-t]at i;simp only[jb]at i;have hN:=qdN c.ts (aL hc.ts) n.name;have U:=qdM c.ts n.name;rw[qeB hc.ts]at hN U;simp[go_sem,e3,r,j,hm];refine cA hN (.zk (qG _) (.zs .nil)) ?_;have o:SetC (fin (aI 0 :: zs) (vy c.ts n.name)):=U;generalize a3:vy c.ts n.name=ms at *
  match ms,a3 with
  | [],_ =>
   simp only[endR]at i;subst i;generalize fin (aI 0 :: zs) []=C at *
   simp[go_sem,o.len];rw[if_pos o.one];simp[go_sem];refine fD [0,1,2,3,4,5] [(0,0,[]),(1,0,[]),(2,0,[]),(3,0,[]),(4,1,[2]),(5,1,[])] zKr zKr zSi ?_;simp[go_sem,r,p,I,Xm,qh];exact .hf _ (yO zR (_,n.pos))
  | [k],_ =>
   simp only[endR]at i;subst i;have e:fin (aI 0 :: zs) [k]=aI (qe k).1 :: hB (qe k).2:=rfl;rw[e]at o⊢;generalize qe k=q at *
   simp[go_sem,o.len];rw[if_pos (qC _)];generalize hP:qH _ 0 (aI q.1 :: hB q.2)=P;have a4:P=aI q.1 :: hB q.2:=by rw[<-hP];exact pc (aI 0) _ (fun _=>false) _
   subst a4;clear hP;simp[go_sem,p,o.len,qh,tk,pc];rw[if_pos (qC _)];simp[go_sem,p,I,o.len,tk];exact .hf _ (yO q (0,0))
  |k1 :: k2 :: l,_ =>
   simp only[endR]at i;subst i;generalize fin (aI 0 :: zs) (k1 :: k2 :: l)=C at *
   simp[go_sem,o.len];rw[if_pos o.one];simp[go_sem];have a5:¬((l.length:Int)+1+1=0):=zOm;have a6:(1:Int)<(l.length:Int)+1+1:=zOm;simp[go_sem,a5,a6];refine fD [0,1,2,3,4,5] [(0,0,[]),(1,0,[]),(2,0,[]),(3,0,[]),(4,1,[2]),(5,1,[])] zKr zKr zSi ?_;simp[go_sem,r,p,I,Xm,qh];exact .hf _ (yO zR (_,n.pos))
end QL
namespace QM
open Y1
theorem qeD(n:Nd):qd qb 108 [eNd n] (aB (decide (30<=n.op))):=by
 refine qSV call108 func108 rfl ?_;by_cases h:30<=n.op
 .simp [go_sem,h];exact .zsc _
 .simp [go_sem,h];exact .zsc _
end QM
namespace QN
open Y1 Y2 YF Y9 P1 P2 QD QE QF QH QL
def setO:Option Kd->RS
 |some k=>qe k
 |none=>zR
abbrev lRS(l:List RS):AV := .lst false (l.map cRS)
theorem qeE(v:RS):∀ c,c∈cRS v->HF c:=fun c g=>((setC v).sc c g).2
theorem qeF(v:RS):∀ c,c∈cRS v->c.one=true:=fun c g=>((setC v).sc c g).1
theorem UC(l:List RS):za 65 (l.map cRS):=fun r g=>by
 obtain⟨v,_,rfl⟩:=qs.1 g
 grind [hB,qu,qeF]
theorem appRS{mu:Mu}{lo:Nat}{s x:AV}{xs ys:List RS}{K:AV->Mu->Prop}(g:OwnF lo mu 65 s (xs.map cRS))(l:qE mu x=some (ys.map cRS))(o:xs.length+ys.length<=100000)(r:∀ av p,OwnF lo p 65 av ((xs++ys).map cRS)->(∀ i,i<lo->p[i]?=mu[i]?)->K av p) :
  qI qb mu #[203,203] s x K:=by
 refine qI.ownF (lo:=lo) (e:=173) (sz:=65) (bt:=72) (zv := .agg (aI 0 :: zs)) (xs:=xs.map cRS) (ys:=ys.map cRS) zSi zSi (by simp[go_sem];rfl) rfl rfl zOm zOm g l (UC xs) (UC ys) zSo ?_
 grind
theorem rdRS{lo:Nat}{mu:Mu}{av:AV}{l:List RS}(g:OwnF lo mu 65 av (l.map cRS)):Rd mu av (lRS l):=
 Own.rd (sz:=65) g.1 (UC l).ok fun r i c o=>by
  obtain⟨v,_,rfl⟩:=qs.1 i;exact qeE v c o
theorem yu(s:RS)(b:Bool):HF (.tup [eRS s,aB b]):=HF.tup fun x g=>by
 rcases qp.1 g with rfl|g
 .exact zz s
 grind [qV,HF.sc]
def ApE(op:Int):Res->RS->Bool->Prop
 | .ok k,S,b=>b=true/\(kd op=101->∃ q,k=some q/\S=qe q)
 | .error _,S,b=>b=false
theorem wkS1(a:RS):WKs [eRS a] [eRS a] := .zk (zz _) .nil
theorem wkS2(a b:RS):WKs [eRS a,eRS b] [eRS a,eRS b] := .zk (zz _) (.zk (zz _) .nil)
theorem wkTI(ts:TS)(k:Int):WKs [eTS ts,aI k] [eTS ts,aI k] := .zk (qG _) (.zs .nil)
theorem kH(n:Int):eRS (n,fun _=>false)=eRS (qe ⟨n,[]⟩):=vH rfl fun j _=>(decide_eq_false fun h=>absurd h.2 zb).symm
def itS:Nat->RS->RS
 | 0,s=>s
 |i+1,s=>uniS (itS i s) (uK (itS i s) (itS i s))
theorem kI(s:RS):∀ i,(itS i s).1=s.1
 | 0=>rfl
 |i+1=>kI s i
theorem kJ(g:RS)(h:1<=g.1/\g.1<=3):qd qb 167 [eRS g] (eRS (itS 4 g)):=by
 refine qSQ call167 func167 rfl { mt:=[1] } ?_;simp[go_sem];refine⟨qC _,?_⟩;refine fZ 4 (fun i st=>st.tm 1 = .ptr 0 0/\st.tm 2 = .ptr 1 0/\st.tm 3=aI i/\st.mu=[.arr (cRS (itS i g)),.arr (aI 0 :: hB fun _=>false)]) ?_ ?_
 .exact ⟨zSi,zSi,zSi,by simp[go_sem];exact⟨⟨rfl,rfl⟩,rfl⟩⟩
 rintro i st U ⟨l,p,r,t⟩;by_cases J:i<4
 .have j:(i:Int)<4:=by omega
  have w1:=zWk i;have P:=kI g i;have R:=Yz (itS i g) (itS i g) zOm zOm;have C:=vG (itS i g) (uK (itS i g) (itS i g));have I:uniS (itS i g) (uK (itS i g) (itS i g))=itS (i+1) g:=rfl;rw[I]at C;clear I;generalize T:itS (i+1) g=s' at *
  generalize uK (itS i g) (itS i g)=q at *
  generalize itS i g=s at *
  simp[go_sem,r,t,j];refine aQ zKr ?_;simp[go_sem,l,qh,tk];refine fG R (.zk (zz _) (.zk (zz _) .nil)) ?_;refine cA C (.zk (zz _) (.zk (zz _) .nil)) ?_;simp[go_sem,l,qh,pc];rw[if_pos (qC _)];simp_all[go_sem,aK]
 .have o:i=4:=by omega
  subst o;generalize itS 4 g=s at *
  simp[go_sem,l,p,r,t,qh,tk,pc];rw[if_pos (qC _)];simp[go_sem,p,qh,tk];exact .hf _ (zz s)
def prC(ts:TS)(n:Nd)(l:List RS)(S:RS)(b:Bool):Prop:=qd qb 142 [eTS ts,eNd n,lRS l] (.tup [eRS S,aB b])
theorem ap2(ts:TS)(n:Nd)(L:List RS)(h:n.op=2):prC ts n L (n.n,fun _=>false) true:=by
 unfold prC;refine qSV call142 func142 rfl ?_;simp[go_sem,h];exact .hf _ (yu (n.n,fun _=>false) true)
theorem ap3(ts:TS)(ok:okTS ts)(n:Nd)(L:List RS)(h:n.op=3):prC ts n L (qe (zg ts.sS.length 1)) true:=by
 unfold prC;refine qSV call142 func142 rfl ?_;have c1:=allU ts ok 1 zOm;generalize qe (zg ts.sS.length 1)=q at *
 simp[go_sem,h];refine cA c1 (wkTI ts 1) ?_;simp[go_sem,qh];rw[if_pos (qC _)];generalize i:qH _ 0 (aI q.1 :: hB q.2)=P;have g:P=aI q.1 :: hB q.2:=by rw[<-i];exact pc (aI 0) _ (fun _=>false) _
 subst g;clear i;simp[go_sem,qh,tk];exact .hf _ (yu q _)
theorem ap4(ts:TS)(ok:okTS ts)(n:Nd)(L:List RS)(h:n.op=4):prC ts n L (qe (zg ts.sS.length 2)) true:=by
 unfold prC;refine qSV call142 func142 rfl ?_;have c1:=allU ts ok 2 zOm;generalize qe (zg ts.sS.length 2)=q at *
 simp[go_sem,h];refine cA c1 (wkTI ts 2) ?_;simp[go_sem,qh];rw[if_pos (qC _)];generalize i:qH _ 0 (aI q.1 :: hB q.2)=P;have g:P=aI q.1 :: hB q.2:=by rw[<-i];exact pc (aI 0) _ (fun _=>false) _
 subst g;clear i;simp[go_sem,qh,tk];exact .hf _ (yu q _)
theorem ap5(ts:TS)(n:Nd)(q:RS)(h:n.op=5):prC ts n [q] q true:=by
 unfold prC;refine qSV call142 func142 rfl ?_;simp[go_sem,h,qh,tk];rw[if_pos (qC _)];generalize i:qH _ 0 (aI q.1 :: hB q.2)=P;have g:P=aI q.1 :: hB q.2:=by rw[<-i];exact pc (aI 0) _ (fun _=>false) _
 subst g;clear i;simp[go_sem,qh,tk];exact .hf _ (yu q _)
theorem ap6(ts:TS)(n:Nd)(q r S:RS)(h:n.op=6)(c:qd qb 162 [eRS q,eRS r] (eRS S)):prC ts n [q,r] S (decide (q.1=r.1)):=by
 unfold prC;refine qSV call142 func142 rfl ?_;simp[go_sem,h];refine fD [0,1,2,3,4,5,7,8,9,10,11,12,13,14,15,17,6,16] [(0,0,[]),(1,0,[]),(2,0,[]),(3,0,[]),(4,0,[]),(5,0,[]),(7,0,[]),(8,0,[]),(9,0,[]),(10,0,[]),(11,0,[]),(12,0,[]),(13,0,[]),(14,0,[]),(15,0,[]),(17,0,[]),(6,1,[10,14]),(16,1,[10,14])] zKr zKr zSi ?_;simp[go_sem,qh,tk];refine cA c (wkS2 q r) ?_;simp[go_sem,qh];rw[if_pos (qC _)];generalize i:qH _ 0 (aI S.1 :: hB S.2)=P;have g:P=aI S.1 :: hB S.2:=by rw[<-i];exact pc (aI 0) _ (fun _=>false) _
 subst g;clear i;simp[go_sem,qh,tk];exact .hf _ (yu S _)
theorem ap14(ts:TS)(n:Nd)(q r S:RS)(h:n.op=14)(c:qd qb 162 [eRS q,eRS r] (eRS S)):prC ts n [q,r] S (decide (q.1=r.1)):=by
 unfold prC;refine qSV call142 func142 rfl ?_;simp[go_sem,h];refine fD [0,1,2,3,4,5,7,8,9,10,11,12,13,14,15,17,6,16] [(0,0,[]),(1,0,[]),(2,0,[]),(3,0,[]),(4,0,[]),(5,0,[]),(7,0,[]),(8,0,[]),(9,0,[]),(10,0,[]),(11,0,[]),(12,0,[]),(13,0,[]),(14,0,[]),(15,0,[]),(17,0,[]),(6,1,[10,14]),(16,1,[10,14])] zKr zKr zSi ?_;simp[go_sem,qh,tk];refine cA c (wkS2 q r) ?_;simp[go_sem,qh];rw[if_pos (qC _)];generalize i:qH _ 0 (aI S.1 :: hB S.2)=P;have g:P=aI S.1 :: hB S.2:=by rw[<-i];exact pc (aI 0) _ (fun _=>false) _
 subst g;clear i;simp[go_sem,qh,tk];exact .hf _ (yu S _)
theorem ap7(ts:TS)(n:Nd)(q r S:RS)(h:n.op=7)(c:qd qb 163 [eRS q,eRS r] (eRS S)):prC ts n [q,r] S (decide (q.1=r.1)):=by
 unfold prC;refine qSV call142 func142 rfl ?_;simp[go_sem,h];refine fD [0,1,2,3,4,5,7,8,9,10,11,12,13,14,15,17,6,16] [(0,0,[]),(1,0,[]),(2,0,[]),(3,0,[]),(4,0,[]),(5,0,[]),(7,0,[]),(8,0,[]),(9,0,[]),(10,0,[]),(11,0,[]),(12,0,[]),(13,0,[]),(14,0,[]),(15,0,[]),(17,0,[]),(6,1,[10,14]),(16,1,[10,14])] zKr zKr zSi ?_;simp[go_sem,qh,tk];refine cA c (wkS2 q r) ?_;simp[go_sem,qh];rw[if_pos (qC _)];generalize i:qH _ 0 (aI S.1 :: hB S.2)=P;have g:P=aI S.1 :: hB S.2:=by rw[<-i];exact pc (aI 0) _ (fun _=>false) _
 subst g;clear i;simp[go_sem,qh,tk];exact .hf _ (yu S _)
theorem ap8(ts:TS)(n:Nd)(q r:RS)(h:n.op=8):prC ts n [q,r] q (decide (q.1=r.1)):=by
 unfold prC;refine qSV call142 func142 rfl ?_;simp[go_sem,h];refine fD [0,1,2,3,4,5,6,7,8,9,10,11,13,12] [(0,0,[]),(1,0,[]),(2,0,[]),(3,0,[]),(4,0,[]),(5,0,[]),(6,0,[]),(7,0,[]),(8,0,[]),(9,0,[]),(10,0,[]),(11,0,[]),(13,0,[]),(12,1,[6,10])] zKr zKr zSi ?_;simp[go_sem,qh,tk];rw[if_pos (qC _)];generalize i:qH _ 0 (aI q.1 :: hB q.2)=P;have g:P=aI q.1 :: hB q.2:=by rw[<-i];exact pc (aI 0) _ (fun _=>false) _
 subst g;clear i;simp[go_sem,qh,tk];exact .hf _ (yu q _)
theorem ap32(ts:TS)(n:Nd)(q r:RS)(h:n.op=32):prC ts n [q,r] zR (decide (q.1=r.1)):=by
 unfold prC;refine qSV call142 func142 rfl ?_;simp[go_sem,h];refine fD [0,1,2,3,4,5,6,7,8,9,11,10] [(0,0,[]),(1,0,[]),(2,0,[]),(3,0,[]),(4,0,[]),(5,0,[]),(6,0,[]),(7,0,[]),(8,0,[]),(9,0,[]),(11,0,[]),(10,1,[4,8])] zKr zKr zSi ?_;simp[go_sem,qh];exact .hf _ (yu zR _)
theorem ap33(ts:TS)(n:Nd)(q r:RS)(h:n.op=33):prC ts n [q,r] zR (decide (q.1=r.1)):=by
 unfold prC;refine qSV call142 func142 rfl ?_;simp[go_sem,h];refine fD [0,1,2,3,4,5,6,7,8,9,11,10] [(0,0,[]),(1,0,[]),(2,0,[]),(3,0,[]),(4,0,[]),(5,0,[]),(6,0,[]),(7,0,[]),(8,0,[]),(9,0,[]),(11,0,[]),(10,1,[4,8])] zKr zKr zSi ?_;simp[go_sem,qh];exact .hf _ (yu zR _)
theorem ap9(ts:TS)(n:Nd)(q r S:RS)(h:n.op=9)(p:0<=q.1/\q.1<=1000)(t:0<=r.1/\r.1<=1000)(c:qd qb 164 [eRS q,eRS r] (eRS S)):prC ts n [q,r] S (decide (1<=q.1+r.1-2/\q.1+r.1-2<=3)):=by
 unfold prC;refine qSV call142 func142 rfl ?_;have l:qx.wrap (q.1+r.1)=q.1+r.1:=zWr;have o:qx.wrap (q.1+r.1-2)=q.1+r.1-2:=zWr;simp[go_sem,h];refine aQ zKr ?_;simp[go_sem,qh,l,o];refine aQ zKr ?_;by_cases j:1<=q.1+r.1-2
 .simp [go_sem,qh,tk,j]
  refine cA c (wkS2 q r) ?_;simp[go_sem,qh,j];rw[if_pos (qC _)];generalize i:qH _ 0 (aI S.1 :: hB S.2)=P;have g:P=aI S.1 :: hB S.2:=by rw[<-i];exact pc (aI 0) _ (fun _=>false) _
  subst g;clear i;simp[go_sem,qh,tk];exact .hf _ (yu S _)
 .simp [go_sem,qh,tk,j]
  refine cA c (wkS2 q r) ?_;simp[go_sem,qh,j];rw[if_pos (qC _)];generalize i:qH _ 0 (aI S.1 :: hB S.2)=P;have g:P=aI S.1 :: hB S.2:=by rw[<-i];exact pc (aI 0) _ (fun _=>false) _
  subst g;clear i;simp[go_sem,qh,tk];exact .hf _ (yu S _)
theorem ap10(ts:TS)(n:Nd)(q r S:RS)(h:n.op=10)(l:0<=q.1/\q.1<=1000)(o:0<=r.1/\r.1<=1000)(c:qd qb 165 [eRS q,eRS r] (eRS S)):prC ts n [q,r] S (decide (q.1+r.1<=3)):=by
 unfold prC;refine qSV call142 func142 rfl ?_;have j:qx.wrap (q.1+r.1)=q.1+r.1:=zWr;simp[go_sem,h];refine fD [0,1,2,3,4,5,7,8,9,10,11,12,13,14,15,16,18,6,17] [(0,0,[]),(1,0,[]),(2,0,[]),(3,0,[]),(4,0,[]),(5,0,[]),(7,0,[]),(8,0,[]),(9,0,[]),(10,0,[]),(11,0,[]),(12,0,[]),(13,0,[]),(14,0,[]),(15,0,[]),(16,0,[]),(18,0,[]),(6,1,[10,14]),(17,1,[10,14])] zKr zKr zSi ?_;simp[go_sem,qh,tk,j];refine cA c (wkS2 q r) ?_;simp[go_sem,qh];rw[if_pos (qC _)];generalize i:qH _ 0 (aI S.1 :: hB S.2)=P;have g:P=aI S.1 :: hB S.2:=by rw[<-i];exact pc (aI 0) _ (fun _=>false) _
 subst g;clear i;simp[go_sem,qh,tk];exact .hf _ (yu S _)
theorem ap11(ts:TS)(n:Nd)(q S:RS)(h:n.op=11)(c:qd qb 166 [eRS q] (eRS S)):prC ts n [q] S (decide (q.1=2)):=by
 unfold prC;refine qSV call142 func142 rfl ?_;simp[go_sem,h];refine fD [0,1,2,4,5,6,7,8,10,3,9] [(0,0,[]),(1,0,[]),(2,0,[]),(4,0,[]),(5,0,[]),(6,0,[]),(7,0,[]),(8,0,[]),(10,0,[]),(3,1,[7]),(9,1,[7])] zKr zKr zSi ?_;simp[go_sem,qh,tk];refine cA c (wkS1 q) ?_;simp[go_sem,qh];rw[if_pos (qC _)];generalize i:qH _ 0 (aI S.1 :: hB S.2)=P;have g:P=aI S.1 :: hB S.2:=by rw[<-i];exact pc (aI 0) _ (fun _=>false) _
 subst g;clear i;simp[go_sem,qh,tk];exact .hf _ (yu S _)
theorem ap12(ts:TS)(n:Nd)(q S:RS)(h:n.op=12)(c:qd qb 167 [eRS q] (eRS S)):prC ts n [q] S (decide (q.1=2)):=by
 unfold prC;refine qSV call142 func142 rfl ?_;simp[go_sem,h];refine fD [0,1,2,4,5,6,7,8,10,3,9] [(0,0,[]),(1,0,[]),(2,0,[]),(4,0,[]),(5,0,[]),(6,0,[]),(7,0,[]),(8,0,[]),(10,0,[]),(3,1,[7]),(9,1,[7])] zKr zKr zSi ?_;simp[go_sem,qh,tk];refine cA c (wkS1 q) ?_;simp[go_sem,qh];rw[if_pos (qC _)];generalize i:qH _ 0 (aI S.1 :: hB S.2)=P;have g:P=aI S.1 :: hB S.2:=by rw[<-i];exact pc (aI 0) _ (fun _=>false) _
 subst g;clear i;simp[go_sem,qh,tk];exact .hf _ (yu S _)
theorem ap13(ts:TS)(ok:okTS ts)(n:Nd)(q C S:RS)(h:n.op=13)(c:qd qb 167 [eRS q] (eRS C))(c2:qd qb 162 [eRS C,eRS (qe (zg ts.sS.length 2))] (eRS S)):prC ts n [q] S (decide (q.1=2)):=by
 unfold prC;refine qSV call142 func142 rfl ?_;have c1:=allU ts ok 2 zOm;generalize qe (zg ts.sS.length 2)=D at *
 simp[go_sem,h];refine fD [0,1,2,4,7,8,9,10,11,13,3,5,6,12] [(0,0,[]),(1,0,[]),(2,0,[]),(4,0,[]),(7,0,[]),(8,0,[]),(9,0,[]),(10,0,[]),(11,0,[]),(13,0,[]),(3,1,[4,10]),(5,1,[10]),(6,1,[10]),(12,1,[10])] zKr zKr zSi ?_;simp[go_sem,qh,tk];refine cA c (wkS1 q) ?_;simp[go_sem,qh];refine cA c1 (wkTI ts 2) ?_;simp[go_sem,qh];refine cA c2 (wkS2 C D) ?_;simp[go_sem,qh];rw[if_pos (qC _)];generalize i:qH _ 0 (aI S.1 :: hB S.2)=P;have g:P=aI S.1 :: hB S.2:=by rw[<-i];exact pc (aI 0) _ (fun _=>false) _
 subst g;clear i;simp[go_sem,qh,tk];exact .hf _ (yu S _)
theorem apO(ts:TS)(n:Nd)(L:List RS)(t:n.op≠2)(C:n.op≠3)(I:n.op≠4)(J:n.op≠5)(P:n.op≠6)(g:n.op≠14)(R:n.op≠7)(T:n.op≠8)(i:n.op≠32)(j:n.op≠33)(U:n.op≠9)(l:n.op≠10)(o:n.op≠11)(p:n.op≠12)(r:n.op≠13):prC ts n L zR true:=by
 unfold prC;refine qSV call142 func142 rfl ?_;simp[go_sem,t,C,I,J,P,g,R,T,i,j,U,l,o,p,r];exact .hf _ (yu zR true)
end QN
namespace PC
open P1 Y1 Y2 Y10 YZ YC Q4
theorem apK1(ns:Nat)(op n pos:Int)(a:Kd):zQ ns op n pos [some a]=if op=2 then .ok (some ⟨n,[]⟩) else if op=3 then .ok (some (zg ns 1)) else if op=4 then .ok (some (zg ns 2)) else
  if op=5 then .ok (some a) else if op=11\/op=12\/op=13 then (if a.ar=2 then .ok (some (binK ns op a)) else .error (42,pos)) else .ok none:=rfl
theorem apK2(ns : Nat)(op n pos : Int)(a b : Kd) : zQ ns op n pos [some a, some b] = if op = 2 then .ok (some ⟨n, []⟩) else if op = 3 then .ok (some (zg ns 1)) else if op = 4 then .ok (some (zg ns 2)) else
      if op=6\/op=14\/op=7\/op=8\/op=32\/op=33 then (if a.ar=b.ar then .ok (some (uB op a b)) else .error (42,pos))
      else if op=9 then (if 1<=a.ar+b.ar-2/\a.ar+b.ar-2<=3 then .ok (some (zl a b)) else .error (42,pos))
      else if op=10 then (if a.ar+b.ar<=3 then .ok (some (wc a b)) else .error (42,pos))
      else .ok none:=rfl
theorem UD(ts:TS)(i:Nat):∀ m,i<m->m<=ts.sT.length->∀(j:i<ts.sT.length),(tmsL ts m).getD i false=ye (mkCk ts i) ts.sT[i].body
 | 0,h,_,_=>absurd h zOm
 |m+1,h,r,j=>by
  have l:=wo ts m zOm;have g:m<ts.sT.length:=zOm;have e:tmsL ts (m+1)=tmsL ts m++[ye (mkCk ts m) ts.sT[m].body]:=by
   show tmsL ts m++(match ts.sT[m]? with|some p=>[ye ⟨ts,m,tmsL ts m⟩ p.body] | none=>[])=_;rw[qq g];rfl
  rw[e];by_cases o:i<m
  .rw [<-UD ts i m o zOm j]
   simp only[qS];rw[zGa]
  .have:i=m:=by omega
   subst this;simp only[qS];rw[zo zOm,l];simp
def OwnT(n:Nd):Prop:=∀ x,x∈preN n->ownB x=true
theorem OwnT.kid{n k:Nd}(h:OwnT n)(g:k∈n.sM):OwnT k:=fun x i=>h x (qc0 g i)
theorem qeG{ks:List Nd}{x:Nd}(h:x∈v9 ks):∃ k,k∈ks/\x∈preN k:=by
 induction ks with
 |nil=>simp[v9]at h
 |cons a l g =>
  simp only[v9,qR]at h;rcases h with h|h
  .exact ⟨a,q8 ..,h⟩
  .obtain ⟨k,i,j⟩:=g h
   exact⟨k,qJ _ i,j⟩
end PC
namespace PG
open Y1 Y2 P1 P2 Y9 YZ
section
variable {nm:cD}
theorem qeH{ns:Nat}{op n pos:Int}{l:List (Option Kd)}{e:Dg}(h:zQ ns op n pos l = .error e):40<=e.1:=by
 unfold zQ at h
 repeat' split at h
 all_goals first
  | (cases h;done)
  | (cases h;simp)
theorem qeI{c:Ck}{s:Scp}{pos:Int}{e:Dg}(h:yA c s nm pos = .error e):40<=e.1:=by
 unfold yA at h
 repeat' split at h
 all_goals first
  | (cases h;done)
  | (cases h;simp)
section
variable {c:Ck}
theorem UE{inn:Bool}:∀{ks:List Nd} {s:Scp} {e:Dg},(∀ k,k∈ks->∀ s e,exam c s inn k = .error e->40<=e.1)->zq c s inn ks = .error e->40<=e.1
 | [],s,e,_,h=>by simp only[zq]at h;cases h
 |k :: ks,s,e,i,h=>by
  simp only[zq]at h;split at h
  .rename_i j g
   cases h;exact i k (q8 ..) s _ g
  .split at h
   .rename_i j g
    cases h;exact UE (fun k l=>i k (qJ _ l)) g
   .cases h
theorem kK{pos:Int}:∀{ks:List Nd} {ps:List (cD×Int)} {s:Scp} {e:Dg},(∀ k,k∈ks->∀ s e,exam c s true k = .error e->40<=e.1)->yf c s pos ps ks = .error e->40<=e.1
 | [],ps,s,e,_,h=>by cases ps<;>(simp only[yf]at h;cases h)
 |k :: ks,[],s,e,_,h=>by simp only[yf]at h;cases h
 |k :: ks,p :: ps,s,e,g,h=>by
  simp only[yf]at h;split at h
  .rename_i l i
   cases h;exact g k (q8 ..) s _ i
  .cases h;simp
  .split at h
   .split at h
    .exact kK (fun k j=>g k (qJ _ j)) h
    .cases h;simp
   .cases h;simp
theorem qeJ{inn:Bool}{pos:Int}:∀{ks:List Nd} {s:Scp} {e:Dg},(∀ k,k∈ks->∀ s e,exam c s inn k = .error e->40<=e.1)->yp c s inn nm pos ks = .error e->40<=e.1
 | [],s,e,_,h=>by simp only[yp]at h;cases h
 |k :: ks,s,e,i,h=>by
  simp only[yp]at h;split at h
  .rename_i j g
   cases h;exact i k (q8 ..) s _ g
  .cases h;simp
  .split at h
   .split at h
    .rename_i j g
     cases h;exact UE (fun k l=>i k (qJ _ l)) g
    .cases h
   .cases h;simp
theorem YO(c:Ck):∀(m:Nat) (n:Nd) (s:Scp) (inn:Bool) (e:Dg),szN n<=m->exam c s inn n = .error e->40<=e.1
 | 0,n,_,_,_,j,_=>by obtain⟨op,nm,i,ks,p⟩:=n;simp[szN]at j
 |m+1,n,s,inn,e,j,h=>by
  have g:∀ inn k,k∈n.sM->∀ s e,exam c s inn k = .error e->40<=e.1:=fun inn k l s e h=>YO c m k s inn e (zW1 (jC l)) h
  rw[va]at h;split at h
  .cases h;simp
  split at h
  .exact qeI h
  split at h
  .split at h
   .split at h
    .cases h;simp
    .split at h
     .cases h;simp
     .split at h
      .exact kK (g true) h
      .cases h;simp
   .cases h;simp
  split at h
  .exact qeJ (g _) h
  .split at h
   .rename_i r o
    cases h;exact UE (g _) o
   .exact qeH h
end
end
theorem kL{ks:List Nd}{k:Nd}(h:k∈ks):depN k<=jH ks:=by
 induction ks with
 |nil=>simp at h
 |cons a l g =>
  simp only[jH];rcases qp.1 h with rfl|h
  .omega
  .have:=g h;omega
theorem kM(n:Nd):1<=depN n:=by
 rw[Yv];have:∀ ks:List Nd,0<=jH ks:=by
  intro ks;induction ks with
  |nil=>simp[jH]
  |cons a l g=>simp only[jH];omega
 have:=this n.sM;omega
end PG
end Go.Proofs.YthkdjhkmlmjkbaaGreatDoor
