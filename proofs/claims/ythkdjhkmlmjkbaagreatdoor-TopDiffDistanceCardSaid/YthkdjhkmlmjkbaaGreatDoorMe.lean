/-
  Own library, part 5: an abstract reading of values and a calculus over it; contracts of functions; plain lemmas.
-/
import Derived.WalkKit
import Derived.Deep.LoopGhost
import Derived.Lib.OwnBridge
import Derived.Lib.ItoaLen
import Derived.Handed
import Derived.WideKeyArgs
import Derived.ProofKit
import Derived.OpenShut
import Derived.JoinedCond
import Derived.KernelRfl
import Derived.Test.YthkdjhkmlmjkbaaGreatDoorMd
set_option linter.unusedVariables false
set_option linter.unusedSimpArgs false
set_option maxRecDepth 100000
open Go renaming TypeId->qd,World->qf,Value->qg,undef->j2,FuncId->j1,Program->qb
open Go.Proofs.Tryz renaming prog->qc
open List renaming getElem?_eq_some_iff->qi,mem_cons->ql,mem_map->qp,range->qq,getElem_mem->qv,getElem?_eq_getElem->qx,mem_cons_of_mem->qB,not_mem_nil->qG,mem_append->qI,mem_singleton->qL,mem_cons_self->qN,length_append->qW,take_length->za,getElem?_append_left->ze,getD_eq_getElem?_getD->zf,getElem?_map->zj,take_of_length_le->zn,replicate->zo,drop_eq_getElem_cons->zB,map_append->zF,mem_range->zG,getElem?_append_right->zK,ext_getElem?->zZ,length_map->yi,append_nil->yj,getElem?_set_self->yq,drop_length->yr,getElem?_take->yG,mem_append_left->yH,cons_append->yU,pairwise_cons->ji,take_succ_eq_append_getElem->jx,nodup_cons->jz,getElem?_eq_none->jG,map_cons->jH,getElem?_set_ne->jV,getElem?_cons_succ->jW,getElem?_drop->jX,eq_nil_of_length_eq_zero->jY,getElem_of_mem->um,take_append_drop->un,foldl_append->Qi,length_set->V3,getElem?_set->V6,getElem_append_left->qbJ,getElem_set_ne->qbK
open Option.some renaming injEq->qo
open Nat renaming le_refl->qs,le_trans->zS,le_of_ble_eq_true->yh,zero_add->yI
open Bool renaming and_eq_true->qu,eq_iff_iff->jZ,or_eq_true->vr
open Go.IntKind renaming i64->qw
open Array renaming getD_eq_getD_getElem?->qK,getElem?_eq_some_iff->zU,getElem?_toList->uo
open Option renaming map_some->qZ,map_eq_some_iff->yA
open Go.Builtin renaming zeroCells->zp
open Int renaming le_refl->jy,tmod_eq_emod_of_nonneg->wD
open List.Nodup renaming length_le_of_subset->jI
namespace Go.Proofs.YthkdjhkmlmjkbaaGreatDoor
open Go Go.Ev Go.Proofs Tryz
namespace HP
open E3 EO EY F4 GB GR GS
section
variable {av:AV}{mu:Mu}{lo:Nat}{f:Nat->AV}{S:Sts}
structure StO (mu:Mu) (lo:Nat) (av:AV) (f:Nat->AV) (S:Sts):Prop where
 own:Own mu 1 av ((qq S.length).map fun s=>[f s])
 lo0:∀ b,qr av=some b->lo<=b
 row:∀(s:Nat)(h:s<S.length),Own mu 2 (f s) (S[s].map cRel)
 lor:∀ s b,s<S.length->qr (f s)=some b->lo<=b/\qr av≠some b
 dis:∀ s t b,s<S.length->t<S.length->s≠t->qr (f s)=some b->qr (f t)≠some b
 ne0:0<S.length->∃ b,qr av=some b
 ne:∀(s:Nat)(h:s<S.length),0<S[s].length->∃ b,qr (f s)=some b
structure OkSt (S:Sts):Prop where
 n:S.length<=1000
 st:∀ s,s∈S->s.length<=1000
 ts:∀ s,s∈S->∀ r,r∈s->r.ts.length<=100000
theorem qh7{C:Type}(f g:Nat->C)(n)(h:∀ s,s<n->g s=f s):(qq (n+1)).map g=(qq n).map f++[g n]:=by
 rw[List.range_succ,zF];congr 1;exact List.map_congr_left fun s i=>h s (zG.1 i)
theorem Own.frame{sz l xs}(h:Own mu sz av xs)(g:∀ b,qr av=some b->l[b]?=mu[b]?):Own l sz av xs:=by
 rcases h with h|⟨b,h,i⟩
 .exact .inl h
 .exact .inr ⟨b,h,by rw[g b (by rw[h];rfl)];exact i⟩
theorem StO.frame{l}(h:StO mu lo av f S)(o:∀ i,lo<=i->i<mu.length->l[i]?=mu[i]?):StO l lo av f S:=
 ⟨Own.frame h.own fun b g=>o b (h.lo0 b g) (Own.lt h.own g),h.lo0,fun s j=>Own.frame (h.row s j) fun b g=>o b (h.lor s b j g).1 (Own.lt (h.row s j) g),h.lor,h.dis,h.ne0,h.ne⟩
theorem StO.low{g}(h:StO mu lo av f S)(j:g<=lo):StO mu g av f S:=
 ⟨h.own,fun b i=>zS j (h.lo0 b i),h.row,fun s b l i=>⟨zS j (h.lor s b l i).1,(h.lor s b l i).2⟩,h.dis,h.ne0,h.ne⟩
theorem StO.nil:StO mu lo (.lst true []) f []:=
 ⟨.inl zSp,by simp[qr],zSp,zSp,zSp,zSp,zSp⟩
theorem StO.snoc{l R o v st}(h:StO mu lo av f S)(a2:lo<=R)(hR:R<=mu.length)(h1:∀ b,qr av=some b->b<R)(J:∀ s b,s<S.length->qr (f s)=some b->b<R)
  (P:Own mu 2 v (st.map cRel)) (p:∀ b,qr v=some b->R<=b) (ho:Own l 1 o (((qq S.length).map fun s=>[f s])++[[v]])) (I:∀ i,i<mu.length->qr av≠some i->l[i]?=mu[i]?) (T:∀ b,qr o=some b->mu.length<=b) (U:∃ b,qr o=some b) (a0:0<st.length->∃ b,qr v=some b) :
  StO l lo o (fun s=>if s<S.length then f s else v) (S++[st]):=by
 refine⟨?_,fun b q=>zW1 (T b q),fun s r=>?_,fun s b r q=>?_,fun s t b r ht a1 q C=>?_,fun _=>U,fun s r q=>?_⟩
 .rw [qW,List.length_singleton,qh7 (fun s=>[f s]) _ _ fun s I=>by rw[if_pos I],zIn]
  exact ho
 .by_cases g:s<S.length
  .simp only[if_pos g,qbJ g]
   refine Own.frame (h.row s g) fun b q=>I b (Own.lt (h.row s g) q) (h.lor s b g q).2
  .have e:s=S.length:=by simp at r;omega
   subst e;simp only[if_neg g,List.getElem_concat_length];exact Own.frame P fun b q=>I b (Own.lt P q) fun e=>zW2 (h1 b e) (p b q)
 .by_cases g:s<S.length
  .simp only[if_pos g]at q
   exact⟨(h.lor s b g q).1,fun e=>zW2 (T b e) (J s b g q)⟩
  .simp only[if_neg g]at q
   exact⟨zW1 (p b q),fun e=>zW2 (T b e) (Own.lt P q)⟩
 .simp only[qW,List.length_singleton]at r ht
  by_cases g:s<S.length<;>by_cases j:t<S.length
  .simp only[if_pos g,if_pos j]at q C
   exact h.dis s t b g j a1 q C
  .simp only[if_pos g,if_neg j]at q C
   have:=J s b g q;have:=p b C;omega
  .simp only[if_neg g,if_pos j]at q C
   have:=J t b j C;have:=p b q;omega
  .omega
 .by_cases g:s<S.length
  .simp only[if_pos g,qbJ g]at q⊢
   exact h.ne s g q
  .have e:s=S.length:=by simp at r;omega
   subst e;simp only[if_neg g,List.getElem_concat_length]at q⊢;exact a0 q
abbrev zMd:List AV:=[.lst true [],aI 0,.lst true [],aI 0]
theorem qh8(m)(hs:OkSt m.sK)(ha:m.sc.sC.length<=1000000)(mu) :
  qU qc 53 [eMd m] mu (fun e m'=>∃ av f,e = .ret (.agg [lI m.sc.sC,aI m.sc.sN,av,aI m.loop])/\StO m' mu.length av f m.sK/\(∀ i,i<mu.length->m'[i]?=mu[i]?)/\mu.length<=m'.length):=by
 have hN:=hs.n;refine qSW call53 func53 rfl {} ?_;simp[go_sem];refine fR ?_;refine fY (pj m.sc.sC zOm) (.zk (qR _) .nil) ?_;refine aC m.sK.length (fun k st=>st.tm 2 = .ptr mu.length 0/\st.tm 3 = .ptr (mu.length+1) 0/\st.tm 21=lSt m.sK/\st.tm 22=aI m.sK.length/\st.tm 23=aI k/\(∀ i,i<mu.length->st.mu[i]?=mu[i]?) /\
  ∃ av f,st.mu[mu.length]?=some (.arr zMd)/\st.mu[mu.length+1]?=some (.arr [lI m.sc.sC,aI m.sc.sN,av,aI m.loop])/\StO st.mu (mu.length+2) av f (m.sK.take k)) ?_ ?_
 .refine ⟨zSi,zSi,zSi,zSi,zSi,fun i t=>?_,.lst true [],fun _ => .lst true [],zSi,zSi,by simpa using StO.nil⟩
  simp[go_sem];rw[ze t]
 rintro k st hk ⟨e2,e3,a6,a1,a2,U,av,f,c0,c1,hS⟩;have ao:=(qi.1 c1).1;have af:=(qi.1 c0).1;by_cases C:k<m.sK.length
 .have w1:=zWk k
  have aq:=hs.st _ (qv C);have ag:=hs.ts _ (qv C);have ah:m.sK.take (k+1)=m.sK.take k++[m.sK[k]]:=by rw[jx C]
  have ar:(m.sK.take k).length=k:=zSo;have h1:∀ b,qr av=some b->b<st.mu.length:=fun b hb=>Own.lt hS.own hb
  have h2:∀ s b,s<(m.sK.take k).length->qr (f s)=some b->b<st.mu.length:=fun s b hs hb=>Own.lt (hS.row s hs) hb
  generalize hR:st.mu.length=R at *
  generalize a7:m.sK[k]=row at *
  simp[go_sem,a6,a1,a2,C,a7];refine aC row.length (fun j st2=>st2.tm 2 = .ptr mu.length 0/\st2.tm 3 = .ptr (mu.length+1) 0/\st2.tm 21=lSt m.sK/\st2.tm 22=aI m.sK.length/\st2.tm 23=aI k/\st2.tm 27=lRel row/\st2.tm 28=aI row.length/\st2.tm 29=aI j /\
   Own st2.mu 2 (st2.tm 6) ((row.take j).map cRel)/\(∀ b,qr (st2.tm 6)=some b->R<=b)/\(0<j->∃ b,qr (st2.tm 6)=some b)/\R<=st2.mu.length/\(∀ i,i<R->st2.mu[i]?=st.mu[i]?)) ?_ ?_
  .exact ⟨zS1 e2,zS1 e3,zS1 a6,zS1 a1,zS1 a2,zSi,zSi,zSi,   .inl zSi,by simp[go_sem,qr],fun h=>absurd h zOm,zS1 hR,fun i t=>zSi⟩
  rintro j st2 hj ⟨f2,f3,f21,f22,f23,f27,f28,f29,ho,a8,ai,aj,I⟩;generalize h6:st2.tm 6=l at *
  by_cases P:j<row.length
  .have w2:=zWk j
   have au:=ag _ (qv P);simp[go_sem,f27,f28,f29,P];refine cN zKr ?_;simp[go_sem,f27,f28,f29,P];refine cY (pj row[j].ts zOm) (.zk (qR _) .nil) ?_;simp[go_sem,h6];refine .inl (yB.ownB (e:=62) (sz:=2) (bt:=32) (zv := .agg [aI 0,.lst true []]) (xs:=(row.take j).map cRel) (ys:=[cRel row[j]]) zSi zSi zSi rfl rfl zOm zOm (Own.push ho _) (by simp[qF]) (vY _) (vY [row[j]]) zSo ?_);intro a9 aa g o a3 ab a4;simp[go_sem,f29,w2,Own.one g,Own.cells g];refine⟨P,aP ⟨zS1 f2,zS1 f3,zS1 f21,zS1 f22,zS1 f23,zS1 f27,zS1 f28,zSi,?_,?_,?_,?_,?_⟩⟩
   .rw [show (row.take (j+1)).map cRel=(row.take j).map cRel++[cRel row[j]] by rw[jx P,zF];rfl]
    simpa[go_sem] using g
   .simp [go_sem]
    intro b h;have:=a3 b h;simp at this;omega
   .simp [go_sem]
    exact a4 zSp
   .simp [go_sem]
    simp at ab;omega
   .simp [go_sem]
    intro i t;rw[o i zSo (fun h=>zW1 (a8 i h)),zGa];exact I i t
  .obtain rfl:j=row.length:=by omega
   rw[za]at ho;have ad:st2.mu[mu.length+1]?=some (.arr [lI m.sc.sC,aI m.sc.sN,av,aI m.loop]):=by rw[I _ zOm];exact c1
   have ak:st2.mu[mu.length]?=some (.arr zMd):=by rw[I _ zOm];exact c0
   have T:StO st2.mu (mu.length+2) av f (m.sK.take k):=hS.frame fun i t ae=>I i zOm
   simp[go_sem,f28,f29,f3,ad,h6,Own.one ho,Own.cells ho];refine .inl (yB.ownB (e:=60) (sz:=1) (bt:=24) (zv := .lst true []) (xs:=(qq (m.sK.take k).length).map fun s=>[f s]) (ys:=[[l]]) zSi zSi zSi rfl rfl zOm zOm T.own (by simp[qF]) ?_ ?_ zSo ?_)
   .intro r hr
    obtain⟨s,al,rfl⟩:=qp.1 hr;exact⟨rfl,by simp[Own.one (T.row s (zG.1 al))]⟩
   .intro r hr
    simp at hr;subst hr;exact⟨rfl,by simp[Own.one ho]⟩
   intro a9 aa g o a3 ab a4;have a5:∀ b,qr av=some b->mu.length+2<=b:=T.lo0;have a0:aa[mu.length+1]?=some (.arr [lI m.sc.sC,aI m.sc.sN,av,aI m.loop]):=by rw[o _ zOm (fun h=>zW1 (a5 _ h))];exact ad
   have an:=T.snoc (R:=R) zOm aj h1 h2 ho a8 g o (fun b h=>zW1 (a3 b h)) (a4 zSp) ai;simp[go_sem,f3,f23,a0,w1,Own.one g,Own.cells g];refine⟨C,aP ⟨zS1 f2,zS1 f3,zS1 f21,zS1 f22,zSi,?_,a9,(fun s=>if s<(m.sK.take k).length then f s else l),?_,?_,?_⟩⟩
   .simp [go_sem]
    intro i t;rw[zGl,o i zOm (fun h=>zW1 (a5 _ h)),I i zOm];exact U i t
   .simp [go_sem]
    rw[o _ zOm (fun h=>zW1 (a5 _ h))];exact ak
   .simp [go_sem,(qi.1 a0).1]
   .rw [ah]
    simp only[go_sem];exact an.frame fun i t ae=>zGl
 .obtain rfl:k=m.sK.length:=by omega
  rw[za]at hS;simp[go_sem,e2,e3,a1,a2,c1,c0,Own.one hS.own,Own.cells hS.own];simp[go_sem,e2,af];exact⟨⟨f,(hS.frame fun i t ae=>zGl).low zOm⟩,fun i t=>by rw[zGl];exact U i t,zOm⟩
end
end HP
namespace HQ
open Go.RowKit Go.Shelf Go.Sort
section
variable {xs:List qg}{B:Nat}{e:qd}{w:qf}
theorem Zn(b e):∀(vs o)(w:qf)(arr),w.heap[b]?=some (.cells arr e (0,0))->∃ g,(w.setCells b o vs).heap[b]?=some (.cells g e (0,0))/\g.size=arr.size /\
  ∀ j,j<arr.size->g[j]?=if o<=j/\j<o+vs.length then vs[j-o]? else arr[j]?
 | [],o,w,arr,h=>⟨arr,h,rfl,fun j i=>by rw[if_neg zSp]⟩
 |v :: r,o,w,arr,h=>by
  have t:(w.setCell ⟨b,o,none⟩ v).heap[b]?=some (.cells (arr.setIfInBounds o v) e (0,0)):=by
   show (w.heap.modify b _)[b]?=_;rw[Array.getElem?_modify,if_pos rfl,h];rfl
  obtain⟨g,C,I,J⟩:=Zn b e r (o+1) _ _ t;refine⟨g,C,zUs I,fun j i=>?_⟩;rw[J j (zUs i)];by_cases l:o+1<=j/\j<o+1+r.length
  .rw [if_pos l,if_pos ⟨zOm,zSo⟩,show j-o=(j-(o+1))+1 by omega,jW]
  .rw [if_neg l,Array.getElem?_setIfInBounds]
   by_cases p:o=j
   .subst p
    rw[if_pos rfl,if_pos i,if_pos ⟨zOm,zSp⟩];simp
   .rw [if_neg p,if_neg (fun q=>l ⟨zOm,by simp at q;omega⟩)]
theorem Zp(b):∀(vs o)(w:qf),(w.setCells b o vs).drawn=w.drawn
 | [],_,_=>rfl
 |v :: r,o,w=>by rw[World.setCells,Zp b r];rfl
theorem WX{zs:List Int}:∀ v∈zs.map (Value.int .i64),v.oneCell'=true:=fun v g=>by
 obtain⟨x,_,rfl⟩:=qp.1 g;rfl
theorem Zq{g k cap cur}(h:w.heap[g]?=some (.cells cur e (0,0)))(r:cur.size=cap)(i:k<=cap)(l:cap<=maxLen)(hB:B<=g)(t:xs.length=k)(o:∀ j,j<k->cur[j]?=xs[j]?) :
  w.ownsRow B e 1 (.slice (some ⟨g,0,none⟩) k cap) k xs:=by
 refine⟨zOm,.inr ⟨g,cap,cur,rfl,hB,h,i,l,zOm,?_⟩⟩;apply zZ;intro j;rw[yG,uo];by_cases p:j<k
 .rw [if_pos zOm];exact o j p
 .rw [zIn,jG zOm]
theorem Yr(k):(zp (Value.int .i64 0).cells k).size=k:=by simp[zp,Value.cells]
theorem gL{n G}(g:xs.length=n)(i:n<=G)(l:G<=maxLen)(hB:B<=w.heap.size) :
  (w.drew.alloc (.cells (xs.toArray++zp (Value.int .i64 0).cells (G-n)) e)).ownsRow B e 1 (.slice (some ⟨w.heap.size,0,none⟩) n G) n xs/\Below B w (w.drew.alloc (.cells (xs.toArray++zp (Value.int .i64 0).cells (G-n)) e)):=by
 refine⟨Zq (cur:=xs.toArray++zp (Value.int .i64 0).cells (G-n)) ?_ (by rw[Array.size_append,Yr];simp;omega) i l hB g fun j p=>?_,((Below.refl B w).drew).alloc hB _⟩
 .show (w.heap.push _)[w.heap.size]?=_
  simp
 .rw [Array.getElem?_append_left zSo];simp
theorem WY{zs:List Int}{t a}(o:a<=zs.length)(j):((zs.take a++t :: zs.drop a).map (Value.int .i64))[j]?=if j<a then (zs.map (Value.int .i64))[j]? else if j=a then some (.int .i64 t) else (zs.map (Value.int .i64))[j-1]?:=by
 have l:(zs.take a).length=a:=zSo;rw[zj,zj,zj];by_cases g:j<a
 .rw [if_pos g,zGa,yG,if_pos g]
 .rw [if_neg g,zK zOm,l]
  by_cases i:j=a
  .subst i;simp
  .rw [if_neg i]
   obtain⟨d,rfl⟩:∃ d,j=a+d+1:=⟨j-a-1,zOm⟩;rw[show a+d+1-a=d+1 by omega,jW,jX];rfl
theorem insO{n i vb v}{zs:List Int}{t}(h:w.ownsRow B 3 1 v n (zs.map (Value.int .i64)))(hB:B<=w.heap.size)(hi:i<=n)(hn:n<=1000000)
  (hv:w.heap[vb]?=some (.cells #[.int .i64 t] 3 (0,0))) (aa:v.ownBlock≠some vb) :
  Calls qc 89 #[v,.int .i64 i,.slice (some ⟨vb,0,none⟩) 1 1] w fun e w'=>∃ v',e = .returned v'/\w'.ownsRow B 3 1 v' (n+1) ((zs.take i++t :: zs.drop i).map (Value.int .i64))/\v' ≠ .slice none 0 0/\Below B w w'/\w.drawn<=w'.drawn:=by
 have hl:zs.length=n:=by simpa using h.1
 have I:∀(j:Nat) u,[Value.int .i64 t][j]?=some u->w.cell? ⟨vb,0+j,none⟩=some u:=fun j u o=>by
  cases j with
  |zero=>simp at o;subst o;simp[World.cell?,hv]
  |succ j=>simp at o
 have P:∀ u∈[Value.int .i64 t],u.oneCell'=true:=fun u hu=>by simp at hu;subst hu;rfl
 rcases h.2 with ⟨rfl,rfl⟩|⟨g,cap,a0,rfl,hb,hg,a6,hm,hs,ht⟩
 .obtain rfl:zs=[]:=jY hl
  obtain rfl:i=0:=zOm;refine(Any2.slices_Insert_int_end_grow Tryz.laysNm221 none 0 0 vb 0 1 1 [] [Value.int .i64 t] w zOm zOm zOm zOm rfl rfl (fun _=>rfl) (fun a ha=>by cases ha) I P).mono ?_;rintro e w' ⟨rfl,rfl⟩;have:=gL (w:=w) (e:=3) (xs:=[Value.int .i64 t]) (n:=1) rfl (Qq w 1 0 3) (grownCap_le_maxLen w 1 0 3 (by unfold maxLen;omega)) hB;exact⟨_,rfl,this.1,zSp,this.2,Nat.le_succ _⟩
 .have a7:∀ j,j<cap->(w.cell? ⟨g,0+j,none⟩).isSome=true:=fun j o=>by simp[World.cell?,hg];omega
  have a8:∀ j,j<cap->w.frozen? ⟨g,0+j,none⟩=false:=fun j o=>by simp[World.frozen?,hg]
  have R:∀ j,j<n->a0[j]?=(zs.map (Value.int .i64))[j]?:=fun j o=>by
   have:=congrArg (fun l=>l[j]?) ht;simp only[yG,uo]at this;rw[if_pos zOm]at this;exact this
  have a4:∀(j:Nat) u,(zs.map (Value.int .i64))[j]?=some u->w.cell? ⟨g,0+j,none⟩=some u:=fun j u o=>by
   have ab:j<n:=by have:=(qi.1 o).1;simp at this;omega
   simp[World.cell?,hg];rw[R j ab];exact o
  have ad:vb≠g:=fun e=>aa (by subst e;rfl)
  by_cases p:n+1<=cap
  .by_cases a5:i<n
   .refine (Any2.slices_Insert_int_shift Tryz.laysNm221 g 0 n cap i vb 0 1 1 (zs.map (Value.int .i64)) [Value.int .i64 t] w a5 zOm p hm ad (zUs hl) rfl a4 (fun j o=>a7 j zOm) (fun j o=>a8 j zOm) I WX P
     3 3 1 a0.size (by simp[World.shape?,hv]) (by simp[World.shape?,hg]) zOm (by simp[World.frozen?,hv]) (by simp[World.frozen?,hv])).mono ?_
    rintro e w' ⟨rfl,rfl⟩;obtain⟨C,a1,a2,a3⟩:=Zn g 3 ((zs.map (Value.int .i64)).drop i) (0+(i+1)) w.drew a0 hg;obtain⟨a9,b1,b2,b3⟩:=Zn g 3 [Value.int .i64 t] (0+i) _ C a1;refine⟨_,rfl,Zq b1 (cap:=cap) zOm p hm hb zSo fun j o=>?_,zSp,below_setCells hb _ _ _ (below_setCells hb _ _ _ (Below.refl B w).drew),by rw[Zp,Zp];exact Nat.le_succ _⟩;rw[WY zOm,b3 j zOm,a3 j zOm];by_cases U:j<i
    .rw [if_pos U,if_neg zSo,if_neg zSo]
     exact R j zOm
    .rw [if_neg U]
     by_cases h2:j=i
     .subst h2
      rw[if_pos rfl,if_pos zSp];simp
     .rw [if_neg h2,if_neg zSo,if_pos zSo,jX]
      congr 1;omega
   .obtain rfl:i=n:=by omega
    refine(Any2.slices_Insert_int_end_room Tryz.laysNm221 g 0 i cap vb 0 1 1 [Value.int .i64 t] w zOm p hm rfl (fun j o=>by have:=a7 (i+j) zOm;simpa[yI] using this) (fun j o=>by have:=a8 (i+j) zOm;simpa[yI] using this) I P).mono ?_;rintro e w' ⟨rfl,rfl⟩;obtain⟨C,a1,a2,a3⟩:=Zn g 3 [Value.int .i64 t] (0+i) w a0 hg;refine⟨_,rfl,Zq a1 (cap:=cap) zOm p hm hb zSo fun j o=>?_,zSp,below_setCells hb _ _ _ (Below.refl B w),by rw[Zp];exact qs _⟩;rw[WY zOm,a3 j zOm];by_cases U:j<i
    .rw [if_pos U,if_neg zSo]
     exact R j U
    .obtain rfl:j=i:=by omega
     rw[if_neg U,if_pos rfl,if_pos zSp];simp
  .by_cases a5:i<n
   .refine (Any2.slices_Insert_int_grow Tryz.laysNm221 g 0 n cap i vb 0 1 1 (zs.map (Value.int .i64)) [Value.int .i64 t] w a5 zOm a6 zOm zOm (zUs hl) rfl a4 I WX P).mono ?_
    rintro e w' ⟨rfl,rfl⟩;have hG:=Qq w (n+1) cap 3;have ae:=grownCap_le_maxLen w (n+1) cap 3 (by unfold maxLen;omega);rw[show Tryz.laysNm221_ren.t 3=3 from rfl];generalize ag:grownCap w (n+1) cap 3=G at *
    obtain⟨r,T⟩:∃ r:Array qg,r=((zs.map (Value.int .i64)).take i).toArray++zp (Value.int .i64 0).cells (n+1-i)++zp (Value.int .i64 0).cells (G-(n+1)):=⟨_,rfl⟩;have ah:r.size=G:=by rw[T,Array.size_append,Array.size_append,Yr,Yr];simp;omega
    have af:∀ j,j<i->r[j]?=(zs.map (Value.int .i64))[j]?:=fun j o=>by
     rw[T,Array.getElem?_append_left (by rw[Array.size_append,Yr];simp;omega),Array.getElem?_append_left zSo,List.getElem?_toArray,yG,if_pos o]
    rw[<-T];have h0:(w.alloc (.cells r 3)).drew.heap[w.heap.size]?=some (.cells r 3 (0,0)):=by
     show (w.heap.push _)[w.heap.size]?=_;simp
    obtain⟨C,a1,a2,a3⟩:=Zn w.heap.size 3 [Value.int .i64 t] i _ r h0;obtain⟨a9,b1,b2,b3⟩:=Zn w.heap.size 3 ((zs.map (Value.int .i64)).drop i) (i+1) ((w.alloc (.cells r 3)).drew.setCells w.heap.size i [Value.int .i64 t]).drew C a1;refine⟨_,rfl,Zq b1 (cap:=G) zOm hG ae hB zSo fun j o=>?_,zSp,below_setCells hB _ _ _ (below_setCells hB _ _ _ ((Below.refl B w).alloc hB _).drew).drew,by rw[Zp];show w.drawn<=World.drawn _+1;rw[Zp];exact zS (Nat.le_succ _) (Nat.le_succ _)⟩;rw[WY zOm,b3 j zOm,a3 j zOm];by_cases U:j<i
    .rw [if_pos U,if_neg zSo,if_neg zSo]
     exact af j U
    .rw [if_neg U]
     by_cases h2:j=i
     .subst h2
      rw[if_pos rfl,if_neg zSo,if_pos zSp];simp
     .rw [if_neg h2,if_pos zSo,jX]
      congr 1;omega
   .obtain rfl:i=n:=by omega
    refine(Any2.slices_Insert_int_end_grow Tryz.laysNm221 (some ⟨g,0,none⟩) i cap vb 0 1 1 (zs.map (Value.int .i64)) [Value.int .i64 t] w zOm a6 zOm zOm (zUs hl) rfl (fun h=>by cases h) (fun a ha j u o=>by cases ha;have:=a4 j u o;rw[Addr.add_lit];exact this) I P).mono ?_;rintro e w' ⟨rfl,rfl⟩;have:=gL (w:=w) (B:=B) (e:=3) (xs:=zs.map (Value.int .i64)++[Value.int .i64 t]) (n:=i+1) zSo (Qq w (i+1) cap 3) (grownCap_le_maxLen w (i+1) cap 3 (by unfold maxLen;omega)) hB;refine⟨_,rfl,?_,zSp,this.2,Nat.le_succ _⟩;rw[zn zOm,List.drop_eq_nil_of_le zOm,zF];exact this.1
theorem gM(w:qf)(o):(w.alloc o).heap[w.heap.size]?=some o:=by show (w.heap.push o)[w.heap.size]?=_;simp
theorem gN(w:qf)(o):(w.alloc o).heap.size=w.heap.size+1:=by show (w.heap.push o).size=_;simp
theorem qh9(w:qf)(o u):((w.alloc o).alloc u).drew.heap[w.heap.size+1]?=some u:=by
 have:=gM (w.alloc o) u;rw[gN]at this;exact this
theorem gO(b off n c)(zs:List Int)(w)(hl:zs.length=n)(h0:0<n)(hn:n<=1000000)(hc:∀ j,j<zs.length->w.cell? ⟨b,off+j,none⟩=some (.int .i64 (zs.getD j 0))) :
  Calls qc 71 #[.slice (some ⟨b,off,none⟩) n c] w fun e w'=>∃ I,e = .returned I/\w'.ownsRow w.heap.size 3 1 I n (zs.map (Value.int .i64))/\I ≠ .slice none 0 0/\Below w.heap.size w w'/\w.drawn<=w'.drawn:=by
 have L:=Tryz.laysNm215;have J:=L.mixed;have t3:=L.t3;have a3:=L.a3;have z3:=L.z3;have v3:=L.v3;have t4:=L.t4;have a4:=L.a4;have z4:=L.z4;have v4:=L.v4;have t22:=L.t22;have a1:=L.a22;have a2:=L.z22;have a5:=L.v22;obtain⟨P,hi,R,l,T⟩:=info_parts L.i3;have a6:∀(w:qf)(a:Option Addr)(n c U c':Nat),(binOp .eql 28 (.slice a n c) (.slice none U c')).run qc w = .ok (.bool a.isNone) w:=fun w a n c U c'=>Lib.run_eql_slice_nil w _ _ a n c U c' L.t22
 have a7:∀ w,Sem.run qc (underlying 28) w = .ok (TypeDesc.slice 3) w:=run_underlying t22;have o:Src qc P.size (Tryz.laysNm215_ren.t 22) (.slice (some ⟨b,off,none⟩) n c) n (zs.map (Value.int .i64)) (w.alloc (.cells #[] 3)):=by
  rw[l];refine Src.ofSlice _ L.t22 ⟨b,off,none⟩ n c _ zSo (fun j u p=>?_) WX;have i:j<zs.length:=by have:=(qi.1 p).1;simpa using this
  rw[Addr.add_lit];refine Lib.cell?_alloc_some _ ?_;rw[hc j i];rw[<-p,zj,qx i,zf,qx i];rfl
 have r:(Builtin.firstCells P.size 0 (.slice (some ⟨w.heap.size,0,none⟩) 0 0)).run qc (w.alloc (.cells #[] 3)).drew = .ok ([]:List qg).toArray (w.alloc (.cells #[] 3)).drew:=by
  rw[l];exact run_firstCells_some _ 1 0 ⟨w.heap.size,0,none⟩ 0 0 [] rfl (fun j v p=>by simp at p)
 have C:=fun ty=>run_append_grow_src (w.alloc (.cells #[] 3)) (Tryz.laysNm215_ren.t 22) (Tryz.laysNm215_ren.t 22) ty (Tryz.laysNm215_ren.t 3) P _ L.t22 hi R (some ⟨w.heap.size,0,none⟩) 0 0 [] r _ n _ o zOm zOm (by rw[T];exact growslice_fits zOm zOm)
 clear hc
 go_enter func71,Tryz.ntmps71
 go_wp2_with (at_builtin;refine Lib.wpList_append_run _ rfl _ _ _ _ rfl _ _ rfl rfl _ _ (C _) ?_)
 go_ret
 rw[show Tryz.laysNm215_ren.t 3=3 from rfl];have hG:=Qq (w.alloc (.cells #[] 3)) n 0 3;have a0:=grownCap_le_maxLen (w.alloc (.cells #[] 3)) n 0 3 (by unfold maxLen;omega);generalize grownCap (w.alloc (.cells #[] 3)) n 0 3=G at *
 have hz:(zp #[Value.int .i64 0] (G-n)).size=G-n:=Yr _;refine⟨_,rfl,Zq (g:=w.heap.size+1) (cur:=(zs.map (Value.int .i64)).toArray++zp #[Value.int .i64 0] (G-n)) (qh9 _ _ _) (by rw[Array.size_append,hz];simp;omega) hG a0 zOm zSo (fun j p=>?_),zSp,(((Below.refl _ w).alloc (qs _) _).alloc (by rw[gN];omega) _).drew,Nat.le_succ _⟩;rw[Array.getElem?_append_left zSo];simp
theorem qiA(a c w) :
  Calls qc 71 #[.slice (some a) 0 c] w fun e w'=>∃ J,e = .returned J/\w'.ownsRow w.heap.size 3 1 J 0 []/\Below w.heap.size w w'/\w.drawn<=w'.drawn:=by
 have L:=Tryz.laysNm215;have p:=L.mixed;have t3:=L.t3;have a3:=L.a3;have z3:=L.z3;have v3:=L.v3;have t4:=L.t4;have a4:=L.a4;have z4:=L.z4;have v4:=L.v4;have t22:=L.t22;have R:=L.a22;have T:=L.z22;have U:=L.v22;obtain⟨P,hi,a0,r,a1⟩:=info_parts L.i3;have a2:∀(w:qf)(a:Option Addr)(n c C I:Nat),(binOp .eql 28 (.slice a n c) (.slice none C I)).run qc w = .ok (.bool a.isNone) w:=fun w a n c C I=>Lib.run_eql_slice_nil w _ _ a n c C I L.t22
 have a5:∀ w,Sem.run qc (underlying 28) w = .ok (TypeDesc.slice 3) w:=run_underlying t22;have l:Src qc P.size (Tryz.laysNm215_ren.t 22) (.slice (some a) 0 c) 0 [] (w.alloc (.cells #[] 3)):=by
  rw[r];exact Src.ofSlice _ L.t22 a 0 c [] rfl (fun j u i=>by simp at i) (fun u hu=>by cases hu)
 have o:=fun ty=>run_append_room_src (w.alloc (.cells #[] 3)) (Tryz.laysNm215_ren.t 22) (Tryz.laysNm215_ren.t 22) ty (Tryz.laysNm215_ren.t 3) P L.t22 hi w.heap.size 0 0 0 _ 0 [] l zOm (fun j i=>by simp at i) (fun j i=>by simp at i)
 go_enter func71,Tryz.ntmps71
 go_wp2_with (at_builtin;refine Lib.wpList_append_run _ rfl _ _ _ _ rfl _ _ rfl rfl _ _ (o _) ?_)
 go_ret
 refine⟨_,rfl,Zq (g:=w.heap.size) (cur:=#[]) (gM _ _) rfl zOm (by unfold maxLen;omega) zOm rfl (fun j i=>zOm),(Below.refl _ w).alloc (qs _) _,qs _⟩
theorem remW(b off n c i)(zs:List Int)(t w)(hl:zs.length=n)(hn:n<=1000000)(hc:∀ j,j<zs.length->w.cell? ⟨b,off+j,none⟩=some (.int .i64 (zs.getD j 0)))(hi:i<n) :
    Calls qc 91 #[.slice (some ⟨b,off,none⟩) n c,.int .i64 i,.bool true,.int .i64 t] w fun e w'=>∃ T,e = .returned T/\w'.ownsRow w.heap.size 3 1 T (n-1) ((zs.take i++zs.drop (i+1)).map (Value.int .i64))/\T ≠ .slice none 0 0/\Below w.heap.size w w'/\w.drawn<=w'.drawn:=by
  have o:=gO b off n c zs w hl zOm hn hc;clear hc;have hw:wrap64 ((i:Int)+1)=((i+1:Nat):Int):=by unfold wrap64;omega
  go_enter func91,Tryz.ntmps91
  go_wp2_with (first
    | (go_at_call 71;refine o.mono ?_;rintro e R ⟨v1,rfl,l,I,p,J⟩
       obtain⟨g,cap,rfl,U,_,a1,a0,P,hH⟩:=Lib.holds_of_ownsRow l I;have C:=Tryz.slices_Delete_int g 0 cap i (i+1) zs R hH zOm (by unfold maxLen at a0;omega) zOm zOm;rw[P]at C;have X:Aside (R.ownsRow w.heap.size 3 1 (.slice (some ⟨g,0,none⟩) n cap) n (zs.map (Value.int .i64))/\Below w.heap.size w R/\w.heap.size<=g/\w.drawn<=R.drawn):=⟨l,p,U,J⟩;clear l p hH I J)
    | (go_at_call 92;refine C.mono ?_;rintro e w2 ⟨rfl,q,rfl⟩))
  go_ret
  have hy:(zs.take i++zs.drop (i+1)++zo (i+1-i) 0).length=n:=zSo;have h1:=Lib.ownsRow_putRow (q:=q) (k:=n-1) (ys:=zs.take i++zs.drop (i+1)++zo (i+1-i) 0) X.out.1 hy zOm;refine⟨_,rfl,?_,zSp,Lib.below_putRow X.out.2.1 X.out.2.2.1,zS X.out.2.2.2 (Nat.le_add_right _ _)⟩;rw[List.take_left' zSo]at h1;simpa[Nat.add_sub_cancel_left] using h1
theorem gP{n v o}(h:w.ownsRow B e 1 v n xs):(w.alloc o).ownsRow B e 1 v n xs/\v.ownBlock≠some w.heap.size:=by
 obtain⟨l,t⟩:=h;rcases t with q|⟨g,cap,i,rfl,C,p,r⟩
 .exact ⟨⟨l,.inl q⟩,by rw[q.1];simp[Value.ownBlock]⟩
 .have j:=(zU.1 p).1
  exact⟨⟨l,.inr ⟨g,cap,i,rfl,C,by rw[Below.heap_alloc _ _ _ j];exact p,r⟩⟩,by simp[Value.ownBlock];omega⟩
theorem qiB(n i)(zs:List Int)(t)(w g:qf)(v1)(J:n<=1000000)(P:i<=n)(j:g.ownsRow w.heap.size 3 1 v1 n (zs.map (Value.int .i64)))(l:Below w.heap.size w g)(r:w.drawn<=g.drawn) :
  Calls qc 89 #[v1,.int .i64 i,.slice (some ⟨g.heap.size,0,none⟩) 1 1] (g.alloc (.cells #[.int .i64 t] 3)) fun e p=>∃ C,e = .returned C/\p.ownsRow w.heap.size 3 1 C (n+1) ((zs.take i++t :: zs.drop i).map (Value.int .i64))/\C ≠ .slice none 0 0/\Below w.heap.size w p/\w.drawn<=p.drawn:=by
 have I:=l.size;refine(insO (w:=g.alloc (.cells #[.int .i64 t] 3)) (vb:=g.heap.size) (t:=t) (gP j).1 (by show _<=(g.heap.push _).size;simp;omega) P J (by show (g.heap.push _)[g.heap.size]?=_;simp) (gP (o := .cells #[.int .i64 t] 3) j).2).mono ?_;rintro e p ⟨R,rfl,T,U,h3,h4⟩;exact⟨R,rfl,T,U,(l.alloc I _).trans h3,zS r h4⟩
theorem addW(v0 n g)(zs:List Int)(t w)(U:n<=1000000)(hi:g<=n)
    (i:Calls qc 71 #[v0] w fun e w'=>∃ o,e = .returned o/\w'.ownsRow w.heap.size 3 1 o n (zs.map (Value.int .i64))/\Below w.heap.size w w'/\w.drawn<=w'.drawn) :
    Calls qc 88 #[v0,.int .i64 g,.bool false,.int .i64 t] w fun e w'=>∃ o,e = .returned o/\w'.ownsRow w.heap.size 3 1 o (n+1) ((zs.take g++t :: zs.drop g).map (Value.int .i64))/\o ≠ .slice none 0 0/\Below w.heap.size w w'/\w.drawn<=w'.drawn:=by
  go_enter func88,Tryz.ntmps88
  go_wp2_with (first
    | (go_at_call 71;refine i.mono ?_;rintro e w1 ⟨v1,rfl,j,l,p⟩
       have r:=qiB n g zs t w w1 v1 U hi j l p;clear j l p)
    | (go_at_call 89;refine r.mono ?_;rintro e C ⟨I,rfl,J,P,R,T⟩
       have Y:Aside (C.ownsRow w.heap.size 3 1 I (n+1) ((zs.take g++t :: zs.drop g).map (Value.int .i64))/\I ≠ .slice none 0 0/\Below w.heap.size w C/\w.drawn<=C.drawn):=⟨J,P,R,T⟩;clear J P R T))
  go_ret
  exact⟨_,rfl,Y.out.1,Y.out.2.1,Y.out.2.2⟩
end
end HQ
namespace HR
open E1 GB GD HQ
section
variable {t:Int}
theorem qiC(l t):yF l t<=l.length:=List.countP_le_length
theorem gQ(x l t):yF (x :: l) t=yF l t+if x<t then 1 else 0:=by
 unfold yF;rw[List.countP_cons];by_cases h:x<t<;>simp[h]
theorem gR{l}(h:∀ x,x∈l->¬x<t):yF l t=0:=by
 unfold yF;rw[List.countP_eq_zero];intro x g;simpa using h x g
theorem gS:∀{l},sorted l->t ∉ l->l.take (yF l t)++t :: l.drop (yF l t)=insS t l
 | [],_,_=>rfl
 |x :: l,i,g=>by
  obtain⟨j,o⟩:=ji.1 i;rw[ql,not_or]at g;rw[insS,gQ];by_cases h:t<x
  .rw [if_pos h,zIn,gR (fun y p=>zW1 (j y p))];rfl
  .rw [if_neg h,if_neg g.1,if_pos (zW1 g.1),List.take_succ_cons,List.drop_succ_cons,yU,gS o g.2]
theorem gT:∀{l},sorted l->t∈l->insS t l=l
 | [],_,h=>by simp at h
 |x :: l,i,g=>by
  obtain⟨j,o⟩:=ji.1 i;rw[insS];rcases ql.1 g with rfl|g
  .rw [zIn,if_pos rfl]
  .have:=j t g
   rw[zIn,zIn,gT o g]
theorem gU:∀{l},sorted l->t∈l->l.take (yF l t)++l.drop (yF l t+1)=delS t l/\yF l t<l.length
 | [],_,h=>by simp at h
 |x :: l,o,p=>by
  obtain⟨g,r⟩:=ji.1 o;rw[gQ];by_cases h:t=x
  .subst h
   rw[zIn,gR (fun y i=>zW1 (g y i))];refine⟨?_,zSp⟩;have:delS t l=l:=List.filter_eq_self.2 fun y i=>by have:=g y i;simp;omega
   simp only[delS]at this;simp[delS,this]
  .have j:t∈l:=by rcases ql.1 p with e|e;exact absurd e h;exact e
   have:=g t j;obtain⟨C,I⟩:=gU r j;rw[if_pos this,List.take_succ_cons,List.drop_succ_cons,yU,C];refine⟨?_,zSo⟩;simp only[delS,List.filter_cons];rw[if_pos zSo]
theorem qiD{l}(g:t ∉ l):delS t l=l:=List.filter_eq_self.2 fun y i=>by
 simp;rintro rfl;exact g i
theorem gV{G h x y z u vs}(r:zw G h [x,y,z,u] vs):∃ a b c d,vs=#[a,b,c,d]/\VRel G h x a/\VRel G h y b/\VRel G h z c/\VRel G h u d:=by
 obtain⟨j,g⟩:=r;have l:vs.size=4:=zUs j;refine⟨vs.getD 0 j2,vs.getD 1 j2,vs.getD 2 j2,vs.getD 3 j2,?_,g 0 _ rfl,g 1 _ rfl,g 2 _ rfl,g 3 _ rfl⟩;apply Array.ext
 .simpa using l
 .intro i o p
  rcases (show i=0\/i=1\/i=2\/i=3 by omega) with rfl|rfl|rfl|rfl<;>simp[qK,o]
theorem gW{w w'}{i:Nat->Prop}{k J ys}(P:∀ b,i b->b<w.heap.size)(p:RowKit.Below w.heap.size w w')(h:w'.ownsRow w.heap.size 3 1 J k (ys.map (Value.int .i64))) :
  ∃ o,(∀ b,i b->o b)/\(∀ b,o b->b<w'.heap.size/\(i b\/w.heap.size<=b))/\VRel ⟨o,[]⟩ w'.heap (lI ys) J:=by
 have a0:=p.size;have R:ys.length=k:=by simpa using h.1
 rcases h.2 with ⟨rfl,rfl⟩|⟨g,cap,r,rfl,hg,T,hk,_,hs,ht⟩
 .obtain rfl:ys=[]:=jY R
  exact⟨i,fun _ h=>h,fun b p=>⟨zW1 (P b p),.inl p⟩,.nil _⟩
 .refine ⟨fun b=>i b\/b=g,fun _ h => .inl h,fun b p=>?_,?_⟩
  .rcases p with p|rfl
   .exact ⟨zW1 (P b p),.inl p⟩
   .exact ⟨(zU.1 T).1,.inr hg⟩
  .have t:(ys.map rI).length=k:=by simpa using R
   rw[<-t];refine .lst false (ys.map rI) 1 ⟨g,0,none⟩ cap r 3 (0,0) (fun j => .int .i64 (ys.getD j 0)) T rfl zOm zSp (.inr rfl) (zJ ys).ok ?_ ?_
   all_goals
    intro j x U;rw[w6,zj]at U;obtain⟨y,C,rfl⟩:=yA.1 U;have hj:j<ys.length:=(qi.1 C).1;have I:ys.getD j 0=y:=by rw[zf,C];rfl
    simp only[I]
   .have:=congrArg (fun l=>l[j]?) ht
    simp only[yG,uo]at this;rw[if_pos zOm,zj,C]at this;simpa using this
   .exact .sc _ rfl
theorem qiE(l t)(R:sorted l)(hl:l.length<=100000):qh qc 88 [lI l,aI (yF l t),aB (decide (t∈l)),aI t] (lI (insS t l)):=by
 by_cases h:t∈l
 .rw [gT R h,decide_eq_true h]
  refine qSU call88 func88 rfl ?_;exact .hf _ (qR _)
 .rw [<-gS R h,decide_eq_false h]
  refine⟨call88,fun T w vs U ra=>?_⟩;obtain⟨v0,v1,v2,v3,rfl,r0,r1,r2,r3⟩:=gV ra;cases r1;cases r2;cases r3;have C:Calls qc 71 #[v0] w fun e i=>∃ o,e = .returned o/\i.ownsRow w.heap.size 3 1 o l.length (l.map (Value.int .i64))/\RowKit.Below w.heap.size w i/\w.drawn<=i.drawn:=by
   rcases Wm r0 with ⟨rfl,a,c,rfl⟩|⟨I,b,off,c,arr,e,fr,rfl,hb,hc⟩
   .cases a with
    |none =>
     refine(Tryz.slices_Clone_int_nil 0 c w).mono ?_;rintro e i ⟨rfl,rfl⟩;exact⟨_,rfl,⟨rfl,.inl ⟨rfl,rfl⟩⟩,RowKit.Below.refl _ _,qs _⟩
    |some a=>exact qiA a c w
   .have g:∀ j,j<l.length->w.cell? ⟨b,off+j,none⟩=some (.int .i64 (l.getD j 0)):=by
     intro j hj;simp only[World.cell?,hb,Option.isSome_none,Bool.false_eq_true,if_false];exact hc j hj
    have h0:0<l.length:=by cases l with|nil=>exact absurd rfl I|cons=>simp
    refine(gO b off l.length c l w rfl h0 zOm g).mono ?_;rintro e i ⟨o,rfl,J,_,r,P⟩;exact⟨o,rfl,J,r,P⟩
  refine(addW v0 l.length (yF l t) l t w zOm (qiC l t) C).mono ?_;rintro e i ⟨o,rfl,J,_,r,P⟩;obtain⟨p,g1,g2,g3⟩:=gW U.imm r J;exact⟨p,o,rfl,g1,g2,⟨r,P⟩,g3⟩
theorem qiF(l t)(r:sorted l)(hl:l.length<=100000):qh qc 91 [lI l,aI (yF l t),aB (decide (t∈l)),aI t] (lI (delS t l)):=by
 by_cases h:t∈l
 .obtain ⟨C,o⟩:=gU r h
  rw[<-C,decide_eq_true h];refine⟨call91,fun I w vs J P=>?_⟩;obtain⟨v0,v1,v2,v3,rfl,R,T,U,r3⟩:=gV P;cases T;cases U;cases r3;rcases Wm R with ⟨rfl,a,c,rfl⟩|⟨a0,b,off,c,arr,e,fr,rfl,hb,hc⟩
  .simp at h
  have g:∀ j,j<l.length->w.cell? ⟨b,off+j,none⟩=some (.int .i64 (l.getD j 0)):=by
   intro j hj;simp only[World.cell?,hb,Option.isSome_none,Bool.false_eq_true,if_false];exact hc j hj
  refine(remW b off l.length c (yF l t) l t w rfl zOm g o).mono ?_;rintro e w' ⟨v',rfl,h1,_,p,h3⟩;obtain⟨i,g1,g2,g3⟩:=gW J.imm p h1;exact⟨i,v',rfl,g1,g2,⟨p,h3⟩,g3⟩
 .rw [qiD h,decide_eq_false h]
  refine qSU call91 func91 rfl ?_;exact .hf _ (qR _)
theorem WZ(a b v es i):qX qc 3 (.sc (.int .i64 a)) ((.sc (.int .i64 b),v) :: es) i=if a=b then some (some i) else qX qc 3 (.sc (.int .i64 a)) es (i+1):=by
 by_cases h:a=b
 .subst h;simp[qX,yV,go_sem]
 .simp [qX,yV,go_sem,h]
abbrev fnA(f:j1):AV := .fn (.func f) [] []
abbrev ruE(k:Int):AV:=if k=1 then .agg [fnA 87,fnA 88] else .agg [fnA 90,fnA 91]
abbrev ruM:AV := .ims [(aI 1,ruE 1),(aI 2,ruE 2)]
theorem gX(k):HF (ruE k):=by
 unfold ruE;split<;>exact HF.agg fun c g=>by simp at g;rcases g with rfl|rfl<;>exact w9 _
theorem qiG:qh qc 54 [] ruM:=by
 refine qSU call54 func54 rfl ?_;simp[go_sem,WZ];refine fZ (es:=[(aI 1,ruE 1),(aI 2,ruE 2)]) (fs:=[(aI 1,ruE 1),(aI 2,ruE 2)]) rfl zSp zSp (fun x=>Iff.rfl) fun x g=>?_
 simp only[ql,qG,or_false]at g;rcases g with rfl|rfl
 .exact ⟨HF.sc _,gX 1⟩
 .exact ⟨HF.sc _,gX 2⟩
end
end HR
set_option maxHeartbeats 1000000
namespace HS
open YF P1 E1 E3 EO F4 GB GD GF GR GS HF1 HN HO HP HR
section
variable {e:Ed}{vs:List Bool}{mu:Mu}{j:Nat}{S:Sts}
theorem kinds(h:e.kind=1\/e.kind=2):∃ F1 F2,ruE e.kind = .agg [fnA F1,fnA F2]/\(∀ bd,bd.up.ts.length<=1000000000->bd.lo.ts.length<=1000000000->qh qc F1 [eBd bd,aI e.tup] (aB (!decide ((e.kind=1/\e.tup ∉ bd.up.ts)\/(e.kind=2/\e.tup∈bd.lo.ts))))) /\
  ∀ l,sorted l->l.length<=100000->qh qc F2 [lI l,aI (yF l e.tup),aB (decide (e.tup∈l)),aI e.tup] (lI (edTs e l)):=by
 rcases h with h|h
 .refine ⟨_,_,by rw[ruE,if_pos h],fun bd j o=>?_,fun l g i=>?_⟩
  .have:=qh5 bd e.tup j
   rw[show decide (e.tup∈bd.up.ts)=(!decide ((e.kind=1/\e.tup ∉ bd.up.ts)\/(e.kind=2/\e.tup∈bd.lo.ts))) by simp[h]]at this;exact this
  .rw [edTs,if_pos h];exact qiE l e.tup g i
 .refine ⟨_,_,by rw[ruE,zIn],fun bd j o=>?_,fun l g i=>?_⟩
  .have:=qh6 bd e.tup o
   rw[show (!decide (e.tup∈bd.lo.ts))=(!decide ((e.kind=1/\e.tup ∉ bd.up.ts)\/(e.kind=2/\e.tup∈bd.lo.ts))) by simp[h]]at this;exact this
  .rw [edTs,zIn];exact qiF l e.tup g i
def edTo(vs:List Bool)(e:Ed)(S:Sts)(j:Nat):Sts:=S.mapIdx fun s st=>if s<j/\hits vs e s=true then st.modify e.field.toNat (edR e) else st
theorem qiH(vs e S):edTo vs e S 0=S:=by
 refine zZ fun s=>?_
 simp[edTo]
theorem W0(vs e S j):(edTo vs e S j).length=S.length:=by simp[edTo]
theorem qiI(vs e S):edTo vs e S S.length=edSt vs e S:=by
 refine zZ fun s=>?_
 simp only[edTo,edSt,List.getElem?_mapIdx];cases h:S[s]? with
 |none=>rfl
 |some st =>
  have:=(qi.1 h).1;simp[this]
theorem qiJ(h:hits vs e j=false):edTo vs e S (j+1)=edTo vs e S j:=by
 refine zZ fun s=>?_
 simp only[edTo,List.getElem?_mapIdx];cases S[s]? with
 |none=>rfl
 |some st =>
  simp only[qZ];congr 1;by_cases g:s=j
  .subst g;simp[h]
  .simp [show (s<j+1)=(s<j) by simp;omega]
theorem qiK(g):(edTo vs e S j)[j]?=some S[j]:=by
 simp[edTo,g]
theorem qiL(g)(h:hits vs e j=true):edTo vs e S (j+1)=(edTo vs e S j).set j (S[j].modify e.field.toNat (edR e)):=by
 refine zZ fun s=>?_
 rw[V6];simp only[edTo,List.getElem?_mapIdx,List.length_mapIdx];by_cases i:j=s
 .subst i
  rw[if_pos rfl,if_pos g,qx g];simp[h]
 .rw [if_neg i]
  cases S[s]? with
  |none=>rfl
  |some st=>simp only[qZ];congr 1;simp[show (s<j+1)=(s<j) by simp;omega]
structure ShpS (nS nF K:Nat) (S:Sts):Prop where
 shp:Shp nS nF S
 sm:∀ s f,s<nS->f<nF->(getR S s f).ts.length<=K
theorem qiM(e l):(edTs e l).length<=l.length+1:=by
 have g:∀(t:Int)(l:List Int),(insS t l).length<=l.length+1:=fun t l=>by
  induction l with
  |nil=>simp[insS]
  |cons x l i=>rw[insS];split;simp;split;simp;simp;exact i
 unfold edTs;split
 .exact g _ _
 .have:=List.length_filter_le (fun x=>!decide (x=e.tup)) l
  show (l.filter _).length<=_;omega
theorem ShpS.ed{nS nF K}(h:ShpS nS nF K S):ShpS nS nF (K+1) (edSt vs e S):=by
 refine⟨h.shp.ed,fun s f g hf=>?_⟩;have:=h.sm s f g hf;rw[J6 h.shp.lens (by rw[h.shp.len];exact g) hf];split
 .have:=qiM e (getR S s f).ts
  show (edTs e _).length<=_;omega
 .omega
theorem ShpS.eds{nS nF vs}:∀{l K S},ShpS nS nF K S->ShpS nS nF (K+l.length) (edsL vs l S)
 | [],K,S,h=>h
 |e :: l,K,S,h=>by
  have:=ShpS.eds (vs:=vs) (l:=l) (h.ed (vs:=vs) (e:=e));rw[List.length_cons,show K+(l.length+1)=K+1+l.length by omega];exact this
theorem StO.put{lo av f bj row'}(h:StO mu lo av f S)(o)(hf:f j = .sl bj 2 0 S[j].length)(C:row'.length=S[j].length):StO (mu.set bj (.arr (row'.map cRel).flatten)) lo av f (S.set j row'):=by
 have g:qr (f j)=some bj:=by rw[hf];rfl
 have p:=Own.lt (h.row j o) g;refine⟨?_,h.lo0,fun s l=>?_,fun s b l q=>h.lor s b (zUs l) q,fun s t b l I r q=>h.dis s t b (zUs l) (zUs I) r q,fun q=>h.ne0 (zUs q),fun s l q=>?_⟩
 .rw [V3]
  exact Own.frame h.own fun b q=>jV fun e=>(h.lor j bj o g).2 (by rw[e];exact q)
 .have i:s<S.length:=by simpa using l
  by_cases e:j=s
  .subst e
   rw[List.getElem_set_self];exact .inr ⟨bj,by rw[hf,yi,C],yq p⟩
  .rw [qbK e]
   exact Own.frame (h.row s i) fun b q=>jV fun J=>h.dis j s bj o i e g (by rw[J];exact q)
 .have i:s<S.length:=by simpa using l
  by_cases e:j=s
  .subst e;exact⟨bj,g⟩
  .rw [qbK e]at q;exact h.ne s i q
theorem gY(f:Nat->AV):∀ l:List Nat,(l.map fun s=>[f s]).flatten=l.map f
 | []=>rfl
 |x :: l=>by rw[jH,List.flatten_cons,gY f l];rfl
theorem Zr:∀(g:List Rl)(F h),List.take 1 (List.drop (F*2+1) (g.map cRel).flatten)=[lI g[F].ts]
 |r :: g,0,_=>rfl
 |r :: g,F+1,h=>by
  have:=Zr g F (zUs h);rw[show (F+1)*2+1=(F*2+1)+2 by omega];simpa using this
theorem gZ(new):∀(g:List Rl)(F h),(g.map cRel).flatten.set (F*2+1) (lI new)=((g.set F ⟨g[F].ar,new⟩).map cRel).flatten
 |r :: g,0,_=>zSp
 |r :: g,F+1,h=>by
  have:=gZ new g F (zUs h);rw[show (F+1)*2+1=(F*2+1)+2 by omega];simpa using this
theorem StO.rd{lo av f}(h:StO mu lo av f S):Rd mu av (lSt S):=by
 have o:S.map cSt=(qq S.length).map fun s=>[lRel (S.getD s [])]:=by
  refine zZ fun s=>?_
  rw[zj,zj];by_cases g:s<S.length
  .rw [qx g,List.getElem?_range g]
   simp[g]
  .rw [jG zOm,jG zSo];rfl
 show Rd mu av (.lst false (S.map cSt));rw[o];refine aH h.own (fun r i=>?_) (fun r i=>?_) fun s g=>?_
 .obtain ⟨n,_,rfl⟩:=qp.1 i;rfl
 .obtain ⟨n,_,rfl⟩:=qp.1 i;rfl
 .have j:=zG.1 g
  have p:S.getD s []=S[s]:=by rw[zf,qx j];rfl
  rw[p];exact⟨Own.rd (h.row s j) (vY _).ok fun r i c l=>by
   obtain⟨q,_,rfl⟩:=qp.1 i;simp at l;rcases l with rfl|rfl
   .exact HF.sc _
   .exact qR _,trivial⟩
def outA(m:Md):Except Int Sts->AV
 | .ok T => .tup [eMd { m with sK:=T },aI 0]
 | .error e => .tup [eMd ⟨⟨[],0⟩,[],0⟩,aI e]
abbrev ruZ:AV := .agg [.sc .nilFunc,.sc .nilFunc]
theorem qiN(mu){k}(h:¬(k=1\/k=2)):yC qc mu 107 ruM (aI k) true=some (.tup [ruZ,aB false]):=by
 simp[yC,go_sem,WZ,show ¬k=1 from fun q=>h (.inl q),show ¬k=2 from fun q=>h (.inr q)]
theorem qiO(mu){k}(h:k=1\/k=2):yC qc mu 107 ruM (aI k) true=some (.tup [ruE k,aB true]):=by
 rcases h with rfl|rfl<;>simp[yC,go_sem,WZ]
theorem aV{a b x y}(j:Rd mu a x)(l:Rd mu b y):Rd mu (.tup [a,b]) (.tup [x,y]):=by
 refine .tup _ _ rfl fun k u v g i=>?_
 match k with
 | 0=>simp at g i;subst g;subst i;exact j
 | 1=>simp at g i;subst g;subst i;exact l
 |k+2=>simp at g
theorem rdZ(mu x):Rd mu (.tup [.agg zMd,aI x]) (.tup [eMd ⟨⟨[],0⟩,[],0⟩,aI x]):=by
 have g:Rd mu (.lst true []) (.lst false []) := .wk _ true _ (.hf _ (HF.lst (full:=true) (xs:=[]) fun r i=>by simp at i));exact aV (Rd.aggs ⟨g,.hf _ (HF.sc _),g,.hf _ (HF.sc _),trivial⟩) (.hf _ (HF.sc _))
theorem g7(ts b m l)(hb:b.length=ts.sA.length)(cb:∀ x,x∈b->x.up.ts.length<=1000000000/\x.lo.ts.length<=1000000000)(hS:ShpS m.sK.length ts.sA.length 1000 m.sK)(hn:m.sK.length<=1000)(hf:ts.sA.length<=1000)(ha:m.sc.sC.length<=1000000)(hl:l.length<=20000) :
  qh qc 14 [eTS ts,lBd b,eMd m,lEd l] (outA m (jO (vsT ts) m.sK.length ts.sA.length b l m.sK)):=by
 have cc:OkSt m.sK:=⟨hn,fun s hs=>zW1 (hS.shp.lens s hs),fun s hs r hr=>by
  obtain⟨i,hi,rfl⟩:=um hs;obtain⟨j,hj,rfl⟩:=um hr;have ct:=hS.shp.lens _ (qv hi);have:=hS.sm i j hi zOm;rw[wu hi hj]at this;omega⟩
 refine qSU call14 func14 rfl ?_;refine aA (qh8 m cc ha _) ?_ (by rintro r m ⟨P,f,h,_⟩;cases h);rintro r aa ⟨P,f,h,hO,bc,cs⟩;cases h;have h0:aa[0]?=some (.arr zMd):=by rw[bc 0 zSp];rfl
 have cu:0<aa.length:=(qi.1 h0).1;have cv:∀ b,qr P=some b->1<=b/\b<aa.length:=fun b q=>⟨hO.lo0 b q,Own.lt hO.own q⟩
 have cd:∀ s b,s<m.sK.length->qr (f s)=some b->1<=b/\b<aa.length:=fun s b hs q=>⟨(hO.lor s b hs q).1,Own.lt (hO.row s hs) q⟩
 have ab:(m.sK.length=0/\(P = .lst true []\/∃ b0,P = .sl b0 1 0 0))\/(0<m.sK.length/\∃ b0,P = .sl b0 1 0 m.sK.length):=by
  rcases Nat.eq_zero_or_pos m.sK.length with h|h
  .rcases hO.own with e|⟨b,e,_⟩
   .rw [h]at e;exact .inl ⟨h,.inl (zUs e)⟩
   .rw [h]at e;exact .inl ⟨h,.inr ⟨b,zUs e⟩⟩
  .obtain ⟨b0,be⟩:=hO.ne0 h
   rcases hO.own with e|⟨b,e,_⟩
   .rw [e]at be;cases be
   .exact .inr ⟨h,b,zUs e⟩
 have bg:=Own.one hO.own;have bh:=Own.cells hO.own;simp[go_sem,bg,bh];generalize hR:aa.length=R at *
 refine fY qiG .nil ?_;generalize cf:vsT ts=T at *
 generalize cw:m.sK.length=nS at *
 generalize bi:ts.sA.length=nF at *
 refine aC l.length (fun k st=>st.tm 1=lBd b/\st.tm 4 = .ip (cTS ts)/\st.tm 8 = .ptr 0 0/\st.tm 10 = .ptr R 0/\st.tm 11=ruM/\st.tm 23=lEd l/\st.tm 24=aI l.length/\st.tm 25=aI k /\
  st.mu[0]?=some (.arr zMd)/\st.mu[R]?=some (.arr [lI m.sc.sC,aI m.sc.sN,P,aI m.loop])/\(∀ e,e∈l.take k->errE nS nF b e=0)/\StO st.mu 1 P f (edsL T (l.take k) m.sK)) ?_ ?_
 .refine ⟨zSi,zSi,zSi,zS1 hR,zSi,zSi,zSi,zSi,?_,?_,zSp,?_⟩
  .simp only[go_sem]
   rw[zGa];exact h0
  .simp [go_sem,<-hR]
  .simp only[go_sem,List.take_zero,List.foldl_nil]
   exact hO.frame fun i _ hi=>zGa
 rintro k st hk ⟨e1,e4,e8,p,U,a0,t,C,c0,cR,a5,b1⟩;have cx:R<st.mu.length:=(qi.1 cR).1;have bk:∀ L,(st.mu++L)[0]?=some (.arr zMd):=fun L=>by rw[zGa];exact c0
 have a6:∀ L,(st.mu++L)[R]?=some (.arr [lI m.sc.sC,aI m.sc.sN,P,aI m.loop]):=fun L=>by rw[zGa];exact cR
 have a3:∀ L (h:0<(st.mu++L).length),(st.mu++L)[0]'h = .arr zMd:=fun L h=>by have:=bk L;rw[qx h]at this;exact Option.some.inj this
 by_cases ad:k<l.length
 .have w1:=zWk k
  have ai:ShpS nS nF (1000+(l.take k).length) (edsL T (l.take k) m.sK):=hS.eds;have cy:(l.take k).length<=20000:=zSo;have bl:l.take (k+1)=l.take k++[l[k]]:=by rw[jx ad]
  have g:jO T nS nF b l m.sK=jO T nS nF b (l.drop k) (edsL T (l.take k) m.sK):=by
   conv=>lhs;rw[<-un k l,pa,J7 a5]
  rw[zB ad,jO]at g;generalize cg:edsL T (l.take k) m.sK=S at *
  generalize bm:l[k]=e at *
  by_cases a7:e.kind=1\/e.kind=2
  case neg =>
   have hE:errE nS nF b e=1:=by unfold errE;rw[if_pos (.inl ⟨fun q=>a7 (.inl q),fun q=>a7 (.inr q)⟩)]
   rw[hE,zIn]at g;rw[g];simp[go_sem,a0,t,C,U,ad,bm,qiN _ a7];simp[go_sem,e8,a3];exact rdZ _ 1
  obtain⟨F1,F2,ch,bn,b2⟩:=kinds a7;have aw:=fun I=>qiO I a7
  rw[ch]at aw;simp[go_sem,a0,t,C,U,ad,bm,aw];have aj:(e.state<0\/(nS:Int)<=e.state\/e.field<0\/(nF:Int)<=e.field)->errE nS nF b e=1:=fun q=>by unfold errE;rw[if_pos (.inr q)]
  by_cases q1:e.state<0
  .rw [aj (.inl q1),zIn]at g
   rw[g];simp[go_sem,q1,e8,a3];exact rdZ _ 1
  by_cases q2:(nS:Int)<=e.state
  .rw [aj (.inr (.inl q2)),zIn]at g
   rw[g];simp[go_sem,q1,p,a6];refine cX (aI nS) (by rcases ab with ⟨h0,e|⟨_,e⟩⟩|⟨_,b0,e⟩<;>rw[e]<;>simp[h0]) ?_;simp[go_sem,q1,q2,e8,a3];exact rdZ _ 1
  obtain⟨cz,b0,rfl⟩:0<nS/\∃ b0,P = .sl b0 1 0 nS:=by
   rcases ab with ⟨h0,_⟩|h
   .omega
   .exact h
  by_cases q3:e.field<0
  .rw [aj (.inr (.inr (.inl q3))),zIn]at g
   rw[g];simp[go_sem,q1,q2,q3,p,a6,e8,a3];exact rdZ _ 1
  by_cases q4:(nF:Int)<=e.field
  .rw [aj (.inr (.inr (.inr q4))),zIn]at g
   rw[g];simp[go_sem,q1,q2,q3,q4,p,a6,e8,a3,e4,bi];exact rdZ _ 1
  simp[go_sem,q1,q2,q3,q4,p,a6,e8,a3,e4,bi];obtain⟨F,hF⟩:=Int.eq_ofNat_of_zero_le (show 0<=e.field by omega);have b3:F<nF:=zOm;have b4:F<b.length:=zOm;have bo:=cb _ (qv b4);have ae:errE nS nF b e=if (e.kind=1/\e.tup ∉ b[F].up.ts)\/(e.kind=2/\e.tup∈b[F].lo.ts) then 330 else 0:=by
   unfold errE;rw[if_neg (by rintro (⟨h1,h2⟩|h|h|h|h);rcases a7 with h|h;exact h1 h;exact h2 h;all_goals omega),hF];simp[b4]
  have hm:=bn b[F] bo.1 bo.2;refine cN zKr ?_;simp[go_sem,e1,hF,b4];refine cY hm (.zk (pN _) (.zs .nil)) ?_;by_cases q5:(e.kind=1/\e.tup ∉ b[F].up.ts)\/(e.kind=2/\e.tup∈b[F].lo.ts)
  .rw [if_pos q5]at ae
   rw[ae,zIn]at g;rw[g,decide_eq_true q5];simp[go_sem,e8,a3];exact rdZ _ 330
  rw[if_neg q5]at ae;rw[ae,if_pos rfl]at g;rw[decide_eq_false q5];have bq:S.length=nS:=ai.shp.len;have cj:T.getD F true=(ts.sA[F]' zOm).var:=by rw[<-cf,zf,zj,qx zOm];rfl
  simp[go_sem,p,a6];generalize ak:st.mu.length=Re at *
  refine aC nS (fun j st2=>st2.tm 1=lBd b/\st2.tm 4 = .ip (cTS ts)/\st2.tm 8 = .ptr 0 0/\st2.tm 10 = .ptr R 0/\st2.tm 11=ruM/\st2.tm 13 = .ptr Re 0/\st2.tm 14 = .ptr (Re+1) 0/\st2.tm 23=lEd l/\st2.tm 24=aI l.length/\st2.tm 25=aI k/\st2.tm 79=aI nS/\st2.tm 80=aI j /\
   st2.mu[0]?=some (.arr zMd)/\st2.mu[R]?=some (.arr [lI m.sc.sC,aI m.sc.sN,.sl b0 1 0 nS,aI m.loop])/\st2.mu[Re]?=some (.arr (cEd e))/\st2.mu[Re+1]?=some (.arr [fnA F1,fnA F2])/\StO st2.mu 1 (.sl b0 1 0 nS) f (edTo T e S j)) ?_ ?_
  .refine ⟨zS1 e1,zS1 e4,zS1 e8,zS1 p,zS1 U,zS1 ak,zS1 ak,zS1 a0,zS1 t,zS1 C,zSi,zSi,?_,?_,?_,?_,?_⟩
   .simp only[go_sem];exact bk _
   .simp only[go_sem];exact a6 _
   .simp [go_sem,<-ak,hF]
   .simp [go_sem,<-ak]
   .rw [qiH]
    simp only[go_sem];exact b1.frame fun i _ hi=>ze hi
  clear e1 e4 e8 p U a0 t C;rintro j st2 hj ⟨e1,e4,e8,p,U,a1,b5,a0,t,C,a8,af,d0,dR,J,al,a4⟩;have da:=(qi.1 J).1;have db:=(qi.1 al).1;have lR:=(qi.1 dR).1;have ax:e.field.toNat=F:=by rw[hF];rfl
  by_cases a2:j<nS
  .have w2:=zWk j
   have a9:j<S.length:=zOm;have b6:F<ts.sA.length:=zOm;have o:hits T e j=(decide ((j:Int)=e.state)||!(ts.sA[F].var)):=by rw[hits,ax,cj]
   by_cases b7:hits T e j=true
   .have b8:=ai.shp.lens _ (qv a9)
    have an:(edTo T e S j)[j]'(by rw[W0];exact a9)=S[j]:=by
     have:=qiK (vs:=T) (e:=e) a9;rw[qx (by rw[W0];exact a9)]at this;exact Option.some.inj this
    have br:(edTo T e S j).length=nS:=by rw[W0,bq]
    obtain⟨bj,ag⟩:=a4.ne j zOm (by rw[an];omega);have ao:f j = .sl bj 2 0 nF/\st2.mu[bj]?=some (.arr (S[j].map cRel).flatten):=by
     rcases a4.row j zOm with q|⟨b',q,hc⟩
     .rw [q]at ag;cases ag
     .rw [q]at ag;cases ag
      rw[an]at q hc;exact⟨by rw[q,yi,b8],hc⟩
    obtain⟨ao,b9⟩:=ao;have ck:st2.mu[b0]?=some (.arr ((qq nS).map f)):=by
     rcases a4.own with q|⟨b',q,hc⟩
     .cases q
     .injection q with q1 _ _ _
      rw[q1,hc,br,gY]
    have aq:(j:Int)=e.state\/(¬(j:Int)=e.state/\ts.sA[F].var=false):=by
     rw[b7]at o;by_cases p1:(j:Int)=e.state
     .exact .inl p1
     .refine .inr ⟨p1,?_⟩
      cases hv:ts.sA[F].var with
      |false=>rfl
      |true=>rw[hv,decide_eq_false p1]at o;simp at o
    rcases aq with p1|⟨p1,p2⟩
    case' inl=>simp[go_sem,a8,af,a2,a1,J,p1.symm,e4,hF,b6,w2]
    case' inr=>simp[go_sem,a8,af,a2,a1,J,p1,e4,hF,b6,p2,w2]
    all_goals
     refine cN zKr ?_;have bs:List.take 1 (List.drop j ((qq nS).map f))=[.sl bj 2 0 nF]:=by rw[zB zSo];simp[ao]
     have au:F<S[j].length:=zOm;have cl:getR S j F=S[j][F]:=wu a9 au;have ah:=ai.shp.srt j F zOm b3;have cm:=ai.sm j F zOm b3;rw[cl]at ah cm;have bt:=binU S[j][F].ts e.tup zOm (ah.imp fun h=>zOm);have cn:=b2 S[j][F].ts ah zOm;have cp:(S[j].map cRel).flatten.length=nF*2:=by rw[yc (vY _).ok];simp[b8]
     have ay:=Zr S[j] F au;have bu:=gZ (edTs e S[j][F].ts) S[j] F au;generalize dc:(S[j].map cRel).flatten=FL at *
     have cq:j+1<=nS:=a2;simp[go_sem,p,a1,dR,J,ck,hF,a2,b3,bs,cq];refine cN zKr ?_;have bb:F*2+1+1<=FL.length:=zOm;simp[go_sem,a1,J,b9,ay,bb];refine fY bt (.zk (qR _) (.zs .nil)) ?_;refine cN zKr ?_;simp[go_sem,a1,b5,J,al,b9,ay,bb];refine cY cn (.zk (qR _) (.zs (.zs (.zs .nil)))) ?_;simp[go_sem,b9,bb,af,w2];obtain⟨g1,g2⟩:=cd j bj a2 ag;have bv:S[j].modify e.field.toNat (edR e)=S[j].set F ⟨S[j][F].ar,edTs e S[j][F].ts⟩:=by
      rw[ax];refine zZ fun i=>?_
      rw[List.getElem?_modify,V6];by_cases hi:F=i
      .subst hi;simp[au,edR]
      .simp [hi]
     rw[qiL a9 b7,bv];have hP:=StO.put a4 (j:=j) (bj:=bj) (row':=S[j].set F ⟨S[j][F].ar,edTs e S[j][F].ts⟩) zOm (by rw[ao,an,b8]) (by rw[an,V3]);rw[<-bu]at hP;refine⟨a2,aP ⟨zS1 e1,zS1 e4,zS1 e8,zS1 p,zS1 U,zS1 a1,zS1 b5,zS1 a0,zS1 t,zS1 C,zS1 a8,zSi,?_,?_,?_,?_,?_⟩⟩
     .simp only[go_sem]
      rw[zGl];exact d0
     .simp only[go_sem]
      rw[zGl];exact dR
     .simp only[go_sem]
      rw[zGl];exact J
     .simp only[go_sem]
      rw[zGl];exact al
     .simp only[go_sem]
      exact hP
   .have bw:hits T e j=false:=by simpa using b7
    rw[bw]at o;have p1:¬(j:Int)=e.state:=fun q=>by rw[decide_eq_true q]at o;simp at o
    have p2:ts.sA[F].var=true:=by cases hv:ts.sA[F].var with
     |true=>rfl
     |false=>rw[hv]at o;simp at o
    simp[go_sem,a8,af,a2,a1,J,p1,e4,hF,b6,p2,w2]
    try refine⟨a2,aP ?_⟩
    try refine aP ?_
    rw[qiJ bw];exact⟨zS1 e1,zS1 e4,zS1 e8,zS1 p,zS1 U,zS1 a1,zS1 b5,zS1 a0,zS1 t,zS1 C,zS1 a8,zSi,by simpa[go_sem] using d0,by simpa[go_sem] using dR,by simpa[go_sem] using J,by simpa[go_sem] using al,zVs a4⟩
  .obtain rfl:j=nS:=by omega
   simp[go_sem,a8,af,C,w1];have cr:edsL T (l.take (k+1)) m.sK=edSt T e S:=by
    rw[bl,<-cg];show List.foldl _ _ _=_;rw[Qi];rfl
   have az:=qiI T e S;rw[bq]at az;rw[az]at a4;refine⟨ad,aP ⟨zS1 e1,zS1 e4,zS1 e8,zS1 p,zS1 U,zS1 a0,zS1 t,zSi,by simpa[go_sem] using d0,by simpa[go_sem] using dR,fun x hx=>?_,by rw[cr];simpa[go_sem] using a4⟩⟩;rw[bl,qI,qL]at hx;rcases hx with hx|rfl
   .exact a5 x hx
   .exact ae
 .obtain rfl:k=l.length:=by omega
  simp[go_sem,t,C,e8,p,cR,c0,bg,bh];have ca:0<st.mu.length:=zOm;rw[yq ca];simp[go_sem];rw[za]at a5 b1;rw[J7 a5];exact aV (Rd.aggs ⟨.hf _ (qR _),.hf _ (HF.sc _),StO.rd (b1.frame fun i hi _=>zGl),.hf _ (HF.sc _),trivial⟩) (.hf _ (HF.sc _))
end
end HS
set_option maxHeartbeats 1000000
namespace HT
open E3 E4 EO F4 GB GC GR GS HF1 HO HP HS
structure OutM (mu:Mu) (p q r:Nat) (s f:Int) (xs:List Ed):Prop where
 av:∃ av,mu[p]?=some (.arr [av])/\Own mu 4 av (xs.map cEd)/\∀ b,qr av=some b->b≠p/\b≠q/\b≠r
 hq:mu[q]?=some (.arr [aI s])
 hr:mu[r]?=some (.arr [aI f])
 ne:p≠q/\p≠r/\q≠r
theorem addE(k s f t xs)(hl:xs.length<=2000000)(p q r mu)(h:OutM mu p q r s f xs) :
  qU qc 47 [aI t,.ptr p 0,.ip [aI k],.ptr q 0,.ptr r 0] mu (fun e m=>e = .ret (.tup [])/\OutM m p q r s f (xs++[⟨k,s,f,t⟩])/\mu.length<=m.length):=by
 obtain⟨⟨P,J,R,g⟩,T,U,n1,n2,n3⟩:=h;have lp:=(qi.1 J).1;have lq:=(qi.1 T).1;have lr:=(qi.1 U).1;have a2:=Own.one R;have a3:=Own.cells R;refine qSW call47 func47 rfl {} ?_;simp[go_sem,J,T,U];refine .inl (yB.ownB (e:=78) (sz:=4) (bt:=32) (zv := .agg [aI 0,aI 0,aI 0,aI 0]) (xs:=xs.map cEd) (ys:=[cEd ⟨k,s,f,t⟩]) zSi zSi zSi rfl rfl zOm zOm R (by simp[qF]) (WW _) (WW [_]) zSo ?_);intro o l i j a0 a1 a4;have C:l[p]?=some (.arr [P]):=by rw[j p lp (fun e=>(g p e).1 rfl)];exact J
 simp[go_sem,C,Own.one i,Own.cells i];have I:∀ b,qr o=some b->b≠p/\b≠q/\b≠r:=fun b q=>zW1 (a0 b q)
 refine⟨⟨⟨o,yq (qi.1 C).1,?_,I⟩,?_,?_,n1,n2,n3⟩,a1⟩
 .rw [zF]
  exact Own.set i _ fun e=>(I p e).1 rfl
 .rw [jV n1,j q lq (fun e=>(g q e).2.1 rfl)];exact T
 .rw [jV n2,j r lr (fun e=>(g r e).2.2 rfl)];exact U
abbrev fnE(k:Int)(p q r:Nat):AV := .fn (.func 47) [] [.ptr p 0,.ip [aI k],.ptr q 0,.ptr r 0]
theorem W3(s f):∀ a b,(zx s f a b).length<=a.length+b.length:=by
 intro a b
 fun_induction zx s f a b<;>simp at *<;>omega
theorem qiP(s f a b)(ha:a.length<=100000)(hb:b.length<=100000)(xs)(hl:xs.length<=1000000)(p q r mu)(h:OutM mu p q r s f xs) :
  qU qc 48 [lI a,lI b,fnE 2 p q r,fnE 1 p q r] mu (fun e m=>e = .ret (.tup [])/\OutM m p q r s f (xs++zx s f a b)/\mu.length<=m.length):=by
 have a1:=W3 s f a b;refine qSW call48 func48 rfl {} ?_;simp[go_sem];refine cH (fun n st=>∃ i g I,st.tm 0=lI i/\st.tm 1=lI g/\st.tm 2=fnE 2 p q r/\st.tm 3=fnE 1 p q r/\n=i.length+g.length/\I++zx s f i g=zx s f a b/\OutM st.mu p q r s f (xs++I)/\mu.length<=st.mu.length) (a.length+b.length) ?_ ?_
 .exact ⟨a,b,[],zSi,zSi,zSi,zSi,rfl,rfl,zVs h,zSi⟩
 rintro n st ⟨i,g,I,l,j,R,T,hn,o,U,a0⟩;have P:(xs++I).length<=2000000:=by
  have:=congrArg List.length o;simp only[qW]at this⊢;omega
 cases i with
 |nil =>
  cases g with
  |nil =>
   simp[go_sem,l,j];refine⟨?_,a0⟩;rw[<-o];simpa[zx] using U
  |cons y g =>
   have n0:¬(g.length:Int)+1=0:=zOm;have n1:1<=(g.length:Int)+1:=zOm;have n2:0<(g.length:Int)+1:=zOm;simp[go_sem,l,j,n2];refine cN zKr ?_;simp[go_sem,l,j,n0];refine cN zKr ?_;simp[go_sem,l,j,T];refine fU (caps:=[.ptr p 0,.ip [aI 1],.ptr q 0,.ptr r 0]) (addE 1 s f y (xs++I) P p q r st.mu U) ?_ (by rintro e m ⟨h,_⟩;cases h);rintro e m ⟨h,t,C⟩;cases h;simp[go_sem,j];refine⟨⟨_,_,⟨rfl,rfl⟩,(zJ (y :: g)).ok⟩,?_⟩;simp[go_sem,n1,zn];refine Keep.loop (([]:List Int).length+g.length) (by simp at hn⊢;omega) ⟨[],g,I++[⟨1,s,f,y⟩],zS1 l,zSi,zS1 R,zS1 T,rfl,?_,zVs t,by simp[go_sem];omega⟩;rw[<-o,zx];simp
 |cons x i =>
  have m0:¬(i.length:Int)+1=0:=zOm;have m1:1<=(i.length:Int)+1:=zOm;have m2:0<(i.length:Int)+1:=zOm;cases g with
  |nil =>
   simp[go_sem,l,j,m2];refine cN zKr ?_;simp[go_sem,l,j,R];refine fU (caps:=[.ptr p 0,.ip [aI 2],.ptr q 0,.ptr r 0]) (addE 2 s f x (xs++I) P p q r st.mu U) ?_ (by rintro e m ⟨h,_⟩;cases h);rintro e m ⟨h,t,C⟩;cases h;simp[go_sem,l];refine⟨⟨_,_,⟨rfl,rfl⟩,(zJ (x :: i)).ok⟩,?_⟩;simp[go_sem,m1,zn];refine Keep.loop (i.length+([]:List Int).length) (by simp at hn⊢;omega) ⟨i,[],I++[⟨2,s,f,x⟩],zSi,zS1 j,zS1 R,zS1 T,rfl,?_,zVs t,by simp[go_sem];omega⟩;rw[<-o,zx];simp
  |cons y g =>
   have n0:¬(g.length:Int)+1=0:=zOm;have n1:1<=(g.length:Int)+1:=zOm;simp[go_sem,l,j,m2];refine cN zKr ?_;by_cases h1:x<y
   .simp [go_sem,l,j,R,h1,n0,m2]
    refine fU (caps:=[.ptr p 0,.ip [aI 2],.ptr q 0,.ptr r 0]) (addE 2 s f x (xs++I) P p q r st.mu U) ?_ (by rintro e m ⟨h,_⟩;cases h);rintro e m ⟨h,t,C⟩;cases h;simp[go_sem,l];refine⟨⟨_,_,⟨rfl,rfl⟩,(zJ (x :: i)).ok⟩,?_⟩;simp[go_sem,m1,zn];refine Keep.loop (i.length+(y :: g).length) (by simp at hn⊢;omega) ⟨i,y :: g,I++[⟨2,s,f,x⟩],zSi,zS1 j,zS1 R,zS1 T,rfl,?_,zVs t,by simp[go_sem];omega⟩;rw[<-o,zx,if_pos h1];simp
   .simp [go_sem,l,j,h1,n0,m2]
    refine cN zKr ?_;by_cases h2:y<x
    .simp [go_sem,l,j,T,h2,m0]
     refine fU (caps:=[.ptr p 0,.ip [aI 1],.ptr q 0,.ptr r 0]) (addE 1 s f y (xs++I) P p q r st.mu U) ?_ (by rintro e m ⟨h,_⟩;cases h);rintro e m ⟨h,t,C⟩;cases h;simp[go_sem,j];refine⟨⟨_,_,⟨rfl,rfl⟩,(zJ (y :: g)).ok⟩,?_⟩;simp[go_sem,n1,zn];refine Keep.loop ((x :: i).length+g.length) (by simp at hn⊢;omega) ⟨x :: i,g,I++[⟨1,s,f,y⟩],zS1 l,zSi,zS1 R,zS1 T,rfl,?_,zVs t,by simp[go_sem];omega⟩;rw[<-o,zx,if_neg h1,if_pos h2];simp
    .simp [go_sem,l,j,h2,m0]
     refine cN zKr ?_;simp[go_sem,l,j];refine⟨⟨_,_,⟨rfl,rfl⟩,(zJ (x :: i)).ok⟩,?_⟩;simp[go_sem,m1,j,zn];refine⟨⟨_,_,⟨rfl,rfl⟩,(zJ (y :: g)).ok⟩,?_⟩;simp[go_sem,n1,zn];refine Keep.loop (i.length+g.length) (by simp at hn⊢;omega) ⟨i,g,I,zSi,zSi,zS1 R,zS1 T,rfl,?_,zVs U,by simp[go_sem];omega⟩;rw[<-o,zx,if_neg h1,if_neg h2]
theorem g8(k p q r mu):qU qc 46 [aI k,.ptr p 0,.ptr q 0,.ptr r 0] mu (fun e m=>e = .ret (fnE k p q r)/\m=mu):=by
 refine qSW call46 func46 rfl {} ?_;simp[go_sem]
def dIn(A B:Sts)(s j:Nat):List Ed:=(qq j).flatMap fun f:Nat=>zx (s:Int) (f:Int) (getR A s f).ts (getR B s f).ts
def dTo(n:Nat)(A B:Sts)(k:Nat):List Ed:=(qq k).flatMap fun s:Nat=>dIn A B s n
theorem ng(A B s j):dIn A B s (j+1)=dIn A B s j++zx (s:Int) (j:Int) (getR A s j).ts (getR B s j).ts:=by
 rw[dIn,List.range_succ,List.flatMap_append];simp[dIn]
theorem nh(n A B k):dTo n A B (k+1)=dTo n A B k++dIn A B k n:=by
 rw[dTo,List.range_succ,List.flatMap_append];simp[dTo]
theorem W4{A B N n s}(i:ShpS N n 1000 A)(hB:ShpS N n 1000 B)(g:s<N):∀{j},j<=n->(dIn A B s j).length<=j*2000
 | 0,_=>by simp[dIn]
 |j+1,h=>by
  rw[ng,qW];have l:=W4 i hB g (j:=j) zOm;have o:=W3 s j (getR A s j).ts (getR B s j).ts;have p:=i.sm s j g zOm;have r:=hB.sm s j g zOm;omega
theorem nj{A B N n}(g:ShpS N n 1000 A)(hB:ShpS N n 1000 B)(i:n<=100):∀{k},k<=N->(dTo n A B k).length<=k*200000
 | 0,_=>by simp[dTo]
 |k+1,h=>by
  rw[nh,qW];have j:=nj g hB i (k:=k) zOm;have l:=W4 g hB (s:=k) zOm (qs n);have:n*2000<=100*2000:=Nat.mul_le_mul_right _ i;omega
theorem nn(a b n N)(a2:a.sc.sN=b.sc.sN)(a3:a.sc.sC=b.sc.sC)(al:a.sc.sC.length<=1000000)(hA:ShpS N n 1000 a.sK)(hB:ShpS N n 1000 b.sK)(hN:N<=4)(hn:n<=100) :
  qh qc 12 [eMd a,eMd b] (lEd (jg N n a.sK b.sK)):=by
 have heq:=J5 a.sc.sC b.sc.sC zOm;rw[decide_eq_true a3]at heq;have a8:=hA.shp.len;have a9:=hB.shp.len;refine qSV call12 func12 rfl ?_;simp[go_sem,a2];refine cY heq (.zk (qR _) (.zk (qR _) .nil)) ?_;simp[go_sem,a8,a9];refine aC N (fun k st=>st.tm 2 = .ip (cMd a)/\st.tm 3 = .ip (cMd b)/\st.tm 5 = .ptr 0 0/\st.tm 37=aI N/\st.tm 38=aI k/\∃ P,st.mu[0]?=some (.arr [P])/\Own st.mu 4 P ((dTo n a.sK b.sK k).map cEd)/\qr P≠some 0) ?_ ?_
 .exact ⟨zS2 a2 a3,zSi,zSi,zSi,zSi,.lst true [],zSi,.inl (by simp[dTo]),by simp[qr]⟩
 rintro k st hk ⟨J,R,T,i,l,P,c0,ho,aa⟩;have l0:=(qi.1 c0).1;have ab:=Own.one ho;have ad:=Own.cells ho;by_cases t:k<N
 .have w1:=zWk k
  have o:k<a.sK.length:=zOm;have p:k<b.sK.length:=zOm;have la:=hA.shp.lens _ (qv o);have lb:=hB.shp.lens _ (qv p);generalize hQ:st.mu.length=Q at *
  simp[go_sem,i,l,t];refine cN zKr ?_;simp[go_sem,J,R,o,p,la,lb,hQ];refine aC n (fun j st2=>st2.tm 2 = .ip (cMd a)/\st2.tm 3 = .ip (cMd b)/\st2.tm 5 = .ptr 0 0/\st2.tm 37=aI N/\st2.tm 38=aI k/\st2.tm 6 = .ptr Q 0/\st2.tm 59=aI n/\st2.tm 60=aI j/\st2.mu[Q]?=some (.arr [aI k]) /\
   ∃ P,st2.mu[0]?=some (.arr [P])/\Own st2.mu 4 P ((dTo n a.sK b.sK k++dIn a.sK b.sK k j).map cEd)/\qr P≠some 0/\qr P≠some Q) ?_ ?_
  .refine ⟨zS1 J,zS1 R,zS1 T,zS1 i,zS1 l,zS1 hQ,zSi,zSi,by simp[go_sem,<-hQ],P,?_,?_,aa,fun q=>zW1 (Own.lt ho q)⟩
   .simp only[go_sem]
    rw[zGa];exact c0
   .simp only[go_sem,dIn,List.range_zero,List.flatMap_nil,yj]
    exact Own.push ho _
  clear J R T i l;rintro j st2 hj ⟨J,R,T,i,l,e6,a0,a1,dQ,a4,d0,C,a5,ae⟩;have aj:=Own.one C;have ak:=Own.cells C;have lQ:=(qi.1 dQ).1;by_cases g:j<n
  .have w2:=zWk j
   have ga:getR a.sK k j=a.sK[k][j]:=wu o zOm;have gb:getR b.sK k j=b.sK[k][j]:=wu p zOm;have sa:=hA.sm k j t g;have sb:=hB.sm k j t g;rw[ga]at sa;rw[gb]at sb;generalize I:st2.mu.length=r at *
   have U:∀ L,(st2.mu++L)[Q]?=some (.arr [aI k]):=fun L=>by rw[zGa];exact dQ
   simp[go_sem,a0,a1,g,I];refine fW [0,1,2,3,4,5,6,7,8,9,10,11,12,13,14,15,16,17,18,20,19,21,22] [(0,0,[]),(1,0,[]),(2,0,[]),(3,0,[]),(4,0,[]),(5,0,[]),(6,0,[]),(7,0,[]),(8,0,[]),(9,0,[]),(10,0,[]),(11,0,[]),(12,0,[]),(13,0,[]),(14,0,[]),(15,0,[]),(16,0,[]),(17,0,[]),(18,0,[]),(20,0,[]),(19,1,[1,2,4,5,8,10,11,13,14,17]),(21,1,[1,2,4,5,8,10,11,13,14,17]),(22,1,[])] zKr zKr zSi ?_;simp[go_sem,J,R,T,e6,U,o,p,la,lb,g,I];refine fU (caps:=[.ptr 0 0,.ptr Q 0,.ptr r 0]) (g8 2 0 Q r _) ?_ (by rintro e m ⟨h,_⟩;cases h);rintro e m ⟨h,rfl⟩;cases h;simp[go_sem,J,R,T,e6,U,o,p,la,lb,g,I];refine fU (caps:=[.ptr 0 0,.ptr Q 0,.ptr r 0]) (g8 1 0 Q r _) ?_ (by rintro e m ⟨h,_⟩;cases h);rintro e m ⟨h,rfl⟩;cases h;simp[go_sem,J,R,T,e6,U,o,p,la,lb,g,I];have af:(dTo n a.sK b.sK k++dIn a.sK b.sK k j).length<=1000000:=by
    rw[qW];have h1:=nj hA hB hn (k:=k) zOm;have h2:=W4 hA hB (s:=k) t (Nat.le_of_lt g);have:k*200000<=3*200000:=Nat.mul_le_mul_right _ zOm;have:j*2000<=100*2000:=Nat.mul_le_mul_right _ zOm;omega
   have a7:OutM (st2.mu++[.arr [aI j]]) 0 Q r k j (dTo n a.sK b.sK k++dIn a.sK b.sK k j):=
    ⟨⟨a4,by rw[zGa];exact d0,Own.push C _,fun b hb=>⟨fun e=>a5 (by rw[hb,e]),fun e=>ae (by rw[hb,e]),fun e=>zW1 (Own.lt C hb)⟩⟩,U _,by simp[<-I],zOm,zOm,zOm⟩
   refine aA (qiP k j a.sK[k][j].ts b.sK[k][j].ts zOm zOm _ af 0 Q r _ a7) ?_ (by rintro e m ⟨h,_⟩;cases h);rintro e m ⟨h,ag,ah⟩;cases h;obtain⟨⟨ai,g0,go,gn⟩,gq,gr,an⟩:=ag;simp[go_sem,a1,w2];refine⟨g,aP ⟨zS1 J,zS1 R,zS1 T,zS1 i,zS1 l,zS1 e6,zS1 a0,zSi,zVs gq,ai,zVs g0,?_,fun q=>(gn 0 q).1 rfl,fun q=>(gn Q q).2.1 rfl⟩⟩;simp only[go_sem];rw[ng,ga,gb,<-List.append_assoc];exact go
  .obtain rfl:j=n:=by omega
   simp[go_sem,a0,a1,l,w1];refine⟨t,aP ⟨zS1 J,zS1 R,zS1 T,zS1 i,zSi,a4,by simpa[go_sem] using d0,by rw[nh];simpa[go_sem] using C,a5⟩⟩
 .obtain rfl:k=N:=by omega
  simp[go_sem,i,l,T,c0,ab,ad];exact Own.rd ho (WW _).ok fun r hr c hc=>by
   obtain⟨q,_,rfl⟩:=qp.1 hr;simp at hc;rcases hc with rfl|rfl|rfl|rfl<;>exact HF.sc _
end HT
namespace Q9
open Y1
def nq(nm:cL)(p:Int):Nd := .mk 1 nm 0 [] p
end Q9
namespace PA
open P1 P2 Y1 Y2 Y9 Y15 Y16 Q6
section
variable {inn:Bool}{c c':Ck}{s s':Scp}
def ud(nm:cL)(n:Nd):Prop:=anyN (fun n=>decide (n.name=nm)) n=true
theorem nr{p}:∀{ks},vh p ks=true↔∃ k,k∈ks/\anyN p k=true
 | []=>by simp[vh]
 |k :: ks=>by
  simp only[vh,vr,nr (ks:=ks),ql];constructor
  .rintro (h|⟨x,g,h⟩)
   .exact ⟨k,.inl rfl,h⟩
   .exact ⟨x,.inr g,h⟩
  .rintro ⟨x,rfl|g,h⟩
   .exact .inl h
   .exact .inr ⟨x,g,h⟩
theorem qiQ(n):ud n.name n:=by
 unfold ud;rw[Vm];simp
theorem qiR{n k nm}(g:k∈n.sD)(h:ud nm k):ud nm n:=by
 unfold ud at h⊢;rw[Vm,vr]
 grind [nr]
def zi(nm:cL)(s:Scp):Option Kd:=(jD nm s).head?.map Prod.snd
theorem qiS(nm):zi nm []=none:=rfl
theorem wv(nm v)(s:Scp):zi nm (v :: s)=if v.1=nm then some v.2 else zi nm s:=by
 grind [zi,jD]
theorem Qc(c s nm pos):y0 c s nm pos=match zi nm s with
  |some k => .ok (some k)
  |none=>match means c.ts nm with
   | [] => .error (40,pos)
   | [k] => .ok (some k)
   |_ => .error (44,pos):=by
 grind [y0,zi,jD]
theorem nu{n n'}(j:n'.op=n.op)(l:n'.name=n.name)(r:n'.n=n.n)(t:n'.pos=n.pos)
  (C:zN c' n.op n.name=zN c n.op n.name) (J:n.op=1->y0 c s n.name n.pos=y0 c' s' n.name n.pos) (o:c'.ts.sT=c.ts.sT) (g:q9 c' n.name=q9 c n.name)
  (p:c'.ts.sS.length=c.ts.sS.length) (i:n'.sD.length=n.sD.length)
  (P:n.op=47->∀ ps,z6 c s n.pos ps n.sD=z6 c' s' n.pos ps n'.sD)
  (hB:(n.op=15\/n.op=45\/n.op=46)->∀ inn,zQ c s inn n.name n.pos n.sD=zQ c' s' inn n.name n.pos n'.sD)
  (I:¬n.op=1->¬n.op=47->¬(n.op=15\/n.op=45\/n.op=46)->∀ inn,qS c s inn n.sD=qS c' s' inn n'.sD):exam c s inn n=exam c' s' inn n':=by
 rw[yx,yx,j,l,r,t,C,o,g,p,i];by_cases a:(inn&&zN c n.op n.name)=true
 .rw [if_pos a,if_pos a]
 rw[if_neg a,if_neg a];by_cases b:n.op=1
 .grind
 rw[if_neg b,if_neg b];by_cases d:n.op=47
 .simp_all
 rw[if_neg d,if_neg d];by_cases e:n.op=15\/n.op=45\/n.op=46
 .rw [if_pos e,if_pos e];exact hB e _
 rw[if_neg e,if_neg e,I b d e]
theorem nv(f):∀{ks},(∀ k,k∈ks->exam c s inn k=exam c' s' inn (f k))->qS c s inn ks=qS c' s' inn (ks.map f)
 | [],_=>rfl
 |k :: ks,h=>by
  simp only[jH,qS];rw[h k (qN ..),nv f fun g i=>h g (qB _ i)]
theorem ny{pos}(f):∀{ks ps},(∀ k,k∈ks->exam c s true k=exam c' s' true (f k))->z6 c s pos ps ks=z6 c' s' pos ps (ks.map f)
 | [],ps,_=>by cases ps<;>rfl
 |k :: ks,[],_=>rfl
 |k :: ks,p :: ps,h=>by
  simp only[jH,z6];rw[h k (qN ..),ny f (ps:=ps) fun g i=>h g (qB _ i)]
theorem Vv{ks}(h:∀ k,k∈ks->exam c s inn k=exam c' s' inn k):qS c s inn ks=qS c' s' inn ks:=by
 have:=nv (c:=c) (c':=c') (s:=s) (s':=s') (inn:=inn) id (ks:=ks) h
 rwa[List.map_id]at this
theorem nz{pos ks ps}(h:∀ k,k∈ks->exam c s true k=exam c' s' true k):z6 c s pos ps ks=z6 c' s' pos ps ks:=by
 have:=ny (c:=c) (c':=c') (s:=s) (s':=s') (pos:=pos) id (ks:=ks) (ps:=ps) h
 rwa[List.map_id]at this
structure ue (c c':Ck):Prop where
 sT:c'.ts.sT=c.ts.sT
 sS:c'.ts.sS=c.ts.sS
 sA:c'.ts.sA=c.ts.sA
 calls:c'.calls=c.calls
 timed:c'.timed=c.timed
theorem ue.refl(c):ue c c:=⟨rfl,rfl,rfl,rfl,rfl⟩
theorem ue.callee(h:ue c c')(nm):q9 c' nm=q9 c nm:=by
 unfold q9;rw[h.sT,h.calls]
theorem ue.time(h:ue c c')(op nm):zN c' op nm=zN c op nm:=by
 unfold zN;rw[h.callee,h.timed]
theorem ue.means(h:ue c c')(nm):means c'.ts nm=means c.ts nm:=by
 unfold P1.means;rw[h.sA,h.sS]
theorem nA(j:ue c c'):∀ m n s s' inn,szN n<=m->(∀ nm,ud nm n->zi nm s=zi nm s')->exam c s inn n=exam c' s' inn n
 | 0,n,_,_,_,o,_=>by obtain⟨op,nm,i,ks,p⟩:=n;simp[szN]at o
 |m+1,n,s,s',inn,o,h=>by
  have l:∀ k,k∈n.sD->∀(s s':Scp)(inn:Bool),(∀ nm,ud nm k->zi nm s=zi nm s')->exam c s inn k=exam c' s' inn k:=fun k l s s' inn t =>
   nA j m k s s' inn (zW1 (yw l)) t
  have r:∀ k,k∈n.sD->∀ nm,ud nm k->zi nm s=zi nm s':=fun k l nm C=>h nm (qiR l C)
  refine nu rfl rfl rfl rfl (j.time _ _) (fun _=>?_) j.sT (j.callee _) (by rw[j.sS]) rfl (fun _ J=>nz fun k g=>l k g s s' true (r k g)) (fun _ inn=>?_) (fun _ _ _ inn=>Vv fun k g=>l k g s s' inn (r k g))
  .rw [Qc,Qc,h _ (qiQ n),j.means]
  .cases I:n.sD with
   |nil=>rfl
   |cons k ks =>
    grind [ks,zQ,qN,qS,Vv,qB,wv]
def wf(ts:TS)(g:List (cL×Nd)):TS:=⟨ts.sS,ts.sA,ts.sT,g⟩
theorem qiT{C}(g)(l:List C)(i):(repL g l)[i]?=(l[i]?).map fun x=>(l.take i).any fun y=>g x y:=by
 grind [pA,qx,jG,uM]
theorem nB{C}(g)(l:List C)(i):repB g l i=match l[i]? with|some x=>[(l.take i).any fun y=>g x y] | none=>[]:=by
 unfold repB;rw[List.take_add_one,qiT,List.drop_append];by_cases h:i<l.length
 .rw [qx h,List.length_take,uM,Nat.min_eq_left zOm,List.drop_of_length_le zSo]
  simp
 grind
def binB(op:Int):Bool:=decide (op=15)||decide (op=45)||decide (op=46)
end
end PA
namespace YZ
open Y1
mutual
def depN:Nd->Int
 | .mk _ _ _ ks _=>ya ks+1
def ya:List Nd->Int
 | []=>0
 |k :: ks=>max (depN k) (ya ks)
end
mutual
theorem depN_nn:∀ n:Nd,0<=depN n
 | .mk _ _ _ ks _=>by simp only[depN];have:=W5 ks;omega
theorem W5:∀ ks:List Nd,0<=ya ks
 | []=>by simp[ya]
 |k :: ks=>by simp only[ya];have:=W5 ks;omega
end
theorem Zs(n):depN n=ya n.sD+1:=by
 obtain⟨op,g,i,ks,p⟩:=n;simp[depN,Nd.sD]
theorem qiU{ks k}(h:k∈ks):depN k<=ya ks:=by
 induction ks with
 |nil=>simp at h
 |cons a l g =>
  simp only[ya];rcases ql.1 h with rfl|h
  .omega
  .have:=g h;omega
mutual
def preN:Nd->List Nd
 | .mk op i n ks p => .mk op i n ks p :: zl ks
def zl:List Nd->List Nd
 | []=>[]
 |k :: ks=>preN k++zl ks
end
theorem uQ(n):preN n=n :: zl n.sD:=by
 obtain⟨op,g,i,ks,p⟩:=n;simp[preN,Nd.sD]
end YZ
namespace YA
open YS P1
def vN(k:Int):cL:=⟨#[118]⟩++jf k
theorem nD(k)(g : -9223372036854775808<=k)(i:k<=9223372036854775807):(jf k).size<=21:=by
 have:=Lib.itoa_length_le k g i;unfold jf;simpa[ByteArray.size] using this
def y6(ts:TS)(es:List (cL×Bool))(nm:cL):Bool:=decide (getK nm es≠some true)&&decide (means ts nm=[])
def zz(ts:TS)(es:List (cL×Bool)):Nat->Int->Int
 | 0,k=>k+1
 |f+1,k=>if y6 ts es (vN (k+1))=true then k+1 else zz ts es f (k+1)
end YA
namespace YB
open P1 YX YA
def qt(ts:TS)(es:List (cL×Bool)):Nat:=es.length+ts.sA.length+3*ts.sS.length+1
def renI(ts:TS)(es:List (cL×Bool))(env:IEnv)(nm:cL)(body:Bool)(s:ISt):(IEnv×cL)×ISt:=
 if body=true\/means ts nm≠[] then
  ((setK nm ⟨none,0,vN (zz ts es (qt ts es) s.last)⟩ (delK nm env),vN (zz ts es (qt ts es) s.last)),⟨zz ts es (qt ts es) s.last,s.sM⟩)
 else ((delK nm env,nm),s)
theorem nE{g C}[DecidableEq g]{k v}:∀{es},(es.map Prod.fst).Nodup->∀{x:g×C},x∈setK k v es↔x=(k,v)\/(x∈es/\x.1≠k)
 | [],_,x=>by simp[setK]
 |e :: es,h,x=>by
  rw[jH,jz]at h;unfold setK;by_cases i:k=e.1
  .rw [if_pos i,ql,ql]
   constructor
   .grind
   grind
  .rw [if_neg i,ql,ql,nE h.2]
   constructor
   .grind
   grind
end YB
namespace YC
open P1 Y1 YX YZ YA YB PA
section
variable {env:IEnv}{s:ISt}{es:List (cL×Bool)}{F:Nat}{ts:TS}
abbrev XR(C:Type):=Except Dg (C×ISt)
def jh(E:Nd->ISt->XR (Nd×Int)):List (cL×Int)->List Nd->IEnv->ISt->XR IEnv
 |p :: g,k :: ks,own,s=>match E k s with
  | .error e => .error e
  | .ok ((i,m),j)=>jh E g ks (setK p.1 ⟨some i,m,⟨#[]⟩⟩ own) j
 |_,_,own,s => .ok (own,s)
def yR(E:IEnv->Nd->ISt->XR (Nd×Int))(R:IEnv->cL->ISt->(IEnv×cL)×ISt)(bin:Bool):Nat->IEnv->cL->List Nd->ISt->XR (cL×List Nd×Int)
 |_,_,g,[],s => .ok ((g,[],0),s)
 |i,env,g,k :: ks,s =>
  let r:=if bin=true/\i=1 then R env g s else ((env,g),s)
  match E r.1.1 k r.2 with
  | .error e => .error e
  | .ok ((p,m),t)=>match yR E R bin (i+1) r.1.1 r.1.2 ks t with
   | .error e => .error e
   | .ok ((j,l,C),o) => .ok ((j,p :: l,m+C),o)
def Qd{C i:Type}(q:XR C)(g:C->ISt->XR i):XR i:=
 match q with
 | .error e => .error e
 | .ok (a,s)=>g a s
theorem Zt{C i q}{g:C->ISt->XR i}{r}(h:Qd q g = .ok r):∃ a s,q = .ok (a,s)/\g a s = .ok r:=by
 unfold Qd at h;split at h
 .cases h
 .exact ⟨_,_,rfl,h⟩
def expI(ts:TS)(es:List (cL×Bool)):Nat->IEnv->Nd->Bool->ISt->XR (Nd×Int)
 | 0,_,_,_,_ => .error (2,0)
 |f+1,env,n,g,s =>
  if s.sM+1<=4000 then
   if n.op=1 then wo env n (payS 1 s)
   else if n.op=47 then match ts.sT.find? fun p=>decide (p.name=n.name) with
    |none => .error (2,0)
    |some p=>Qd (jh (fun k s=>expI ts es f env k g s) p.params n.sD [] (payS 1 s)) fun own j=>expI ts es f own p.body true j
   else Qd (yR (fun env k s=>expI ts es f env k g s) (fun env i s=>renI ts es env i g s) (binB n.op) 0 env n.name n.sD (payS 1 s)) fun r j => .ok ((.mk n.op r.1 n.n r.2.1 n.pos,1+r.2.2),j)
  else .error (2,0)
def ju(ts:TS)(n:Nd):Prop:=∀ x,x∈preN n->x.op=47->∃ p,(ts.sT.find? fun p=>decide (p.name=x.name))=some p/\p.params.length=x.sD.length
theorem qiV{ks k x}(g:k∈ks)(i:x∈preN k):x∈zl ks:=by
 induction ks with
 |nil=>simp at g
 |cons a l j =>
  simp only[zl,qI];rcases ql.1 g with rfl|g
  .exact .inl i
  grind
theorem W6{n k x}(g:k∈n.sD)(i:x∈preN k):x∈preN n:=by
 grind [uQ,qB,qiV]
theorem vI(n):n∈preN n:=by rw[uQ];exact qN ..
theorem ju.kid{n k}(h:ju ts n)(g:k∈n.sD):ju ts k:=fun x i=>h x (W6 g i)
def pot(F:Nat)(s:ISt):Int:=s.sM*F-s.last
structure StOk (F:Nat) (s:ISt):Prop where
 l0:0<=s.last
 c0:0<=s.sM
 c1:s.sM<=4000
 p:0<=pot F s
theorem StOk.last(h:StOk F s):s.last<=4000*F:=by
 have g:s.sM*F<=4000*F:=Int.mul_le_mul_of_nonneg_right h.c1 zOm;have:=h.p
 grind [pot]
structure qV (env:IEnv):Prop where
 nd:(env.map Prod.fst).Nodup
 sz:∀ e,e∈env->0<=e.2.size/\e.2.size<=4000
theorem qV.nil:qV []:=⟨zSp,fun e g=>by simp at g⟩
theorem qV.set(h:qV env){k v}(i:0<=v.size/\v.size<=4000):qV (setK k v env):=
 ⟨Wb h.nd,fun e g=>by
  rcases (nE h.nd).1 g with rfl|⟨g,_⟩
  .exact i
  .exact h.sz e g⟩
theorem qV.del(h:qV env){k}:qV (delK k env):=⟨qe6 h.nd,fun e g=>h.sz e ((kI h.nd).1 g).1⟩
theorem Vw{nm body}(h:qV env):qV (renI ts es env nm body s).1.1:=by
 unfold renI;split
 .exact h.del.set ⟨zSp,zSp⟩
 .exact h.del
theorem W7(ts es):∀ f k,k<zz ts es f k/\zz ts es f k<=k+f+1
 | 0,k=>by grind [zz]
 |f+1,k=>by
  simp only[zz];have:=W7 ts es f (k+1);omega
theorem W8{ts es}:∀{f k},(∃ j:Nat,1<=j/\j<=f/\y6 ts es (vN (k+j))=true)->zz ts es f k<=k+f
 | 0,k,⟨j,g,i,_⟩=>zOm
 |f+1,k,⟨j,g,i,l⟩=>by
  simp only[zz];split
  .omega
  .rename_i o
   have p:j≠1:=fun e=>by grind
   have:=W8 (ts:=ts) (es:=es) (f:=f) (k:=k+1) ⟨j-1,zOm,zOm,by grind⟩;omega
def Free(ts:TS)(es:List (cL×Bool)):Prop:=∀ l:Int,0<=l->∃ j:Nat,1<=j/\j<=qt ts es/\y6 ts es (vN (l+j))=true
theorem Vx(g:Free ts es){env nm body s}(i:0<=s.last):0<=(renI ts es env nm body s).2.last/\(renI ts es env nm body s).2.last<=s.last+(qt ts es:Nat)/\(renI ts es env nm body s).2.sM=s.sM:=by
 unfold renI;split
 .have l:=W7 ts es (qt ts es) s.last
  have j:=W8 (g s.last i);refine⟨?_,j,rfl⟩
  grind
 .exact ⟨i,by grind,rfl⟩
structure Gos (F:Nat) (s s':ISt) (z:Int):Prop where
 l0:0<=s'.last
 c1:s'.sM<=4000
 z0:0<=z
 cz:s.sM+z<=s'.sM
 p:pot F s<=pot F s'
theorem Gos.ok{s' z}(g:Gos F s s' z)(h:StOk F s):StOk F s':=⟨g.l0,by have:=g.cz;have:=g.z0;have:=h.c0;omega,g.c1,zW2 g.p h.p⟩
theorem Zu(F s n):pot F (payS n s)=pot F s+n*F:=by
 grind [pot,payS,Int.add_mul]
theorem Qe(h:StOk F s){n}(g:0<=n)(i:s.sM+n<=4000):Gos F s (payS n s) n:=
 ⟨h.l0,i,g,jy _,by rw[Zu];have:0<=n*(F:Int):=Int.mul_nonneg g zOm;omega⟩
theorem qiW{n n' s' z}(h:StOk F s)(l:qV env)(t:s.sM+1<=4000)(e:wo env n (payS 1 s) = .ok ((n',z),s')):Gos F s s' z:=by
 have j:=Qe h (n:=1) zOm t;unfold wo at e;cases o:getK n.name env with
 |none=>grind
 |some v =>
  rw[o]at e;have C:=l.sz _ ((Yd l.nd).1 o);obtain⟨I,r,P⟩:=v;cases I with
  |none=>cases e;exact j
  |some a =>
   simp only at e;split at e
   .rename_i J
    have i:0<=r/\r<=4000:=C;cases e;have g:=Qe (j.ok h) i.1 J;exact⟨g.l0,g.c1,i.1,zW2 g.cz j.cz,zW2 g.p j.p⟩
   .cases e
theorem W9{E}:∀{ks ps own i s s'},(∀ k n' z s s',k∈ks->StOk F s->E k s = .ok ((n',z),s')->Gos F s s' z)->StOk F s->qV own ->
  jh E ps ks own s = .ok (i,s')->qV i/\Gos F s s' 0
 | [],ps,own,i,s,s',_,h,j,e=>by
  have e:Except.ok (own,s)=(Except.ok (i,s'):XR IEnv):=by cases ps<;>exact e
  cases e;exact⟨j,h.l0,h.c1,zOm,zOm,jy _⟩
 |k :: ks,[],own,i,s,s',_,h,j,e=>by
  cases e;exact⟨j,h.l0,h.c1,zOm,zOm,jy _⟩
 |k :: ks,p :: ps,own,i,s,s',o,h,j,e=>by
  simp only[jh]at e;split at e
  .cases e
  .rename_i r m s1 t
   have g:=o k r m s s1 (qN ..) h t;have C:m<=4000:=by have:=g.cz;have:=g.c1;have:=h.c0;omega
   obtain⟨I,l⟩:=W9 (fun k n' z s s' J=>o k n' z s s' (qB _ J)) (g.ok h) (j.set (v:=⟨some r,m,⟨#[]⟩⟩) ⟨g.z0,C⟩) e;exact⟨I,l.l0,l.c1,zOm,by have:=g.cz;have:=g.z0;have:=l.cz;omega,zW2 g.p l.p⟩
def dueN(F:Nat)(bin:Bool)(i:Nat):Int:=if bin=true/\i<=1 then F else 0
theorem Vy(F bin i):0<=dueN F bin i:=by unfold dueN;split<;>omega
theorem nG{bin i}(h:¬(bin=true/\i=1)):dueN F bin i=dueN F bin (i+1):=by
 unfold dueN;by_cases g:bin=true
 .by_cases l:i=1
  .grind
  .by_cases j:i<=1
   .rw [if_pos ⟨g,j⟩,if_pos ⟨g,zOm⟩]
   omega
 grind
theorem nH{E R bin}(P:∀ env nm s,0<=s.last->qV env->qV (R env nm s).1.1/\0<=(R env nm s).2.last/\(R env nm s).2.last<=s.last+(F:Int)/\(R env nm s).2.sM=s.sM) :
  ∀{ks i env nm j s s' l m},(∀ env k n' z s s',k∈ks->StOk F s->qV env->E env k s = .ok ((n',z),s')->Gos F s s' z)->0<=s.last->0<=s.sM->s.sM<=4000->dueN F bin i<=pot F s->qV env ->
  yR E R bin i env nm ks s = .ok ((j,l,m),s')->0<=s'.last/\s'.sM<=4000/\0<=m/\s.sM+m<=s'.sM/\pot F s-dueN F bin i<=pot F s'
 | [],i,env,nm,j,s,s',l,m,_,T,c0,c1,hp,U,e=>by
  cases e;have:=Vy F bin i;omega
 |k :: ks,i,env,nm,j,s,s',l,m,hE,T,c0,c1,hp,U,e=>by
  simp only[yR]at e;obtain⟨r,t⟩:∃ r,r=if bin=true/\i=1 then R env nm s else ((env,nm),s):=⟨_,rfl⟩
  rw[<-t]at e;have I:qV r.1.1/\0<=r.2.last/\r.2.sM=s.sM/\dueN F bin (i+1)<=pot F r.2/\pot F s-dueN F bin i<=pot F r.2-dueN F bin (i+1):=by
   by_cases C:bin=true/\i=1
   .rw [if_pos C]at t
    obtain⟨a1,a2,a3,a4⟩:=P env nm s T U;have d1:dueN F bin i=F:=if_pos ⟨C.1,zOm⟩;have d2:dueN F bin (i+1)=0:=zIn
    grind [pot]
   .rw [if_neg C]at t
    subst t;have d':dueN F bin i=dueN F bin (i+1)\/(bin=true/\i=1):=by
     unfold dueN;by_cases o:bin=true
     .by_cases h1:i=1
      .grind
      .left
       by_cases h0:i<=1
       .rw [if_pos ⟨o,h0⟩,if_pos ⟨o,zOm⟩]
       omega
     grind
    have a0:dueN F bin i=dueN F bin (i+1):=d'.elim id fun h=>absurd h C
    grind
  obtain⟨b1,b2,b3,b4,b5⟩:=I;split at e
  .cases e
  .rename_i k' m1 s1 h1
   have J:StOk F r.2:=⟨b2,zOm,zOm,zW1 (Vy F bin (i+1))⟩;have g:=hE r.1.1 k k' m1 r.2 s1 (qN ..) J b1 h1;split at e
   .cases e
   .rename_i a5 a6 m2 s2 h2
    have:=nH P (fun env k n' z s s' hk=>hE env k n' z s s' (qB _ hk)) g.l0 (zW2 g.cz g.z0) g.c1 (zW1 g.p) b1 h2;obtain⟨q1,q2,q3,q4,q5⟩:=this;cases e;have:=g.cz;have:=g.z0;have:=g.p;omega
theorem vj(ts){es}(g:Free ts es):∀(f){env n n' body s s' z},StOk (qt ts es) s->qV env->expI ts es f env n body s = .ok ((n',z),s')->Gos (qt ts es) s s' z
 | 0,_,_,_,_,_,_,_,_,_,e=>by cases e
 |f+1,env,n,n',body,s,s',z,h,P,e=>by
  simp only[expI]at e;split at e
  .rename_i R
   have j:=Qe h (n:=1) zOm R;split at e
   .grind [qiW]
   .split at e
    .split at e
     .cases e
     .rename_i p _
      .obtain ⟨own,s1,t,e⟩:=Zt e
       obtain⟨T,g1⟩:=W9 (F:=qt ts es) (fun k n' z s s' _ C I=>vj ts g f C P I) (j.ok h) .nil t;have l:=vj ts g f (g1.ok (j.ok h)) T e;exact⟨l.l0,l.c1,l.z0,by have:=l.cz;have:=g1.cz;have:=j.cz;omega,by have:=l.p;have:=g1.p;have:=j.p;omega⟩
    ·.obtain ⟨⟨o,r,m⟩,s1,t,e⟩:=Zt e
      cases e;have U:dueN (qt ts es) (binB n.op) 0<=pot (qt ts es) (payS 1 s):=by
       rw[Zu];have:=h.p;grind [dueN]
      have:=nH (F:=qt ts es) (fun env i s hl J=>⟨Vw J,Vx g hl⟩) (fun env k n' z s s' _ C J I=>vj ts g f C J I) j.l0 (by have:=(j.ok h).c0;exact this) j.c1 U P t;obtain⟨q1,q2,q3,q4,q5⟩:=this;have a0:dueN (qt ts es) (binB n.op) 0<=(qt ts es:Nat):=by grind [dueN]
      rw[Zu]at q5;have a1:0<=(o,r,m).snd.snd:=q3;have a2:(payS 1 s).sM+(o,r,m).snd.snd<=s'.sM:=q4;exact⟨q1,q2,zOm,zW1 j.cz,zOm⟩
  .cases e
end
end YC
namespace YD
open Y1
theorem nI{lo sz mu l av xs}(h:OwnF lo mu sz av xs)(o:lo<=l.length)(p:∀ i,lo<=i->i<mu.length->l[i]?=mu[i]?):OwnF lo l sz av xs:=by
 obtain⟨r,g,_⟩:=h;refine⟨?_,g,o⟩;rcases r with rfl|⟨b,rfl,j⟩
 .exact .inl rfl
 .exact .inr ⟨b,rfl,by rw[p b (g b _ _ _ rfl) (qi.1 j).1];exact j⟩
theorem Xa(l:List Nd):zb 5 (l.map cNd):=fun r g=>by
 obtain⟨n,_,rfl⟩:=qp.1 g
 grind [Yb,J0]
theorem appNd{mu lo s xs k K}(g:OwnF lo mu 5 s (xs.map cNd))(j:xs.length<=100000)(o:∀ av l,OwnF lo l 5 av ((xs++[k]).map cNd)->(∀ i,i<lo->l[i]?=mu[i]?)->K av l) :
  qD qc mu #[33,33] s (.lst true [cNd k]) K:=by
 refine qD.ownF (lo:=lo) (e:=35) (sz:=5) (bt:=64) (zv := .agg [aI 0,aS ⟨#[]⟩,aI 0,.lst true [],aI 0]) (xs:=xs.map cNd) (ys:=[cNd k]) zSi zSi zSi rfl rfl zOm zOm g (by simp[qF]) (Xa xs) (Xa [k]) zSo ?_
 grind
end YD
namespace YE
open P1 P2 Y1 Y9 YX YZ YB YC
mutual
def cntT:Nd->Int
 | .mk _ _ _ ks _=>1+yp ks
def yp:List Nd->Int
 | []=>0
 |k :: ks=>cntT k+yp ks
end
theorem Xb(n):cntT n=1+yp n.sD:=by
 obtain⟨op,g,i,ks,p⟩:=n;simp[cntT,Nd.sD]
mutual
theorem Xc:∀ n:Nd,1<=cntT n
 | .mk _ _ _ ks _=>by simp only[cntT];have:=Vz ks;omega
theorem Vz:∀ ks:List Nd,0<=yp ks
 | []=>by simp[yp]
 |k :: ks=>by simp only[yp];have:=Xc k;have:=Vz ks;omega
end
mutual
theorem nJ:∀ n:Nd,depN n<=cntT n
 | .mk _ _ _ ks _=>by simp only[cntT,depN];have:=nK ks;omega
theorem nK:∀ ks:List Nd,ya ks<=yp ks
 | []=>by simp[ya,yp]
 |k :: ks=>by
  simp only[yp,ya];have:=nJ k;have:=nK ks;have:=Xc k;have:=Vz ks;omega
end
section
variable {C:Type}{R:IEnv->cL->ISt->(IEnv×cL)×ISt}{es:List (cL×Bool)}{E:Nd->ISt->XR (Nd×Int)}
def vJ(env:IEnv):Prop:=∀ e,e∈env->∀ a,e.2.arg=some a->e.2.size=cntT a/\yf a
theorem Xd{g}[DecidableEq g]{k v}:∀{es:List (g×C)},getK k es=some v->(k,v)∈es
 | [],h=>by simp[getK]at h
 |e :: es,h=>by
  unfold getK at h;split at h
  .rename_i i;cases h;subst i;exact qN ..
  .exact qB _ (Xd h)
theorem VA{g}[DecidableEq g]{k v}:∀{es}{x:g×C},x∈setK k v es->x=(k,v)\/x∈es
 | [],x,h=>by grind [setK]
 |e :: es,x,h=>by
  unfold setK at h;split at h
  .rcases ql.1 h with h|h
   .exact .inl h
   .exact .inr (qB _ h)
  .rcases ql.1 h with h|h
   .exact .inr (by rw[h];exact qN ..)
   .exact (VA h).imp id (qB _)
theorem qiX{ts env nm body s}(h:vJ env):vJ (renI ts es env nm body s).1.1:=by
 have i:vJ (delK nm env):=fun e g=>h e (Wc.subset g)
 unfold renI;split
 .intro e g a j
  rcases VA g with rfl|g
  .cases j
  .exact i e g a j
 .exact i
theorem nL:∀{ks ps own g s s'},(∀ k n' z s s',k∈ks->E k s = .ok ((n',z),s')->z=cntT n'/\yf n')->vJ own->jh E ps ks own s = .ok (g,s')->vJ g
 | [],ps,own,g,s,s',_,i,e=>by
  have e:Except.ok (own,s)=(Except.ok (g,s'):XR IEnv):=by cases ps<;>exact e
  cases e;exact i
 |k :: ks,[],own,g,s,s',_,i,e=>by cases e;exact i
 |k :: ks,p :: ps,own,g,s,s',l,i,e=>by
  simp only[jh]at e;split at e
  .cases e
  .rename_i t m s1 C
   refine nL (fun k n' z s s' o=>l k n' z s s' (qB _ o)) (fun e j a r=>?_) e;rcases VA j with rfl|j
   .grind
   .exact i e j a r
theorem nM{E bin}(C:∀ env nm s,vJ env->vJ (R env nm s).1.1) :
  ∀{ks i env nm l s s' j m},(∀ env k n' z s s',k∈ks->vJ env->E env k s = .ok ((n',z),s')->z=cntT n'/\yf n')->vJ env ->
  yR E R bin i env nm ks s = .ok ((l,j,m),s')->m=yp j/\j.length=ks.length/\∀ k,k∈j->yf k
 | [],i,env,nm,l,s,s',j,m,_,_,e=>by
  cases e;exact⟨rfl,rfl,fun k p=>absurd p qG⟩
 |k :: ks,i,env,nm,l,s,s',j,m,I,J,e=>by
  simp only[yR]at e;obtain⟨r,P⟩:∃ r,r=if bin=true/\i=1 then R env nm s else ((env,nm),s):=⟨_,rfl⟩
  rw[<-P]at e;have o:vJ r.1.1:=by
   rw[P];split
   .exact C _ _ _ J
   .exact J
  split at e
  .cases e
  .rename_i T U s1 h1
   have g:=I r.1.1 k T U r.2 s1 (qN ..) o h1;split at e
   .cases e
   .rename_i a0 a1 m2 s2 h2
    obtain⟨q1,q2,q3⟩:=nM C (fun env k n' z s s' p=>I env k n' z s s' (qB _ p)) o h2;cases e;refine⟨by simp only[yp];rw[g.1,q1],zP1 q2,fun x t=>?_⟩;rcases ql.1 t with rfl|t
    .exact g.2
    .exact q3 x t
theorem Ys(ts)(r:∀ p,p∈ts.sT->WfN p.body)(es):∀(f){env n n' body s s' z},vJ env->WfN n->expI ts es f env n body s = .ok ((n',z),s')->z=cntT n'/\yf n'
 | 0,_,_,_,_,_,_,_,_,_,e=>by cases e
 |f+1,env,n,n',body,s,s',z,l,o,e=>by
  simp only[expI]at e;split at e
  .split at e
   .rename_i P
    have g:n.sD=[]:=by
     have hs:=o.shape;simp_all[shp,if_pos,qo,List.map_eq_nil_iff]
    unfold wo at e;split at e
    .cases e
     exact⟨by rw[Xb,g];rfl,o.small⟩
    .rename_i v t
     split at e
     .cases e
      refine⟨by rw[Xb];show 1=1+yp n.sD;rw[g];rfl,.mk _ (by show n.sD.length<=1000;rw[g];simp) fun k j=>?_⟩;have j:k∈n.sD:=j
      grind
     .rename_i a R
      split at e
      .cases e
       exact l _ (Xd t) _ R
      .cases e
   .split at e
    .split at e
     .cases e
     .rename_i p T
      obtain⟨own,s1,C,e⟩:=Zt e;have U:=nL (fun k n' z s s' j I=>Ys ts r es f l (o.kid j) I) (fun e l=>absurd l qG) C;exact Ys ts r es f U (r p (List.mem_of_find?_eq_some T)) e
    .obtain ⟨⟨a0,J,m⟩,s1,C,e⟩:=Zt e
     cases e;obtain⟨q1,q2,q3⟩:=nM (fun env i s h=>qiX h) (fun env k n' z s s' j t I=>Ys ts r es f t (o.kid j) I) l C;refine⟨by rw[Xb];show 1+m=_;rw[q1];rfl,.mk _ ?_ q3⟩;show J.length<=1000;have:=o.len;omega
  .cases e
theorem nN:∀{ks ps own s d},(∀ k s d,E k s = .error d->d=(2,0))->jh E ps ks own s = .error d->d=(2,0)
 | [],ps,own,s,d,_,e=>by
  have e:Except.ok (own,s)=(Except.error d:XR IEnv):=by cases ps<;>exact e
  cases e
 |k :: ks,[],own,s,d,_,e=>by cases e
 |k :: ks,p :: ps,own,s,d,g,e=>by
  simp only[jh]at e;split at e
  .rename_i j i
   cases e;exact g _ _ _ i
  .exact nN g e
theorem nO{E:IEnv->Nd->ISt->XR (Nd×Int)}{bin}:∀{ks i env nm s d},(∀ env k s d,E env k s = .error d->d=(2,0))->yR E R bin i env nm ks s = .error d->d=(2,0)
 | [],i,env,nm,s,d,_,e=>by cases e
 |k :: ks,i,env,nm,s,d,g,e=>by
  simp only[yR]at e;split at e
  .rename_i j l
   cases e;exact g _ _ _ _ l
  .split at e
   .rename_i j o
    cases e;exact nO g o
   .cases e
theorem nP{i q}{g:C->ISt->XR i}{d}(h:Qd q g = .error d):q = .error d\/∃ a s,q = .ok (a,s)/\g a s = .error d:=by
 unfold Qd at h;split at h
 .grind
 .exact .inr ⟨_,_,rfl,h⟩
theorem Yt(ts es):∀(f){env n body s d},expI ts es f env n body s = .error d->d=(2,0)
 | 0,_,_,_,_,_,e=>by cases e;rfl
 |f+1,env,n,body,s,d,e=>by
  simp only[expI]at e;split at e
  .split at e
   .unfold wo at e
    split at e
    .cases e
    .split at e
     .cases e
     .split at e
      .cases e
      .cases e;rfl
   .split at e
    .split at e
     .cases e;rfl
     .rcases nP e with e|⟨own,g,i,e⟩
      .exact nN (fun k s d h=>Yt ts es f h) e
      .exact Yt ts es f e
    .rcases nP e with e|⟨own,g,i,e⟩
     .exact nO (fun env k s d h=>Yt ts es f h) e
     .cases e
  .cases e;rfl
def outI(ts:TS)(es:List (cL×Bool))(n:Nd):Except Dg Nd:=
 match expI ts es 4001 [] n false ⟨0,0⟩ with
 | .error d => .error d
 | .ok ((g,z),_)=>if z<=400/\depN g<=24 then .ok g else .error (2,n.pos)
theorem qiY{ts n d}(h:outI ts es n = .error d):d.1=2:=by
 grind [outI,Yt]
end
end YE
namespace YG
open YS P1 Y1 Y9 YX YZ YA YB YC YE Q6
def valD(l:List UInt8):Nat:=l.foldl (fun a b=>10*a+(b.toNat-48)) 0
theorem qiZ(u):valD (Lib.decDigits u)=u:=by
 induction u using Nat.strongRecOn with
 |_ u g =>
  rw[Lib.decDigits];split
  .rename_i h
   simp only[valD,List.foldl_cons,List.foldl_nil];rw[UInt8.toNat_ofNat_of_lt' (by simp[UInt8.size];omega)];omega
  .rename_i h
   have:=g (u / 10) zOm;unfold valD at this⊢;rw[Qi,this];simp only[List.foldl_cons,List.foldl_nil];rw[UInt8.toNat_ofNat_of_lt' (by simp[UInt8.size];omega)];omega
theorem qi0{a b:Nat}(h:jf (a:Int)=jf (b:Int)):a=b:=by
 have g:Lib.decDigits a=Lib.decDigits b:=by
  unfold jf Lib.itoa at h;rw[zIn,zIn]at h;simp only[Int.toNat_natCast]at h;have h:=congrArg (fun x:cL=>x.data.toList) h;simpa using h
 grind [qiZ]
theorem qi1{p a b:cL}(h:p++a=p++b):a=b:=by
 simp_all
theorem nQ{a b:Nat}(h:vN (a:Int)=vN (b:Int)):a=b:=qi0 (qi1 h)
def badL(ts:TS)(es:List (cL×Bool)):List cL:=es.map Prod.fst++(ts.sA.map (fun f=>f.name)++ts.sS.flatMap fun s=>[s.1,s.1++uG,s.1++uH])
theorem qi2(ts es):(badL ts es).length+1=qt ts es:=by
 have:∀ l:List (cL×Bool),(l.flatMap fun s=>[s.1,s.1++uG,s.1++uH]).length=3*l.length:=by
  intro l;induction l with
  |nil=>rfl
  |cons a l g=>grind
 grind [badL,qt,qW,yi]
theorem qi3{ts es nm}(h:y6 ts es nm=false):nm∈badL ts es:=by
 unfold y6 at h;unfold badL;rw[Bool.and_eq_false_iff]at h;rcases h with h|h
 .have h:getK nm es=some true:=by simpa using h
  exact yH _ (qp.2 ⟨_,Xd h,rfl⟩)
 .refine List.mem_append_right _ ?_
  have h:means ts nm≠[]:=zUs h;unfold means at h;by_cases hf:vf ts.sA nm=[]
  .rw [hf,List.nil_append]at h
   refine List.mem_append_right _ ?_;have:∀(g:List (cL×Bool))(i:Nat),v6 i g nm≠[]->nm∈g.flatMap fun s=>[s.1,s.1++uG,s.1++uH]:=by
    intro g;induction g with
    |nil=>intro i h;exact absurd rfl h
    |cons s g t =>
     intro i h;rw[List.flatMap_cons,qI];by_cases j:wY i s nm=[]
     .refine .inr (t (i+1) ?_)
      simpa[v6,j] using h
     .left
      unfold wY at j;by_cases l:s.1=nm
      .simp [l]
      by_cases o:s.2=true/\s.1++uG=nm
      .simp [o.2]
      by_cases p:s.2=true/\s.1++uH=nm
      .simp [p.2]
      exact absurd (by simp[l,o,p]) j
   exact this ts.sS 0 h
  .refine yH _ ?_
   obtain⟨k,r⟩:=List.exists_mem_of_ne_nil _ hf;unfold vf at r;obtain⟨f,hf,e⟩:=List.mem_filterMap.1 r;split at e
   .rename_i C
    exact qp.2 ⟨f,hf,C⟩
   .cases e
theorem nR(ts es):Free ts es:=by
 intro l J;by_cases g:∃ j:Nat,1<=j/\j<=qt ts es/\y6 ts es (vN (l+j))=true
 .exact g
 exfalso;obtain⟨L,rfl⟩:∃ L:Nat,l=L:=⟨l.toNat,zOm⟩;have o:∀ x,x∈(qq (qt ts es)).map (fun i=>vN ((L+(i+1):Nat):Int))->x∈badL ts es:=fun x t=>by
  obtain⟨i,C,rfl⟩:=qp.1 t;rw[zG]at C;refine qi3 ?_;cases I:y6 ts es (vN ((L+(i+1):Nat):Int)) with
  |false=>rfl
  |true=>exact absurd ⟨i+1,zOm,zOm,by rw[show (L:Int)+((i+1:Nat):Int)=((L+(i+1):Nat):Int) by omega];exact I⟩ g
 have p:((qq (qt ts es)).map (fun i=>vN ((L+(i+1):Nat):Int))).Nodup:=by
  refine List.pairwise_map.2 (List.nodup_range.imp fun r e=>r ?_);have:=nQ e;omega
 have:=jI p o;rw[yi,List.length_range]at this;have:=qi2 ts es;omega
def putN(es:List (cL×Bool))(l:List Nd):List (cL×Bool):=l.foldl (fun es n=>setK n.name true es) es
def yS(ts:TS)(n:Nd):List (cL×Bool):=ts.sT.foldl (fun T p=>putN T (preN p.body)) (putN [] (preN n))
def yz(ts:TS)(n:Nd):Nd×Int:=
 if (ye ts [] n).1≠0 then (nd0,(ye ts [] n).1)
 else if anyN (fun n=>decide (n.op=47)) n=false then (n,0)
 else match outI ts (yS ts n) n with
  | .error d=>(nd0,d.1)
  | .ok g=>(g,0)
theorem Xe(p):∀ m n,szN n<=m->anyN p n=(preN n).any p
 | 0,n,g=>by obtain⟨op,nm,i,ks,q⟩:=n;simp[szN]at g
 |m+1,n,g=>by
  rw[Vm,uQ,List.any_cons];congr 1;have:∀ l:List Nd,(∀ k,k∈l->k∈n.sD)->vh p l=(zl l).any p:=by
   intro l;induction l with
   |nil=>intro _;rfl
   |cons k l o =>
    intro j;simp only[vh,zl,List.any_append];rw[o fun x r=>j x (qB _ r),Xe p m k (zW1 (yw (j k (qN ..))))]
  exact this n.sD fun k t=>t
end YG
namespace YH
open Y1 Y6 YX
theorem qi4(mu):Rd mu eN0 (eNd nd0) := .agg _ _ rfl fun k x y g i=>by
 match k with
 | 0=>simp[nd0,cNd]at g i;subst g;subst i;exact .zsc _
 | 1=>simp[nd0,cNd]at g i;subst g;subst i;exact .zsc _
 | 2=>simp[nd0,cNd]at g i;subst g;subst i;exact .zsc _
 | 3=>simp[nd0,cNd,cNds]at g i;subst g;subst i;exact .wk _ true [] (.hf _ (HF.lst fun r j=>absurd j qG))
 | 4=>simp[nd0,cNd]at g i;subst g;subst i;exact .zsc _
 |k+5=>simp at g
theorem VB(mu d):Rd mu (.tup [eN0,aI d]) (.tup [eNd nd0,aI d]) := .tup _ _ rfl fun k x y g i=>by
 match k with
 | 0=>grind [qi4]
 | 1=>simp at g i;subst g;subst i;exact .zsc _
 |k+2=>simp at g
end YH
end Go.Proofs.YthkdjhkmlmjkbaaGreatDoor
namespace Go.EvW
open Go Go.Ev Go.RowKit Go.ChangeShapes Go.WideShapes
section
variable {C H:Type}{c:C->List AV}{fs:List (qd×Nat)}{cs:List qg}{N:Nat}{P:qb}{e t:qd}{w:qf}
def CR(w:qf)(xs:List AV)(cs:List qg):Prop:=
 cs.length=xs.length/\∀(k:Nat) x,xs[k]?=some x->VRel ⟨(·<w.heap.size),[]⟩ w.heap x (cs.getD k j2)
theorem CR.nil(w):CR w [] []:=⟨rfl,zSp⟩
theorem CR.one{x v}(h:VRel ⟨(·<w.heap.size),[]⟩ w.heap x v):CR w [x] [v]:=⟨rfl,fun k y g=>by
 grind⟩
theorem CR.app{xs ys ds}(h:CR w xs cs)(k:CR w ys ds):CR w (xs++ys) (cs++ds):=by
 refine⟨by simp[h.1,k.1],fun i x g=>?_⟩;by_cases j:i<xs.length
 .rw [ze j]at g
  have:=h.2 i x g;rw[zf]at this⊢;rw[ze (by rw[h.1];exact j)];exact this
 .rw [zK zOm]at g
  have:=k.2 _ x g;rw[zf]at this⊢;rw[zK (by rw[h.1];omega),h.1];exact this
def y7(P:qb)(t:qd)(d:DataW H):Prop:=(d.weights P t).all (·<=reachBytes)=true
theorem y7.all:∀{ds:List (DataW H)},(DataW.weightsAll P e ds).all (·<=reachBytes)=true->∀(i:Nat) d,ds[i]?=some d->y7 P e d
 | [],_,i,d,g=>by simp at g
 |x :: r,h,i,d,g=>by
  simp only[DataW.weightsAll,List.all_append,qu]at h;cases i with
  |zero=>simp at g;subst g;exact h.1
  |succ i=>exact y7.all h.2 i d (zUs g)
theorem aJ:∀{ts}{ds:List (DataW H)},(DataW.weightsEach P ts ds).all (·<=reachBytes)=true->∀(i:Nat) t d,ts[i]?=some t->ds[i]?=some d->y7 P t d
 | [],ds,_,i,t,d,g,_=>by simp at g
 |t0 :: ts,[],_,i,t,d,_,j=>by simp at j
 |t0 :: ts,x :: r,h,i,t,d,g,j=>by
  simp only[DataW.weightsEach,List.all_append,qu]at h;cases i with
  |zero=>simp at g j;subst g;subst j;exact h.1
  |succ i=>exact aJ h.2 i t d (zUs g) (zUs j)
def ShT(P:qb)(n:Nat)(t:qd){C:Type}(c:C->List AV)(ok:C->Prop):Prop:=
 ∀(H:Type)(g:qd×qg->H)(w:qf)(i:List qg)(x:DataW H×List MemPlace),
  DataW.trod g P w 0 (fun _=>true) true n t i=some x->y7 P t x.1->∃ a,ok a/\CR w (c a) i
def ShU(P:qb)(N:Nat)(t:qd){C:Type}(c:C->List AV)(ok:C->Prop):Prop:=∀ n,n<N->ShT P n t c ok
theorem ShU.le{M ok}(h:ShU P N t c ok)(g:M<=N):ShU P M t c ok:=fun n i=>h n zOm
theorem ShU.map{i ok c' g}(h:ShU P N t c ok)(f:C->i)(I:∀ a,c' (f a)=c a)(J:∀ a,ok a->g (f a)):ShU P N t c' g:=by
 intro n l H j w o x p r;obtain⟨a,R,T⟩:=h n l H j w o x p r
 grind
theorem ShU.int{k}(g:P.underlying t=some (.int k))(N):ShU P N t (fun n:Int=>[.sc (.int k n)]) (fun n=>(Lit.int k n).wf=true):=by
 intro n o H j w p x h _;obtain⟨i,rfl,_,l⟩:=DataW.trod_int g h;exact⟨i,l,.one (.sc _ rfl)⟩
theorem ShU.bool(g:P.underlying t=some .bool)(N):ShU P N t (fun b:Bool=>[.sc (.bool b)]) (fun _=>True):=by
 intro n l H j w o x h _;obtain⟨i,rfl,_⟩:=DataW.trod_bool g h;exact⟨i,trivial,.one (.sc _ rfl)⟩
theorem ShU.string(j:P.underlying t=some .string)(N):ShU P N t (fun s:cL=>[.sc (.string s)]) (fun s=>s.size<=140737488351232):=by
 intro n p H l w r x h g;obtain⟨i,rfl,rfl,C⟩:=DataW.trod_string j h;refine⟨i,?_,.one (.sc _ rfl)⟩;unfold y7 at g;simp only[DataW.weights,List.all_cons,List.all_nil,Bool.and_true,decide_eq_true_eq]at g;have e:i.data.toList.length=i.size:=Array.length_toList;have o:i.size<=reachBytes:=by rw[<-e];exact g
 exact zS o (yh rfl)
theorem nT{a n}(h:w.cells? 0 a n=some cs):cs.length=n/\∀ i,i<n->w.cell? (a.add i)=some (cs.getD i j2):=by
 unfold World.cells? at h;rw[if_pos (Nat.zero_le _)]at h;have g:=mapM_some_length h;refine⟨zUs g,fun i j=>?_⟩;have:=mapM_some_get h i i (zP1 j)
 grind
theorem nU{a v}(h:w.cell? a=some v):∃ arr e g,w.heap[a.block]?=some (.cells arr e g)/\a.spot=none/\arr[a.off]?=some v:=by
 unfold World.cell? at h;split at h
 .simp_all
 .cases h
theorem qi5[Inhabited C]{p:Nat->C->Prop}(n)(h:∀ i,i<n->∃ a,p i a):∃ l:List C,l.length=n/\∀(i) a,l[i]?=some a->p i a:=by
 induction n with
 |zero=>simp
 |succ n g =>
  obtain⟨l,j,o⟩:=g (fun i r=>h i zOm);obtain⟨a,t⟩:=h n zOm;refine⟨l++[a],zP1 j,fun i b I=>?_⟩
  grind
theorem ShU.slice[Inhabited C]{c ok}(ht:P.underlying t=some (.slice e))(he:ShU P N e c ok)(ak:∀ a,ok a->(c a).length=P.cellsOf e)(p:0<P.cellsOf e)(a5:Nat.blt 0 (P.bytesOf e)=true) :
  ShU P (N+1) t (fun l:List C=>[.lst false (l.map c)]) (fun l=>l.length<=140737488351232/\∀ a,a∈l->ok a):=by
 intro n hn H a6 w cs x h hw;rcases DataW.trod_slice ht h with ⟨rfl,_⟩|⟨a,len,cap,g,I,m,rfl,rfl,rfl,_,hl,hc,al,T,_,_⟩
 .exact ⟨[],⟨zSp,zSp⟩,.one (.nil _)⟩
 .have a7:(DataW.weightsAll P e (g.map (·.1))).all (·<=reachBytes)=true:=by
   simp_all[y7,DataW.weights,List.all_cons,List.all_append,qu]
  have an:len<=140737488351232:=by
   unfold y7 at hw;simp only[DataW.weights,ht,List.all_cons,List.all_append,qu,decide_eq_true_eq]at hw;have J:=hw.1;have a8:1<=P.bytesOf e:=yh a5;have h2:((g.map (·.1)).length+(I.map (·.1)).length)*1<=((g.map (·.1)).length+(I.map (·.1)).length)*P.bytesOf e:=Nat.mul_le_mul_left _ a8;simp only[yi]at J h2;have h3:reachBytes<=140737488351232:=yh rfl;omega
  have key:∀ i,i<len->∃ b,ok b/\∃ o,w.cells? 0 (a.add (i*P.cellsOf e)) (P.cellsOf e)=some o/\CR w (c b) o:=by
   intro i hi;have J:=T i hi;have U:i<g.length:=zOm;rw[qx U]at J;obtain⟨o,h2,h3⟩:=Option.bind_eq_some_iff.1 J;obtain⟨b,h4,h5⟩:=he m zOm H a6 w o _ h3 (y7.all a7 i _ (by rw[zj,qx U];rfl))
   grind
  obtain⟨l,a9,a0⟩:=qi5 len key;refine⟨l,⟨zOm,fun b hb=>?_⟩,.one ?_⟩
  .grind [List.mem_iff_getElem?]
  .have aa:(l.map c).length=len:=by simp[a9]
   rw[<-aa];cases Nat.eq_zero_or_pos len with
   |inl h0 =>
    have:l=[]:=jY zOm;subst this;exact .emp _ a cap zSp
   |inr hp =>
    have ab:0<l.length:=zOm;obtain⟨_,ao,J,_⟩:=a0 0 l[0] (qx ab);obtain⟨ad,R⟩:=nT J;have ae:=R 0 p;obtain⟨arr,el,fr,hb,hs,_⟩:=nU ae;have ai:∀ k:Nat,a.spot=none->(a.add k).spot=none/\(a.add k).off=a.off+k:=by
     grind [Addr.add]
    have a1:∀(b:Addr)(j:Nat),(b.add j).block=b.block:=by
     grind [Addr.add]
    have e0:((a.add (0*P.cellsOf e)).add 0).block=a.block/\((a.add (0*P.cellsOf e)).add 0).spot=a.spot:=by
     grind [Addr.add]
    rw[e0.1]at hb;rw[e0.2]at hs;have hz:yd (P.cellsOf e) (l.map c):=fun r hr=>by
     obtain⟨b,aq,rfl⟩:=qp.1 hr
     grind [List.mem_iff_getElem?]
    have ar:=yc hz;refine .lst false (l.map c) (P.cellsOf e) a cap arr el fr (fun k=>arr.getD (a.off+k) j2) hb hs zOm zSp (zU.1 hb).1 hz ?_ ?_
    all_goals
     intro k x hk;have au:k<(l.map c).length*P.cellsOf e:=by grind
     have hq:k / P.cellsOf e<l.length:=by
      simp_all[yi,Nat.div_lt_of_lt_mul,Nat.mul_comm]
     have hr:k % P.cellsOf e<P.cellsOf e:=Nat.mod_lt _ p;have av:k / P.cellsOf e*P.cellsOf e+k % P.cellsOf e=k:=by
      grind [Nat.div_add_mod,Nat.mul_comm]
     obtain⟨_,o,J,h2⟩:=a0 (k / P.cellsOf e) _ (qx hq);obtain⟨ad,R⟩:=nT J;have af:=R _ hr;have a2:(l.map c)[k / P.cellsOf e]?=some (c l[k / P.cellsOf e]):=by rw[zj,qx hq];rfl
     have hx:(c l[k / P.cellsOf e])[k % P.cellsOf e]?=some x:=by
      have ag:k % P.cellsOf e<(c l[k / P.cellsOf e]).length:=by grind
      have:=Ua hz a2 (qx ag)
      grind
     obtain⟨aj,aw,ax,a3,ay,a4⟩:=nU af;have e1:((a.add (k / P.cellsOf e*P.cellsOf e)).add (k % P.cellsOf e)).block=a.block:=by rw[a1,a1]
     have e2:((a.add (k / P.cellsOf e*P.cellsOf e)).add (k % P.cellsOf e)).off=a.off+k:=by
      grind [Addr.add]
     rw[e1,hb]at a3;cases a3;rw[e2]at a4;have ah:arr.getD (a.off+k) j2=o.getD (k % P.cellsOf e) j2:=by
      rw[qK,a4];rfl
    .grind
    .show VRel _ _ x (arr.getD (a.off+k) j2)
     rw[ah];exact h2.2 _ x hx
def VC(P:qb)(t:qd):Option (List (qd×Nat)):=match P.underlying t with|some (.struct g)=>some (g.toList.map fun f=>(f.type,f.offset))|_=>none
inductive ShF (P:qb) (N:Nat):Nat->List (qd×Nat)->{α:Type}->(α->List AV)->(α->Prop)->Prop where
 |nil (o:Nat):ShF P N o [] (fun _:Unit=>[]) (fun _=>True)
 |cons {o:Nat} {t:qd} {fs:List (qd×Nat)} {α β:Type} {c:α->List AV} {ok:α->Prop} {c':β->List AV} {ok':β->Prop} (h:ShU P N t c ok) (k:ShF P N (o+P.cellsOf t) fs c' ok') :
   ShF P N o ((t,o) :: fs) (fun x:α×β=>c x.1++c' x.2) (fun x=>ok x.1/\ok' x.2)
def Yu(P:qb)(fs:List (qd×Nat)):Nat:=(fs.map fun f=>P.cellsOf f.1).foldr (·+·) 0
theorem ShF.read{n o ok}(h:ShF P N o fs c ok)(I:n<N){H}{enc:qd×qg->H}{w}(cs:List qg)
  (p:cs.length=o+Yu P fs) (r:∀(i:Nat) f,fs[i]?=some f->∃ x,DataW.trod enc P w 0 (fun _=>true) true n f.1 ((cs.drop f.2).take (P.cellsOf f.1))=some x/\y7 P f.1 x.1) :
  ∃ a,ok a/\CR w (c a) (cs.drop o):=by
 induction h with
 |nil o =>
  refine⟨(),trivial,?_⟩;rw[List.drop_of_length_le (by grind [Yu])];exact .nil w
 | @cons o t fs C β c ok c' J h k R =>
  obtain⟨x,j,l⟩:=r 0 _ rfl;obtain⟨a,T,U⟩:=h n I H enc w _ x j l;have a0:Yu P ((t,o) :: fs)=P.cellsOf t+Yu P fs:=rfl;obtain⟨b,hb,hs⟩:=R zOm (fun i g hg=>r (i+1) g hg);refine⟨(a,b),⟨T,hb⟩,?_⟩;have e:cs.drop o=(cs.drop o).take (P.cellsOf t)++cs.drop (o+P.cellsOf t):=by
   rw[<-List.drop_drop,un]
  rw[e];exact U.app hs
theorem ShU.struct{ok}(j:VC P t=some fs)(hf:ShF P N 0 fs c ok)(T:P.cellsOf t=Yu P fs):ShU P (N+1) t c ok:=by
 intro n hn H l w U x h hw;unfold VC at j;split at j
 .rename_i gs hu
  simp only[qo]at j;subst j;obtain⟨J,m,rfl,rfl,hl,a0,hg⟩:=DataW.trod_struct hu h;have r:(DataW.weightsEach P (gs.toList.map (·.type)) (J.map (·.1))).all (·<=reachBytes)=true:=by
   grind [y7,DataW.weights]
  obtain⟨a,ha,hr⟩:=hf.read (n:=m) zOm (w:=w) (enc:=l) U zOm (fun i f I=>by
   simp only[zj,yA]at I;obtain⟨g,o,rfl⟩:=I;have R:=hg i g (zUs o);have p:i<J.length:=by
    grind
   rw[qx p]at R;exact⟨_,R,aJ r i _ _ (by rw[zj,o];rfl) (by rw[zj,qx p];rfl)⟩)
  grind
 .cases j
theorem aL{c:C->AV}{ok}(h:∀ N,ShU P N t (fun a=>[c a]) ok)(g:∀ w r b v,Value.okWide P w r b t v->v.cells=#[v])
  {H} {enc} {w} {r} {b} {v} {d:DataW H} {ps} (i:Value.okWide P w r b t v) (l:DataW.Trod enc P w 0 (fun _=>true) true t v d ps) (o:y7 P t d) :
  ∃ a,ok a/\VRel ⟨(·<w.heap.size),[]⟩ w.heap (c a) v:=by
 obtain⟨n,p⟩:=l;obtain⟨a,I,j⟩:=h (n+1) n zOm H enc w _ _ p o;rw[g w r b v i]at j;have:=j.2 0 (c a) rfl
 grind
theorem aQ{ok fs}(h:∀ N,ShU P N t c ok)(j:P.underlying t=some (.struct fs))
  {H} {enc} {w} {r} {b} {v} {d:DataW H} {ps} (g:Value.okWide P w r b t v) (l:DataW.Trod enc P w 0 (fun _=>true) true t v d ps) (o:y7 P t d) :
  ∃ a,ok a/\VRel ⟨(·<w.heap.size),[]⟩ w.heap (.agg (c a)) v:=by
 obtain⟨n,p⟩:=l;obtain⟨a,I,i⟩:=h (n+1) n zOm H enc w _ _ p o;unfold Value.okWide at g;rw[j]at g;obtain⟨R,rfl,_,_⟩:=g;refine⟨a,I,.agg _ _ (by simpa[Value.cells] using i.1) (fun k x J=>?_)⟩;have:=i.2 k x J
 grind [Value.cells,qK]
theorem qi6{k}(g:P.underlying t=some (.int k))(w r b v)(h:Value.okWide P w r b t v):v.cells=#[v]:=by
 unfold Value.okWide at h;rw[g]at h;simp only[Cell.okWide,g]at h;cases v<;>simp_all[Value.cells,Cell.ok]
theorem qi7(g:P.underlying t=some (.slice e))(w r b v)(h:Value.okWide P w r b t v):v.cells=#[v]:=by
 unfold Value.okWide at h;rw[g]at h;simp only[Cell.okWide,g]at h;cases v<;>simp_all[Value.cells,Cell.ok]
end
end Go.EvW
namespace Go.EvW
open Go Go.Ev Go.RowKit Go.ChangeShapes Go.WideShapes
section
variable {C:Type}{c:C->List AV}{ts:List qd}{P:qb}{t:qd}{w:qf}
def jT(P:qb)(t:qd){C:Type}(c:C->AV)(ok:C->Prop):Prop:=
 ∀(H:Type)(g:qd×qg->H)(w:qf)(r:Reach)(b:Nat)(v:qg)(d:DataW H)(i:List MemPlace),Value.okWide P w r b t v->DataW.Trod g P w 0 (fun _=>true) true t v d i->y7 P t d ->
  ∃ a,ok a/\VRel ⟨(·<w.heap.size),[]⟩ w.heap (c a) v
theorem jT.struct{ok}(g:(VC P t).isSome=true)(h:∀ N,ShU P N t c ok):jT P t (fun a => .agg (c a)) ok:=by
 intro H i w r b v d I j l o;unfold VC at g;split at g
 .rename_i J p;exact aQ h p j l o
 grind
theorem jT.slice{e c}{ok:C->Prop}(g:P.underlying t=some (.slice e))(h:∀ N,ShU P N t (fun a=>[c a]) ok):jT P t c ok:=
 fun H i w r b v d p j l o=>aL h (qi7 g) j l o
theorem jT.int{k c}{ok:C->Prop}(g:P.underlying t=some (.int k))(h:∀ N,ShU P N t (fun a=>[c a]) ok):jT P t c ok:=
 fun H i w r b v d p j l o=>aL h (qi6 g) j l o
inductive ArgF (P:qb):List qd->{α:Type}->(α->List AV)->(α->Prop)->Prop where
 |nil:ArgF P [] (fun _:Unit=>[]) (fun _=>True)
 |cons {t:qd} {ts:List qd} {α β:Type} {c:α->AV} {ok:α->Prop} {c':β->List AV} {ok':β->Prop} (h:jT P t c ok) (k:ArgF P ts c' ok'):ArgF P (t :: ts) (fun x:α×β=>c x.1 :: c' x.2) (fun x=>ok x.1/\ok' x.2)
theorem ArgF.read{ok}(h:ArgF P ts c ok){H enc w r b} :
  ∀{vs}{ds:List (DataW H)}{ps},DataW.TrodAll enc P w 0 (fun _=>true) true ts vs ds ps->(∀(j:Nat) t v,ts[j]?=some t->vs[j]?=some v->Value.okWide P w r b t v)->(DataW.weightsEach P ts ds).all (·<=reachBytes)=true ->
  ∃ a,ok a/\ds.length=ts.length/\vs.length=(c a).length/\∀(k) x,(c a)[k]?=some x->VRel ⟨(·<w.heap.size),[]⟩ w.heap x (vs.getD k j2):=by
 induction h with
 |nil =>
  intro vs ds ps g _ _;obtain⟨rfl,rfl,rfl⟩:=trodAll_nil g;simp
 | @cons t ts C β c ok c' J h k R =>
  intro vs ds ps g I i;obtain⟨v,T,d,U,p,q,rfl,rfl,rfl,h1,h2⟩:=trodAll_cons g;simp only[DataW.weightsEach,List.all_append,qu]at i;obtain⟨a,ha,hr⟩:=h H enc w r b v d p (I 0 t v rfl rfl) h1 i.1;obtain⟨a',l,o,hl,hg⟩:=R h2 (fun j t v=>I (j+1) t v) i.2;refine⟨(a,a'),⟨ha,l⟩,zP1 o,zP1 hl,fun k x hx=>?_⟩
  grind
theorem nW(j:laidOutB P=true){H enc W l o}:∀{ts vs}{ds:List (DataW H)}{ps},
  (∀ t,t∈ts->P.readableRec t=true/\t<P.types.size)->DataW.TrodAll enc P W 0 (fun _=>true) true ts vs ds ps->(∀ p∈ps,W.sameAt l p)->(∀ p∈ps,o p.block=true)->DataW.TrodAll enc P l 0 o true ts vs ds ps
 | [],vs,ds,ps,_,h,_,_=>by
  obtain⟨rfl,rfl,rfl⟩:=trodAll_nil h;exact trodAll_mk0
 |t :: ts,vs,ds,ps,r,h,C,I=>by
  obtain⟨v,J,d,R,p,q,rfl,rfl,rfl,g1,T⟩:=trodAll_cons h;have i:=r t zSp;exact trodAll_cons_mk (WideElems.Trod_stays j i.1 i.2 g1 (fun x g=>C x (zP1 g)) (fun x g=>I x (zP1 g)))
   (nW j (fun t i=>r t (zP1 i)) T (fun x g=>C x (zP1 g)) (fun x g=>I x (zP1 g)))
theorem qi8{f fn}{s:ChangeSpec}{tb ok}(hp:fn.params=ts.toArray)(hF:ArgF P ts c ok)(hv:s.vars=[])
  (T:∀ H ds,ds.length=ts.length->s.fn H ds={ results:=[.lit (.bool true)],args:=ds }) (hr:fn.resultTypes=#[tb]) (U:P.underlying tb=some .bool)
  (hl:laidOutB P=true) (a7:(ts.all fun t=>P.readableRec t&&decide (t<P.types.size))=true) (hS:∀ a,ok a->qh P f (c a) (aB true))
  (H) (I) (W) (base) (args) (ds gs:List (DataW H)) (g)
  (i:∀(j:Nat) t v,fn.params[j]?=some t->args[j]?=some v->Value.okWide P W .any base t v) (hW:DataW.Whole I P fn.params.toList s.vars false W args.toList ds gs g) (a8:(DataW.weightsEach P fn.params.toList ds).all (·<=reachBytes)=true) (hT:wE (·<W.heap.size) W.heap) :
  Calls P f args W fun e W'=>∃ v,e = .returned v/\s.post I P fn false true false false W args v W':=by
 have a0:=hW;obtain⟨p,q,R,hV,J,a9,_⟩:=hW;rw[hv]at hV;obtain⟨hg,hq⟩:=trodVars_none hV;subst hg;subst hq;rw[yj]at J;subst J;rw[hp]at R i;obtain⟨a,ha,a1,a2,aa⟩:=hF.read (r := .any) (b:=base) R (fun j t v h1 h2=>i j t v (zUs h1) (zUs h2)) (by grind);have a3:∀ x,x∈g->x.block<W.heap.size:=fun x l=>R.lt x l
 obtain⟨_,o⟩:=hS a ha;refine(o (·<W.heap.size) W args (Sim.empty (fun _ h=>h) hT) ⟨zUs a2,fun k x hk=>?_⟩).mono fun e W' ⟨a6,v,he,_,_,hb,a4⟩=>?_
 .simp_all
 .have a5:v = .bool true:=by cases a4;rfl
  subst a5;refine⟨_,he,ds,[],g,[],g,[],a0,?_,?_,?_,World.keptBut_mono (fun x l=>⟨l,.inr (.inl l)⟩) (hb.frame (·∈g)),fun h=>by cases h⟩
  all_goals try rw[yj]
  all_goals try rw[T H ds a1]
  .rw [hr]
   exact trodAll_cons_mk (p':=[]) (shut_bool U true) trodAll_mk0
  .rw [hp]
   refine nW hl (fun t ht=>?_) R (fun x l=>hb.same (a3 x l)) (fun x l=>by grind)
   grind
  .rw [hv];rfl
theorem ShF.cons'{N o o' fs i ok c' g}(j:o+P.cellsOf t=o')(h:ShU P N t c ok)(k:ShF P N o' fs c' g) :
  ShF P N o ((t,o) :: fs) (fun x:C×i=>c x.1++c' x.2) (fun x=>ok x.1/\g x.2):=by
 subst j;exact .cons h k
theorem nX:∀{laid ps},DataW.LaidVars P w laid ps->∀ x,x∈laid->∃ g t cs fuel p,P.globalNamed x.1=some g/\(P.globals[g]?).map (·.type)=some t/\w.var? P x.1=some cs/\DataW.trod (fun _=>()) P w 0 (fun _=>true) false fuel t cs.toList=some (x.2,p)
 | [],_,_,x,i=>by simp at i
 | (n,d) :: r,ps,h,x,i=>by
  obtain⟨g,t,cs,fuel,p,q,l,o,C,I,j,_⟩:=h;rcases ql.1 i with rfl|i
  .grind
  .exact nX j x i
theorem qi9{e n fuel k}(T:P.underlying t=some (.array n e))(U:P.underlying e=some (.int k))(hc:P.cellsOf e=1)(r:P.cellsOf t=n){cs}{ns:List Int}{p}
  (h:DataW.trod (fun _=>()) P w 0 (fun _=>true) false fuel t cs=some (.agg (ns.map fun i => .lit (.int k i)),p)):cs=ns.map fun i => .int k i:=by
 obtain⟨J,m,_,g,R,hn,j⟩:=DataW.trod_array T h;simp only[Prod.mk.injEq,DataW.agg.injEq]at g;have g:=g.1;have C:ns.length=n:=by have:=congrArg List.length g;simp at this;omega
 rw[r]at R;rw[hc]at j;apply List.ext_getElem
 .simp [R,C]
 .intro i h1 h2
  have I:=j i zOm;rw[Nat.mul_one]at I;have l:i<J.length:=zOm;rw[qx l]at I;obtain⟨z,e1,e2,_⟩:=DataW.trod_int U I;have h4:(J[i]).1=DataW.lit (.int k z):=by rw[e2]
  have o:(ns.map fun i=>(DataW.lit (.int k i):DataW Unit))[i]?=(J.map (·.1))[i]?:=by rw[g]
  rw[zj,zj,qx l,qx zOm]at o;simp only[qZ,qo]at o;rw[h4]at o;simp only[DataW.lit.injEq,Lit.int.injEq,true_and]at o;have h6:(cs.drop i).take 1=[cs[i]]:=by rw[zB h1];rfl
  grind
theorem qjA{name g cs}(j:P.globalNamed name=some g)(h:w.var? P name=some cs):∃ e i,w.heap[g]?=some (.cells cs e i):=by
 grind [World.var?]
end
end Go.EvW
namespace Go.Proofs.YthkdjhkmlmjkbaaGreatDoor
open Go Go.Ev Go.Proofs Tryz
namespace DT
open Go.EvW Y1 P1 YF
theorem unInt:qc.underlying 3=some (.int .i64):=by kernel_rfl
theorem nY:qc.underlying 4=some .bool:=by kernel_rfl
theorem qjB:qc.underlying 9=some .string:=by kernel_rfl
theorem qjC:qc.underlying 28=some (.slice 3):=by kernel_rfl
theorem qjD:qc.underlying 22=some (.slice 118):=by kernel_rfl
theorem qjE:qc.underlying 23=some (.slice 93):=by kernel_rfl
theorem qjF:qc.underlying 33=some (.slice 35):=by kernel_rfl
theorem qjG:qc.underlying 133=some (.slice 167):=by kernel_rfl
theorem qjH:qc.underlying 24=some (.slice 135):=by kernel_rfl
theorem qjI:qc.underlying 25=some (.slice 137):=by kernel_rfl
abbrev okI(n:Int):Prop := -9223372036854775808<=n/\n<=9223372036854775807
abbrev okS(s:cL):Prop:=s.size<=140737488351232
instance:Inhabited Nd:=⟨.mk 0 ⟨#[]⟩ 0 [] 0⟩
instance:Inhabited Pd:=⟨⟨⟨#[]⟩,[],default⟩⟩
instance:Inhabited Fld:=⟨⟨⟨#[]⟩,[],false⟩⟩
theorem Qf(N):ShU qc N 3 (fun n:Int=>[aI n]) okI:=
 (ShU.int unInt N).map (fun n=>n) (fun _=>rfl) (fun n h=>by
  grind [Lit.wf,IntKind.min,IntKind.max,IntKind.signed,IntKind.bits])
theorem Xf(N):ShU qc N 4 (fun b:Bool=>[aB b]) (fun _=>True):=ShU.bool nY N
theorem Zv(N):ShU qc N 9 (fun s:cL=>[aS s]) okS:=ShU.string qjB N
theorem Xg(N):ShU qc N 28 (fun xs:List Int=>[lI xs]) (fun l=>l.length<=140737488351232/\∀ x,x∈l->okI x):=
 ((ShU.slice qjC (Qf N) (fun _ _=>zKr) (Nat.lt_of_lt_of_eq Nat.zero_lt_one zKr) zKr).le zOm).map (fun l=>l) (fun _=>rfl) fun _ h=>h
theorem qjJ(N):ShU qc N 93 wb (fun f=>f.sS.length<=140737488351232/\∀ x,x∈f.sS->okI x):=
 ((ShU.struct (fs:=[(9,0),(28,1),(4,2)]) zKr (.cons' (o':=1) zKr (Zv N) (.cons' (o':=2) zKr (Xg N) (.cons' (o':=3) zKr (Xf N) (.nil 3)))) zKr).map
  (fun x=>(⟨x.1,x.2.1,x.2.2.1⟩:Fld)) (fun _=>rfl) (fun x h=>h.2.1)).le zOm
theorem qjK(N):ShU qc N 118 wU (fun s=>okS s.1):=
 ((ShU.struct (fs:=[(9,0),(4,1)]) zKr (.cons' (o':=1) zKr (Zv N) (.cons' (o':=2) zKr (Xf N) (.nil 2))) zKr).map
  (fun x=>((x.1,x.2.1):cL×Bool)) (fun _=>rfl) (fun x h=>h.1)).le zOm
theorem VD:∀ N,ShU qc N 35 cNd (fun _=>True)
 | 0=>fun n i=>absurd i zOm
 | N+1 =>
  have ks:ShU qc N 33 (fun l:List Nd=>[.lst false (l.map cNd)]) (fun _=>True):=((ShU.slice qjF (VD N) (fun a _=>(Yb a).trans zKr) (Nat.lt_of_lt_of_eq (show 0<5 by omega) zKr) zKr).le zOm).map (fun l=>l) (fun _=>rfl) fun _ _=>trivial
  ((ShU.struct (fs:=[(3,0),(9,1),(3,2),(33,3),(3,4)]) zKr
   (.cons' (o':=1) zKr (Qf N) (.cons' (o':=2) zKr (Zv N) (.cons' (o':=3) zKr (Qf N) (.cons' (o':=4) zKr ks (.cons' (o':=5) zKr (Qf N) (.nil 5)))))) zKr)).map
   (fun x=>Nd.mk x.1 x.2.1 x.2.2.1 x.2.2.2.1 x.2.2.2.2.1) (fun x=>by rw[yD];rfl) fun _ _=>trivial
theorem qjL(N):ShU qc N 167 cPm (fun p=>okI p.2):=
 ((ShU.struct (fs:=[(9,0),(3,1)]) zKr (.cons' (o':=1) zKr (Zv N) (.cons' (o':=2) zKr (Qf N) (.nil 2))) zKr).map
  (fun x=>((x.1,x.2.1):cL×Int)) (fun _=>rfl) (fun x h=>h.2.1)).le zOm
theorem qjM(N):ShU qc N 133 (fun l:List (cL×Int)=>[lPm l]) (fun l=>l.length<=140737488351232):=
 ((ShU.slice qjG (qjL N) (fun _ _=>zKr) (Nat.lt_of_lt_of_eq (show 0<2 by omega) zKr) zKr).le zOm).map (fun l=>l) (fun _=>rfl) fun _ h=>h.1
theorem qjN(N):ShU qc N 135 cPd (fun _=>True):=
 ((ShU.struct (fs:=[(9,0),(133,1),(35,2)]) zKr (.cons' (o':=1) zKr (Zv N) (.cons' (o':=2) zKr (qjM N) (.cons' (o':=7) zKr (VD N) (.nil 7)))) zKr).map
  (fun x=>(⟨x.1,x.2.1,x.2.2.1⟩:Pd)) (fun x=>by simp[cPd]) fun _ _=>trivial).le zOm
theorem qjO(N):ShU qc N 137 cFa (fun _=>True):=
 ((ShU.struct (fs:=[(9,0),(35,1)]) zKr (.cons' (o':=1) zKr (Zv N) (.cons' (o':=6) zKr (VD N) (.nil 6))) zKr).map
  (fun x=>((x.1,x.2.1):cL×Nd)) (fun x=>by simp[cFa]) fun _ _=>trivial).le zOm
structure okTA (ts:TS):Prop where
 so:∀ x,x∈ts.sS->okS x.1
 nso:ts.sS.length<=140737488351232
 nf:ts.sA.length<=140737488351232
 fl:∀ f,f∈ts.sA->f.sS.length<=140737488351232/\∀ x,x∈f.sS->okI x
theorem qjP(N):ShU qc N 27 cTS okTA:=by
 have s1:=(ShU.slice qjD (qjK N) (fun _ _=>zKr) (Nat.lt_of_lt_of_eq (show 0<2 by omega) zKr) zKr).le (M:=N) zOm;have i:=(ShU.slice qjE (qjJ N) (fun _ _=>zKr) (Nat.lt_of_lt_of_eq (show 0<3 by omega) zKr) zKr).le (M:=N) zOm;have j:=(ShU.slice qjH (qjN N) (fun a h=>(J4 a).1.trans zKr) (Nat.lt_of_lt_of_eq (show 0<7 by omega) zKr) zKr).le (M:=N) zOm;have l:=(ShU.slice qjI (qjO N) (fun a h=>(kO a).1.trans zKr) (Nat.lt_of_lt_of_eq (show 0<6 by omega) zKr) zKr).le (M:=N) zOm;have st:=ShU.struct (t:=27) (fs:=[(22,0),(23,1),(24,2),(25,3)]) zKr (.cons' (o':=1) zKr s1 (.cons' (o':=2) zKr i (.cons' (o':=3) zKr j (.cons' (o':=4) zKr l (.nil 4))))) zKr;exact(st.map (fun x=>(⟨x.1,x.2.1,x.2.2.1,x.2.2.2.1⟩:TS)) (fun _=>rfl) fun x h=>⟨h.1.2,h.1.1,h.2.1.1,h.2.1.2⟩).le zOm
theorem unU8:qc.underlying 5=some (.int .u8):=by kernel_rfl
theorem shU8(N):ShU qc N 5 (fun n:Int=>[.sc (.int .u8 n)]) (fun n=>0<=n/\n<=255):=
 (ShU.int unU8 N).map (fun n=>n) (fun _=>rfl) (fun n h=>by
  simp[Lit.wf,IntKind.min,IntKind.max,IntKind.signed,IntKind.bits]at h;exact h)
theorem aU8:jT qc 5 (fun n:Int => .sc (.int .u8 n)) (fun n=>0<=n/\n<=255):=jT.int unU8 shU8
end DT
namespace QA
def bA:cL:=⟨#[65]⟩
def bf:cL:=⟨#[102]⟩
def bp:cL:=⟨#[112]⟩
end QA
namespace QB
open Y1 Q6 Q9 QA
def nC:Nd := .mk 45 bf 0 [nq bA 2,.mk 47 bp 0 [nq bf 5] 3] 1
theorem h47:anyN (fun n=>decide (n.op=47)) nC=true:=by decide +kernel
end QB
namespace QC
end QC
namespace QD
open YF P1 Y1 Y2
section
variable {nm:cL}{x:cL×Bool}{c:List AV}{i:Nat}
def atF(a:Int):List Int->Int
 | []=>a
 |x :: l=>atF (qw.wrap (qw.wrap (4*a)+x)) l
def zs:List AV:=zo 64 (aB false)
def oneC(l:List Int):List AV:=aI l.length :: (if 0<=atF 0 l/\atF 0 l<64 then zs.set (atF 0 l).toNat (aB true) else zs)
structure SetC (c:List AV):Prop where
 len:c.length=65
 sc:∀ x,x∈c->x.one=true/\HF x
theorem SetC.one(h:SetC c):∀ x,x∈c->x.one=true:=fun x g=>(h.sc x g).1
theorem SetC.hf(h:SetC c):HF (.agg c):=HF.agg fun x g=>(h.sc x g).2
theorem SetC.take(h:SetC c):List.take 65 c=c:=zn (by rw[h.len];omega)
theorem SetC.put{d}(h:SetC c)(g:SetC d):qQ c 0 d=d:=by
 rw[jk _ _ _ (by rw[h.len,g.len];omega)];simp[h.len,g.len,List.drop_of_length_le]
theorem SetC.zero:SetC (aI 0 :: zs):=⟨rfl,fun x g=>by
 rcases ql.1 g with rfl|g
 .exact ⟨rfl,HF.sc _⟩
 .rw [List.eq_of_mem_replicate g];exact⟨rfl,HF.sc _⟩⟩
theorem SetC.oneC(l):SetC (oneC l):=by
 have i:∀ x:AV,x∈zs->x.one=true/\HF x:=fun x g=>by rw[List.eq_of_mem_replicate g];exact⟨rfl,HF.sc _⟩
 unfold QD.oneC;split
 .refine ⟨by simp[zs],fun x g=>?_⟩
  rcases ql.1 g with rfl|g
  .exact ⟨rfl,HF.sc _⟩
  .rcases List.mem_or_eq_of_mem_set g with h|rfl
   .exact i x h
   .exact ⟨rfl,HF.sc _⟩
 .refine ⟨by simp[zs],fun x g=>?_⟩
  rcases ql.1 g with rfl|g
  .exact ⟨rfl,HF.sc _⟩
  .exact i x g
theorem oneU(l)(hl:l.length<=140737488351232):qh qc 144 [lI l] (.agg (oneC l)):=by
 have g:=SetC.oneC l;generalize C:oneC l=R at *
 unfold oneC at C;refine qSU call144 func144 rfl ?_;have i:zs.length=64:=rfl;refine aC l.length (fun k st=>∃ a:Int,st.tm 0=lI l/\st.tm 2 = .ptr 0 0/\st.tm 3 = .ptr 1 0/\st.tm 4=aI a/\st.tm 5=aI k/\st.mu=[.arr (aI 0 :: zs),.arr (aI l.length :: zs)]/\atF a (l.drop k)=atF 0 l) ?_ ?_
 .exact ⟨0,zSi,zSi,zSi,zSi,zSi,by simp[go_sem,zs,zo],rfl⟩
 rintro k st hk ⟨a,I,r,U,e4,e5,hm,hI⟩;by_cases J:k<l.length
 .have w1:=zWk k
  rw[zB J]at hI;simp[go_sem,I,e4,e5,hm,J,w1];exact aP ⟨_,zS1 I,zS1 r,zS1 U,zSi,zSi,zSi,hI⟩
 have a0:k=l.length:=zOm;subst a0;rw[yr]at hI;have ha:a=atF 0 l:=hI;rw[<-ha]at C;have z1:∀ x:AV,(x :: zs).length=65:=fun x=>rfl
 have o:∀ x:AV,x∈zs->x.one=true:=fun x hx=>by rw[List.eq_of_mem_replicate hx];rfl
 have tk:List.take 64 zs=zs:=rfl;have pc:∀(x y:AV)(Z:List AV),Z.length=64->qQ (x :: zs) 0 (y :: Z)=y :: Z:=fun x y Z hZ=>by
  grind [jk,List.drop_of_length_le]
 by_cases h0:0<=a
 .obtain ⟨j,rfl⟩:∃ j:Nat,a=j:=⟨a.toNat,zOm⟩
  by_cases t:(j:Int)<64
  .have hj:1+j<=64:=by omega
   have a1:∀ x:AV,(x :: zs).set (1+j) (AV.sc (Value.bool true))=x :: zs.set j (AV.sc (Value.bool true)):=fun x=>by rw[Nat.add_comm];rfl
   have sl:(zs.set j (AV.sc (Value.bool true))).length=64:=zP1 i;have P:∀ x:AV,x∈zs.set j (AV.sc (Value.bool true))->x.one=true:=fun x hx=>by
    rcases List.mem_or_eq_of_mem_set hx with h|rfl
    .exact o x h
    .rfl
   have T:List.take 64 (zs.set j (AV.sc (Value.bool true)))=zs.set j (AV.sc (Value.bool true)):=zn zOm;have p:R=aI l.length :: zs.set j (AV.sc (Value.bool true)):=by rw[<-C,if_pos ⟨h0,t⟩];rfl
   generalize zs.set j (AV.sc (Value.bool true))=Z at *
   simp[go_sem,I,r,U,e4,e5,hm,h0,t,i,hj,a1,sl,T,pc _ _ _ sl];rw[if_pos P];simp[go_sem,r,sl,T];rw[p]at g⊢;exact .hf _ g.hf
  .simp [go_sem,I,r,U,e4,e5,hm,h0,t,i,tk,pc _ _ _ i]
   rw[if_pos o];simp[go_sem,r,i,tk];have p:R=aI l.length :: zs:=by rw[<-C,zIn]
   rw[p]at g⊢;exact .hf _ g.hf
 .simp [go_sem,I,r,U,e4,e5,hm,h0,i,tk,pc _ _ _ i]
  rw[if_pos o];simp[go_sem,r,i,tk];have p:R=aI l.length :: zs:=by rw[<-C,zIn]
  rw[p]at g⊢;exact .hf _ g.hf
abbrev NS:=List AV×Nat
variable {s:NS}
def stF(nm:cL)(f:Fld)(s:NS):NS:=if f.name=nm then (oneC f.sS,s.2+1) else s
def nmF(nm:cL):List Fld->NS->NS
 | [],s=>s
 |f :: l,s=>nmF nm l (stF nm f s)
def st1(nm:cL)(i:Nat)(x:cL×Bool)(s:NS):NS:=if x.1=nm then (oneC [(i:Int)],s.2+1) else s
def st2(nm:cL)(i:Nat)(x:cL×Bool)(s:NS):NS:=if x.2=true/\x.1++uG=nm then (oneC [(i:Int)],s.2+1) else s
def st3(nm:cL)(i:Nat)(x:cL×Bool)(s:NS):NS:=if x.2=true/\x.1++uH=nm then (oneC [(i:Int),(i:Int)],s.2+1) else s
def nmS(nm:cL):Nat->List (cL×Bool)->NS->NS
 |_,[],s=>s
 |i,x :: l,s=>nmS nm (i+1) l (st3 nm i x (st2 nm i x (st1 nm i x s)))
def named(ts:TS)(nm:cL):NS:=nmS nm 0 ts.sS (nmF nm ts.sA (aI 0 :: zs,0))
theorem qjQ{f}(h:SetC s.1):SetC (stF nm f s).1:=by
 grind [stF,SetC.oneC]
theorem nZ(h:SetC s.1):SetC (st1 nm i x s).1:=by
 grind [st1,SetC.oneC]
theorem n6(h:SetC s.1):SetC (st2 nm i x s).1:=by
 grind [st2,SetC.oneC]
theorem n7(h:SetC s.1):SetC (st3 nm i x s).1:=by
 grind [st3,SetC.oneC]
theorem st_le:(st3 nm i x (st2 nm i x (st1 nm i x s))).2<=s.2+3:=by
 have g:(st1 nm i x s).2<=s.2+1:=by grind [st1]
 have j:∀ s:NS,(st2 nm i x s).2<=s.2+1:=fun s=>by grind [st2]
 have l:∀ s:NS,(st3 nm i x s).2<=s.2+1:=fun s=>by grind [st3]
 grind
theorem n8(nm):∀ l s,SetC s.1->SetC (nmF nm l s).1
 | [],_,h=>h
 |f :: l,s,h=>n8 nm l _ (qjQ h)
theorem n9(nm):∀ l i s,SetC s.1->SetC (nmS nm i l s).1
 | [],_,_,h=>h
 |x :: l,i,s,h=>n9 nm l _ _ (n7 (n6 (nZ h)))
theorem Xh(ts nm):SetC (named ts nm).1:=n9 nm _ _ _ (n8 nm _ _ SetC.zero)
theorem wk1(i):WK (.lst true [rI i]) (lI [i]):=WK.lst fun r g c j=>by
 grind [qL,HF.sc]
theorem wk2(i j):WK (.lst true [rI i,rI j]) (lI [i,j]):=WK.lst fun r g c l=>by
 rcases ql.1 g with rfl|g
 .grind [qL,HF.sc]
 grind [qL,HF.sc]
structure okNm (ts:TS):Prop where
 so:∀ x,x∈ts.sS->x.1.size<=4611686018427387904
 nso:ts.sS.length<=140737488351232
 nf:ts.sA.length<=140737488351232
 fl:∀ f,f∈ts.sA->f.sS.length<=140737488351232
theorem Xi(ts)(ha:okNm ts)(nm):qh qc 147 [eTS ts,aS nm] (.tup [.agg (named ts nm).1,aI (named ts nm).2]):=by
  generalize hR:named ts nm=R;unfold named at hR;refine qSV call147 func147 rfl ?_;have ar:=ha.nf;have au:zs.length=64:=rfl;have av:=ha.nso;simp[go_sem];refine aC ts.sA.length (fun i st=>∃ s:NS,st.tm 1=aS nm/\st.tm 2 = .ip (cTS ts)/\st.tm 4 = .ptr 0 0/\st.tm 6 = .ptr 1 0/\st.tm 7=aI s.2/\st.tm 8=aI i/\st.mu=[.arr (aI 0 :: zs),.arr s.1]/\SetC s.1/\s.2<=i/\nmS nm 0 ts.sS (nmF nm (ts.sA.drop i) s)=R) ?_ ?_
  · exact⟨(aI 0 :: zs,0),zSi,zSi,zSi,zSi,zSi,zSi,by simp[go_sem,zs,zo],SetC.zero,zSp,zUs hR⟩
  clear hR;rintro i st hi ⟨⟨c,k⟩,J,t,e4,P,T,e8,U,j,hk,r⟩;have hk:k<=i:=hk;have j:SetC c:=j;by_cases g:i<ts.sA.length
  · have w1:=zWk i
    have w2:=zWk k;rw[zB g]at r;have ho:=oneU ts.sA[i].sS (ha.fl _ (qv g));have C:=SetC.oneC ts.sA[i].sS;by_cases hq:ts.sA[i].name=nm
    · simp[go_sem,J,t,e8,U,g,hq]
      refine cY ho (.zk (qR _) .nil) ?_;simp[go_sem,P,C.len,j.len,j.put C];rw[if_pos C.one];simp[go_sem,T,e8,g,w1,w2];exact aP ⟨(oneC ts.sA[i].sS,k+1),zS1 J,zS1 t,zS1 e4,zS1 P,zSi,zSi,zSi,C,zOm,by grind [nmF,stF]⟩
    · simp[go_sem,J,t,e8,U,g,jN hq,w1]
      exact aP ⟨(c,k),zS1 J,zS1 t,zS1 e4,zS1 P,zS1 T,zSi,zSi,j,zOm,by grind [nmF,stF]⟩
  have a0:i=ts.sA.length:=zOm;subst a0;rw[yr]at r;simp only[nmF]at r;simp[go_sem,t,e8,U];refine aC ts.sS.length (fun i st=>∃ s:NS,st.tm 1=aS nm/\st.tm 2 = .ip (cTS ts)/\st.tm 4 = .ptr 0 0/\st.tm 6 = .ptr 1 0/\st.tm 7=aI s.2/\st.tm 9=aI i/\st.mu=[.arr (aI 0 :: zs),.arr s.1]/\SetC s.1/\s.2<=ts.sA.length+3*i/\nmS nm i (ts.sS.drop i) s=R) ?_ ?_
  · simp[go_sem, *]
  clear J t e4 P T e8 U j hk r g;rintro i st hi ⟨⟨c,k⟩,J,t,e4,P,T,e9,U,j,hk,r⟩;have hk:k<=ts.sA.length+3*i:=hk;have j:SetC c:=j;by_cases g:i<ts.sS.length
  · have w1:=zWk i
    have w2:=zWk k;have w3:qw.wrap ((k:Int)+1+1)=(k:Int)+1+1:=zWr;have w4:qw.wrap ((k:Int)+1+1+1)=(k:Int)+1+1+1:=zWr;rw[zB g]at r;simp only[nmS]at r;have af:=oneU [(i:Int)] zSp;have ag:=oneU [(i:Int),(i:Int)] zSp;have p:=SetC.oneC [(i:Int)];have I:=SetC.oneC [(i:Int),(i:Int)];have ah:=j.put p;have ai:=j.put I;have aj:=p.put p;have ak:=p.put I;have l1:=p.len;have l2:=I.len;have l0:=j.len;have aw:=st_le (nm:=nm) (i:=i) (x:=ts.sS[i]) (s:=(c,k));have al:=n7 (nm:=nm) (i:=i) (x:=ts.sS[i]) (n6 (nm:=nm) (i:=i) (x:=ts.sS[i]) (nZ (nm:=nm) (i:=i) (x:=ts.sS[i]) (s:=(c,k)) j));have a8:=ha.so _ (qv g);have a8:ts.sS[i].1.size<=4611686018427387904:=a8;generalize a9:ts.sS[i]=so at *
    obtain⟨o,sb⟩:=so;have aa:o.size<=9223372036854775801:=by grind
    have ab:o.size<=9223372036854775802:=zOm;generalize hN:st3 nm i (o,sb) (st2 nm i (o,sb) (st1 nm i (o,sb) (c,k)))=N at *
    have an:(o++uG=nm)=(o++(⟨#[95,102,105,114,115,116]⟩:cL)=nm):=rfl;have ao:(o++uH=nm)=(o++(⟨#[95,110,101,120,116]⟩:cL)=nm):=rfl;simp only[st1,st2,st3,an,ao]at hN;obtain⟨d1,aq⟩:∃ d,decide (o=nm)=d:=⟨_,rfl⟩;obtain⟨d2,ad⟩:∃ d,decide (o++(⟨#[95,102,105,114,115,116]⟩:cL)=nm)=d:=⟨_,rfl⟩;obtain⟨d3,ae⟩:∃ d,decide (o++(⟨#[95,110,101,120,116]⟩:cL)=nm)=d:=⟨_,rfl⟩;have p1:(o=nm)=(d1=true):=by grind
    have p2:(o++(⟨#[95,102,105,114,115,116]⟩:cL)=nm)=(d2=true):=by grind
    have p3:(o++(⟨#[95,110,101,120,116]⟩:cL)=nm)=(d3=true):=by grind
    simp only[p1,p2,p3]at hN;have done:∀ l:St,l.tm 1=aS nm->l.tm 2 = .ip (cTS ts)->l.tm 4 = .ptr 0 0->l.tm 6 = .ptr 1 0->l.tm 7=aI N.2->l.tm 9=aI (i+1:Nat)->l.mu=[.arr (aI 0 :: zs),.arr N.1] ->
        Keep (fun st=>∃ s:NS,st.tm 1=aS nm/\st.tm 2 = .ip (cTS ts)/\st.tm 4 = .ptr 0 0/\st.tm 6 = .ptr 1 0/\st.tm 7=aI s.2/\st.tm 9=aI (i+1:Nat)/\st.mu=[.arr (aI 0 :: zs),.arr s.1]/\SetC s.1/\s.2<=ts.sA.length+3*(i+1)/\nmS nm (i+1) (ts.sS.drop (i+1)) s=R) .mk l:=
      fun l a1 a2 a3 a4 a5 a6 a7=>aP ⟨N,a1,a2,a3,a4,a5,a6,a7,al,zOm,r⟩
    cases d1<;>cases d2<;>cases d3<;>cases sb
    all_goals simp only[if_true,if_false,and_false,and_true,reduceCtorEq]at hN
    all_goals simp[go_sem,Y10.pt,J,t,e9,U,g,a9,aq,ad,ae,w1,aa,ab]
    all_goals repeat' (first
      | (refine cY af (.cons (wk1 _) .nil) ?_
         simp[go_sem,P,ah,aj,l0,l1];rw[if_pos p.one];simp[go_sem,Y10.pt,J,t,T,e9,g,a9,ad,ae,w1,w2,w3,aa,ab])
      | (refine cY ag (.cons (wk2 _ _) .nil) ?_
         simp[go_sem,P,ai,ak,l0,l1,l2];rw[if_pos I.one];simp[go_sem,T,e9,g,w1,w2,w3,w4]))
    all_goals try subst hN
    all_goals simp_all[go_sem]
  have a0:i=ts.sS.length:=zOm;subst a0;rw[yr]at r;simp only[nmS]at r;subst r;simp[go_sem,t,e4,P,T,e9,U,j.len,j.take,SetC.zero.put j,SetC.zero.len];rw[if_pos j.one];simp[go_sem,e4,j.len,j.take];refine .hf _ (HF.tup fun x hx=>?_);rcases ql.1 hx with rfl|hx
  · exact j.hf
  grind [qL,HF.sc]
end
end QD
namespace QE
open Y6 QD
abbrev RS:=Int×(Nat->Bool)
def hB(g:Nat->Bool):List AV:=(qq 64).map fun i=>aB (g i)
abbrev cRS(s:RS):List AV:=aI s.1 :: hB s.2
abbrev eRS(s:RS):AV := .agg (cRS s)
theorem qm(g):(hB g).length=64:=by simp[hB]
theorem mc(g i v):(hB g).set i (aB v)=hB fun j=>if j=i then v else g j:=by
 refine List.ext_getElem (by simp[hB]) fun j l o=>?_
 rw[List.getElem_set];simp only[hB,List.getElem_map,List.getElem_range];by_cases h:i=j
 .rw [if_pos h,if_pos h.symm]
 .rw [if_neg h,if_neg (fun e=>h e.symm)]
theorem qjR(g i)(h:i<64):(hB g)[i]?=some (aB (g i)):=by
 simp[hB,h]
theorem vK{g i}(h:∀ j,j<64->g j=i j):hB g=hB i:=by
 refine List.map_congr_left fun j l=>?_
 rw[h j (zG.1 l)]
theorem setC(s):SetC (cRS s):=⟨by simp[hB],fun x g=>by
 rcases ql.1 g with rfl|g
 .exact ⟨rfl,HF.sc _⟩
 .obtain ⟨j,_,rfl⟩:=qp.1 g
  exact⟨rfl,HF.sc _⟩⟩
theorem zY(s):HF (eRS s):=(setC s).hf
theorem me:hB (fun _=>false)=zs:=rfl
def oneS(l:List Int):RS:=(l.length,fun j=>decide ((j:Int)=atF 0 l))
theorem Xj(l):oneC l=cRS (oneS l):=by
 unfold oneC oneS;simp only[cRS];split
 .rename_i h
  have e:aB true=aB true:=rfl;rw[<-me,mc];congr 1;refine vK fun j i=>?_
  by_cases g:j=(atF 0 l).toNat
  .rw [if_pos g];exact(decide_eq_true zOm).symm
  .rw [if_neg g];exact(decide_eq_false zOm).symm
 .rename_i h
  rw[<-me];congr 1;refine vK fun j i=>?_
  exact(decide_eq_false zOm).symm
def szA(k:Int):Nat:=if k<1 then 1 else if k=1 then 4 else if k=2 then 16 else 64
theorem Yv(k):szA k<=64/\1<=szA k:=by unfold szA;split<;>(try split)<;>(try split)<;>omega
theorem VE(k):qh qc 182 [aI k] (aI (szA k)):=by
 refine qSV call182 func182 rfl ?_;unfold szA;by_cases g:k<1
 .simp [go_sem,g];exact .zsc _
 by_cases i:k=1
 .simp [go_sem,i];exact .zsc _
 by_cases j:k=2
 .simp [go_sem,j];exact .zsc _
 simp[go_sem,g,i,j];exact .zsc _
def uniS(a b:RS):RS:=(a.1,fun j=>a.2 j||b.2 j)
def intS(a b:RS):RS:=(a.1,fun j=>a.2 j&&b.2 j)
theorem g1(x g i)(h:i<64):(x :: hB g)[1+i]?=some (aB (g i)):=by
 rw[Nat.add_comm,jW,qjR g i h]
theorem d1(x g i)(h:i<64):List.take 1 (List.drop (1+i) (x :: hB g))=[aB (g i)]:=by
 rw[Nat.add_comm,List.drop_succ_cons,zB (by rw[qm];exact h)];simp[hB]
theorem d0(g i)(h:i<64):List.take 1 (List.drop i (hB g))=[aB (g i)]:=by
 rw[zB (by rw[qm];exact h)];simp[hB]
theorem s1(x g i v):(x :: hB g).set (1+i) (aB v)=x :: hB fun j=>if j=i then v else g j:=by
 rw[Nat.add_comm,List.set_cons_succ,mc]
theorem qP(g):∀ x,x∈hB g->x.one=true:=fun x i=>by
 obtain⟨j,_,rfl⟩:=qp.1 i;rfl
theorem tk(g):List.take 64 (hB g)=hB g:=zn (by rw[qm];exact qs _)
theorem pc(x y g i):qQ (x :: hB g) 0 (y :: hB i)=y :: hB i:=by
 rw[jk _ _ _ (by simp[qm])];simp[qm,List.drop_of_length_le]
theorem uR(a b):qh qc 162 [eRS a,eRS b] (eRS (uniS a b)):=by
 refine qSQ call162 func162 rfl { mt:=[2] } ?_;simp[go_sem];refine⟨qP _,qP _,?_⟩;refine aC 64 (fun i st=>st.tm 2 = .ptr 0 0/\st.tm 3 = .ip (cRS b)/\st.tm 4 = .ptr 1 0/\st.tm 5=aI i/\st.mu=[.arr (aI a.1 :: hB (fun j=>if j<i then a.2 j||b.2 j else a.2 j)),.arr (aI 0 :: hB fun _=>false)]) ?_ ?_
 .exact ⟨zSi,zSi,zSi,zSi,by simp[go_sem];rfl⟩
 rintro i st hi ⟨p,I,C,J,P⟩;by_cases l:i<64
 .have o:(i:Int)<64:=by omega
  have r:1+i<=64:=zOm;have w1:=zWk i;generalize hG:(fun j=>if j<i then a.2 j||b.2 j else a.2 j)=G at *
  have R:G i=a.2 i:=by rw[<-hG];simp
  have g:∀ v:Bool,v=(a.2 i||b.2 i)->(aI a.1 :: hB G).set (1+i) (aB v)=aI a.1 :: hB (fun j=>if j<i+1 then a.2 j||b.2 j else a.2 j):=fun v hv=>by
   rw[s1];congr 2;funext j;rw[<-hG,hv];by_cases T:j=i
   .subst T;simp
   .by_cases h2:j<i
    .simp [T,h2,show j<i+1 by omega]
    .simp [T,h2,show ¬j<i+1 by omega]
  have t:=d1 (aI a.1) G i l;have m2:=d0 b.2 i l;have U:1<=64-i:=zOm;rw[R]at t;cases ha:a.2 i with
  |true =>
   rw[ha]at t g;have hn:=g true zSp;simp[go_sem,p,J,P,l,o,r,qm,t,hn,w1];exact aP ⟨zS1 p,zS1 I,zS1 C,zSi,zSi⟩
  |false =>
   rw[ha]at t g;have hn:=g (b.2 i) zSp;simp[go_sem,p,I,J,P,l,o,r,U,qm,t,m2,hn,w1];exact aP ⟨zS1 p,zS1 I,zS1 C,zSi,zSi⟩
 .have a0:i=64:=by omega
  subst a0;simp[go_sem,p,C,J,P,qm,tk,pc];rw[if_pos (qP _)];simp[go_sem,C,qm,tk];have e:(aI a.1 :: hB fun j=>if j<64 then a.2 j||b.2 j else a.2 j)=cRS (uniS a b):=by
   exact congrArg (aI a.1 :: ·) (vK fun j hj=>if_pos hj)
  rw[e];exact .hf _ (zY _)
theorem mf(a b):qh qc 163 [eRS a,eRS b] (eRS (intS a b)):=by
 refine qSQ call163 func163 rfl { mt:=[2] } ?_;simp[go_sem];refine⟨qP _,qP _,?_⟩;refine aC 64 (fun i st=>st.tm 2 = .ptr 0 0/\st.tm 3 = .ip (cRS b)/\st.tm 4 = .ptr 1 0/\st.tm 5=aI i/\st.mu=[.arr (aI a.1 :: hB (fun j=>if j<i then a.2 j&&b.2 j else a.2 j)),.arr (aI 0 :: hB fun _=>false)]) ?_ ?_
 .exact ⟨zSi,zSi,zSi,zSi,by simp[go_sem];rfl⟩
 rintro i st hi ⟨p,I,C,J,P⟩;by_cases l:i<64
 .have o:(i:Int)<64:=by omega
  have r:1+i<=64:=zOm;have w1:=zWk i;generalize hG:(fun j=>if j<i then a.2 j&&b.2 j else a.2 j)=G at *
  have R:G i=a.2 i:=by rw[<-hG];simp
  have g:∀ v:Bool,v=(a.2 i&&b.2 i)->(aI a.1 :: hB G).set (1+i) (aB v)=aI a.1 :: hB (fun j=>if j<i+1 then a.2 j&&b.2 j else a.2 j):=fun v hv=>by
   rw[s1];congr 2;funext j;rw[<-hG,hv];by_cases T:j=i
   .subst T;simp
   .by_cases h2:j<i
    .simp [T,h2,show j<i+1 by omega]
    .simp [T,h2,show ¬j<i+1 by omega]
  have t:=d1 (aI a.1) G i l;have m2:=d0 b.2 i l;have U:1<=64-i:=zOm;rw[R]at t;cases ha:a.2 i with
  |false =>
   rw[ha]at t g;have hn:=g false zSp;simp[go_sem,p,J,P,l,o,r,qm,t,hn,w1];exact aP ⟨zS1 p,zS1 I,zS1 C,zSi,zSi⟩
  |true =>
   rw[ha]at t g;have hn:=g (b.2 i) zSp;simp[go_sem,p,I,J,P,l,o,r,U,qm,t,m2,hn,w1];exact aP ⟨zS1 p,zS1 I,zS1 C,zSi,zSi⟩
 .have a0:i=64:=by omega
  subst a0;simp[go_sem,p,C,J,P,qm,tk,pc];rw[if_pos (qP _)];simp[go_sem,C,qm,tk];have e:(aI a.1 :: hB fun j=>if j<64 then a.2 j&&b.2 j else a.2 j)=cRS (intS a b):=by
   exact congrArg (aI a.1 :: ·) (vK fun j hj=>if_pos hj)
  rw[e];exact .hf _ (zY _)
def trS(a:RS):RS:=(2,fun j=>decide (j<16)&&a.2 (j % 4*4+j / 4))
theorem mi(a):qh qc 166 [eRS a] (eRS (trS a)):=by
 refine qSU call166 func166 rfl ?_;refine⟨qP _,?_⟩;refine aC 16 (fun i st=>st.tm 1 = .ip (cRS a)/\st.tm 2 = .ptr 0 0/\st.tm 3 = .ptr 1 0/\st.tm 4=aI i/\st.mu=[.arr (aI 0 :: hB fun _=>false),.arr (aI 2 :: hB (fun j=>decide (j<16/\j % 4*4+j / 4<i)&&a.2 (j % 4*4+j / 4)))]) ?_ ?_
 .exact ⟨zSi,zSi,zSi,zSi,by simp[go_sem];first|rfl|exact⟨rfl,rfl⟩⟩
 rintro i st hi ⟨R,o,p,U,r⟩;by_cases t:i<16
 .have l:(i:Int)<16:=by omega
  have w1:=zWk i;obtain⟨q,hq⟩:∃ q:Nat,q=i % 4*4+i / 4:=⟨_,rfl⟩;have a0:q<16:=zOm;have w2:qw.wrap ((i:Int).tmod 4)=((i % 4:Nat):Int):=by
   rw[wD zOm];rw[zWr];omega
  have w3:qw.wrap (qw.wrap ((i:Int).tmod 4*4)+qw.wrap ((i:Int) / 4))=(q:Int):=by
   have x1:qw.wrap ((i:Int) % 4*4)=(i:Int) % 4*4:=zWr;have x2:qw.wrap ((i:Int) / 4)=(i:Int) / 4:=zWr;rw[wD zOm,x1,x2,zWr];omega
  generalize hG:(fun j=>decide (j<16/\j % 4*4+j / 4<i)&&a.2 (j % 4*4+j / 4))=G at *
  have g:(aI 2 :: hB G).set (1+q) (aB (a.2 i))=aI 2 :: hB (fun j=>decide (j<16/\j % 4*4+j / 4<i+1)&&a.2 (j % 4*4+j / 4)):=by
   rw[s1];refine congrArg (aI 2 :: ·) (vK fun j hj=>?_);rw[<-hG];by_cases C:j=q
   .have h2:j % 4*4+j / 4=i:=by omega
    rw[if_pos C,h2,decide_eq_true ⟨zOm,zOm⟩];rfl
   .have h2:¬(j<16/\j % 4*4+j / 4=i):=fun h=>C zOm
    rw[if_neg C];have h3:(j<16/\j % 4*4+j / 4<i+1)=(j<16/\j % 4*4+j / 4<i):=propext ⟨fun h=>⟨h.1,zOm⟩,fun h=>⟨h.1,zOm⟩⟩;rw[show decide (j<16/\j % 4*4+j / 4<i+1)=decide (j<16/\j % 4*4+j / 4<i) from decide_eq_decide.2 (by rw[h3])]
  have m2:=d0 a.2 i zOm;have I:(i:Int)<64:=zOm;have J:1<=64-i:=zOm;simp[go_sem,R,p,U,r,t,l,I,J,m2,qm,w1,w3,show (q:Int)<64 by omega,show 1+q<=64 by omega,g];exact aP ⟨zS1 R,zS1 o,zS1 p,zSi,zSi⟩
 .have P:i=16:=by omega
  subst P;have e:hB (fun j=>decide (j<16/\j % 4*4+j / 4<16)&&a.2 (j % 4*4+j / 4))=hB (trS a).2:=by
   refine vK fun j hj=>?_
   rw[show decide (j<16/\j % 4*4+j / 4<16)=decide (j<16) from decide_eq_decide.2 ⟨fun h=>h.1,fun h=>⟨h,zOm⟩⟩];rfl
  rw[e]at r;have hT:eRS (trS a) = .agg (aI 2 :: hB (trS a).2):=rfl;rw[hT];generalize (trS a).2=T at *
  simp[go_sem,o,p,U,r,qm,tk,pc];rw[if_pos (qP _)];simp[go_sem,o,qm,tk];exact .hf _ (zY (2,T))
def wh(a b:RS)(j:Nat):Bool:=a.2 (j / szA b.1)&&b.2 (j % szA b.1)
def Xk(a b:RS):RS:=(a.1+b.1,fun j=>decide (j<szA a.1*szA b.1)&&wh a b j)
theorem qjS(f:Nat->Bool)(p v)(i:v=f p):∀ j,(if j=p then v else decide (j<p)&&f j)=(decide (j<p+1)&&f j):=fun j=>by
 by_cases g:j=p
 .subst g;simp[i]
 .rw [if_neg g,show decide (j<p+1)=decide (j<p) from decide_eq_decide.2 zOm]
theorem mj(a b)(ha:0<=a.1/\a.1<=1000)(hb:0<=b.1/\b.1<=1000):qh qc 165 [eRS a,eRS b] (eRS (Xk a b)):=by
 refine qSV call165 func165 rfl ?_;have w0:qw.wrap (a.1+b.1)=a.1+b.1:=zWr;have af:=Yv a.1;have ag:=Yv b.1;have ca:=VE a.1;have cb:=VE b.1;have hf:∀ j,wh a b j=(a.2 (j / szA b.1)&&b.2 (j % szA b.1)):=fun _=>rfl
 simp[go_sem,qm];refine⟨qP _,qP _,?_⟩;simp[go_sem,w0];refine cY cb (.zs .nil) ?_;generalize hE:Xk a b=E;have a9:E=(a.1+b.1,fun j=>decide (j<szA a.1*szA b.1)&&wh a b j):=hE.symm;clear hE;generalize wh a b=F at *
 generalize szA a.1=sa at *
 generalize szA b.1=n at *
 simp[go_sem];refine aC sa (fun i st=>st.tm 2 = .ip (cRS a)/\st.tm 3 = .ip (cRS b)/\st.tm 4 = .ptr 0 0/\st.tm 5 = .ptr 1 0/\st.tm 6=aI n/\st.tm 7=aI i/\st.mu=[.arr (aI 0 :: hB fun _=>false),.arr (aI (a.1+b.1) :: hB (fun j=>decide (j<i*n)&&F j))]) ?_ ?_
 .exact ⟨zSi,zSi,zSi,zSi,zSi,zSi,by simp[go_sem];first|rfl|exact⟨rfl,rfl⟩⟩
 rintro i st hi ⟨l,C,J,P,o,r,R⟩;simp[go_sem,l,r,R];refine cY ca (.zs .nil) ?_;by_cases a6:i<sa
 .have w1:=zWk i
  simp[go_sem,a6];refine aC n (fun k st=>st.tm 2 = .ip (cRS a)/\st.tm 3 = .ip (cRS b)/\st.tm 4 = .ptr 0 0/\st.tm 5 = .ptr 1 0/\st.tm 6=aI n/\st.tm 7=aI i/\st.tm 8=aI k/\st.mu=[.arr (aI 0 :: hB fun _=>false),.arr (aI (a.1+b.1) :: hB (fun j=>decide (j<i*n+k)&&F j))]) ?_ ?_
  .exact ⟨zS1 l,zS1 C,zS1 J,zS1 P,zS1 o,zS1 r,zSi,zSi⟩
  clear l C J P o r R;rintro k st hk ⟨l,C,J,P,o,r,e8,R⟩;by_cases t:k<n
  .have w2:=zWk k
   obtain⟨p,hp⟩:∃ p:Nat,p=i*n+k:=⟨_,rfl⟩;have a7:((i:Int)*n+k)=(p:Int):=by rw[hp];push_cast;rfl
   have ah:i*n<=63*64:=Nat.mul_le_mul zOm zOm;have w3:qw.wrap ((i:Int)*n)=(i:Int)*n:=by
    have:((i*n:Nat):Int)=(i:Int)*n:=by push_cast;rfl
    rw[<-this];exact zWr
   have w4:qw.wrap (p:Int)=(p:Int):=zWr;have a2:F p=(a.2 i&&b.2 k):=by
    rw[hf,hp,Nat.add_comm,Nat.add_mul_div_right _ _ zOm,Nat.add_mul_mod_self_right,Nat.div_eq_of_lt t,Nat.mod_eq_of_lt t,yI]
   have m1:=d0 a.2 i zOm;have m2:=d0 b.2 k zOm;have U:1<=64-i:=zOm;have a3:1<=64-k:=zOm;have a0:(i:Int)<64:=zOm;have a4:(k:Int)<64:=zOm;have hq:∀ x:AV,(x :: hB (fun j=>decide (j<p)&&F j)).set (1+p) (aB true)=x :: hB (fun j=>if j=p then true else decide (j<p)&&F j):=fun x=>s1 x _ p true
   rw[<-hp]at R;have aa:F p=true->(fun j=>if j=p then true else decide (j<p)&&F j)=(fun j=>decide (j<p+1)&&F j):=fun h=>funext (qjS F p true h.symm)
   have ab:F p=true->∀ x:AV,(x :: hB (fun j=>decide (j<p)&&F j)).set (1+p) (AV.sc (Value.bool true))=x :: hB (fun j=>decide (j<p+1)&&F j):=fun h x=>by rw[<-aa h];exact hq x
   have a5:(F p=false\/64<=p)->hB (fun j=>decide (j<p)&&F j)=hB (fun j=>decide (j<p+1)&&F j):=fun h=>vK fun j hj=>by
    by_cases h1:j=p
    .rcases h with h|h
     .rw [h1,h];simp
     .omega
    .rw [show decide (j<p+1)=decide (j<p) from decide_eq_decide.2 zOm]
   have done:∀ g:St,g.tm 2 = .ip (cRS a)->g.tm 3 = .ip (cRS b)->g.tm 4 = .ptr 0 0->g.tm 5 = .ptr 1 0->g.tm 6=aI n->g.tm 7=aI i->g.tm 8=aI (k+1:Nat)->g.mu=[.arr (aI 0 :: hB fun _=>false),.arr (aI (a.1+b.1) :: hB (fun j=>decide (j<p+1)&&F j))]->Keep (fun st=>st.tm 2 = .ip (cRS a)/\st.tm 3 = .ip (cRS b)/\st.tm 4 = .ptr 0 0/\st.tm 5 = .ptr 1 0/\st.tm 6=aI n/\st.tm 7=aI i/\st.tm 8=aI (k+1:Nat)/\st.mu=[.arr (aI 0 :: hB fun _=>false),.arr (aI (a.1+b.1) :: hB (fun j=>decide (j<i*n+(k+1))&&F j))]) .mk g:=
    fun g b1 b2 b3 b4 b5 b6 b7 b8=>aP ⟨b1,b2,b3,b4,b5,b6,b7,by rw[b8,hp];rfl⟩
   cases I:a.2 i with
   |false =>
    rw[I]at m1;simp[go_sem,l,o,r,e8,R,t,qm,m1,U,a0,w2];exact done _ (zS1 l) (zS1 C) (zS1 J) (zS1 P) (zS1 o) (zS1 r) zSi (by simp[go_sem,a5 (.inl (by rw[a2,I];rfl))])
   |true =>
    rw[I]at m1;cases a1:b.2 k with
    |false =>
     rw[a1]at m2;simp[go_sem,l,C,o,r,e8,R,t,qm,m1,m2,U,a3,a0,a4,w2];exact done _ (zS1 l) (zS1 C) (zS1 J) (zS1 P) (zS1 o) (zS1 r) zSi (by simp[go_sem,a5 (.inl (by rw[a2,I,a1];rfl))])
    |true =>
     rw[a1]at m2;by_cases a8:(p:Int)<64
     .simp [go_sem,l,C,P,o,r,e8,R,t,qm,m1,m2,U,a3,a0,a4,w2,w3,a7,w4,a8,show 1+p<=64 by omega,ab (by rw[a2,I,a1];rfl)]
      exact done _ (zS1 l) (zS1 C) (zS1 J) (zS1 P) (zS1 o) (zS1 r) zSi zSi
     .simp [go_sem,l,C,o,r,e8,R,t,qm,m1,m2,U,a3,a0,a4,w2,w3,a7,w4,a8]
      exact done _ (zS1 l) (zS1 C) (zS1 J) (zS1 P) (zS1 o) (zS1 r) zSi (by simp[go_sem,a5 (.inr zOm)])
  .have ad:k=n:=by omega
   subst ad;rw[show i*k+k=(i+1)*k by rw[Nat.add_mul,Nat.one_mul]]at R;simp[go_sem,o,r,e8,R,w1];exact⟨a6,aP ⟨zS1 l,zS1 C,zS1 J,zS1 P,zS1 o,zSi,zSi⟩⟩
 .have ae:i=sa:=by omega
  subst ae;rw[a9];generalize (fun j=>decide (j<i*n)&&F j)=T at *
  simp[go_sem,J,P,qm,tk,pc];rw[if_pos (qP _)];simp[go_sem,J,qm,tk];exact .hf _ (zY (_,T))
def rowJ(a b:RS)(i g j:Nat):Bool:=(qq g).any fun k=>decide (i / 4*(szA b.1 / 4)+k % (szA b.1 / 4)=j)&&(decide (i % 4=k / (szA b.1 / 4))&&(a.2 i&&b.2 k))
def Qg(a b:RS):RS:=(a.1+b.1-2,fun j=>(qq (szA a.1)).any fun i=>rowJ a b i (szA b.1) j)
theorem qjT(a b i k j):rowJ a b i (k+1) j=(rowJ a b i k j||(decide (i / 4*(szA b.1 / 4)+k % (szA b.1 / 4)=j)&&(decide (i % 4=k / (szA b.1 / 4))&&(a.2 i&&b.2 k)))):=by
 unfold rowJ;rw[List.range_succ,List.any_append];simp
theorem qjU{k}(h:1<=k):4<=szA k:=by unfold szA;split<;>(try split)<;>(try split)<;>omega
theorem VF(a b)(ha:0<=a.1/\a.1<=1000)(hb:1<=b.1/\b.1<=1000):qh qc 164 [eRS a,eRS b] (eRS (Qg a b)):=by
 refine qSV call164 func164 rfl ?_;have w0:qw.wrap (a.1+b.1)=a.1+b.1:=zWr;have aa:qw.wrap (a.1+b.1-2)=a.1+b.1-2:=zWr;have ai:=Yv a.1;have aj:=Yv b.1;have ak:=qjU hb.1;have ca:=VE a.1;have cb:=VE b.1;have hR:∀ i k j,rowJ a b i (k+1) j=(rowJ a b i k j||(decide (i / 4*(szA b.1 / 4)+k % (szA b.1 / 4)=j)&&(decide (i % 4=k / (szA b.1 / 4))&&(a.2 i&&b.2 k)))):=qjT a b;have ab:∀ i j,rowJ a b i 0 j=false:=fun i j=>rfl
 simp[go_sem,qm];refine⟨qP _,qP _,?_⟩;simp[go_sem,w0,aa];refine cY cb (.zs .nil) ?_;generalize hE:Qg a b=E;have ad:E=(a.1+b.1-2,fun j=>(qq (szA a.1)).any fun i=>rowJ a b i (szA b.1) j):=hE.symm;clear hE;generalize rowJ a b=F at *
 generalize szA a.1=sa at *
 generalize szA b.1=sb at *
 obtain⟨n,hn⟩:∃ n:Nat,n=sb / 4:=⟨_,rfl⟩;have al:1<=n/\n<=16:=zOm;have wn:qw.wrap ((sb:Int) / 4)=(n:Int):=by rw[zWr];omega
 rw[<-hn]at hR;simp[go_sem,wn];refine aC sa (fun i st=>st.tm 2 = .ip (cRS a)/\st.tm 3 = .ip (cRS b)/\st.tm 4 = .ptr 0 0/\st.tm 5 = .ptr 1 0/\st.tm 6=aI n/\st.tm 7=aI i/\st.mu=[.arr (aI 0 :: hB fun _=>false),.arr (aI (a.1+b.1-2) :: hB (fun j=>(qq i).any fun i=>F i sb j))]) ?_ ?_
 .exact ⟨zSi,zSi,zSi,zSi,zSi,zSi,by simp[go_sem];first|rfl|exact⟨rfl,rfl⟩⟩
 rintro i st hi ⟨l,r,C,I,t,o,hm⟩;simp[go_sem,l,o,hm];refine cY ca (.zs .nil) ?_;by_cases a8:i<sa
 .have w1:=zWk i
  generalize hP:(fun j=>(qq i).any fun i=>F i sb j)=P at *
  simp[go_sem,a8];refine aC sb (fun k st=>st.tm 2 = .ip (cRS a)/\st.tm 3 = .ip (cRS b)/\st.tm 4 = .ptr 0 0/\st.tm 5 = .ptr 1 0/\st.tm 6=aI n/\st.tm 7=aI i/\st.tm 8=aI k/\st.mu=[.arr (aI 0 :: hB fun _=>false),.arr (aI (a.1+b.1-2) :: hB (fun j=>P j||F i k j))]) ?_ ?_
  .exact ⟨zS1 l,zS1 r,zS1 C,zS1 I,zS1 t,zS1 o,zSi,zS1 ab⟩
  clear l r C I t o hm;rintro k st hk ⟨l,r,C,I,t,o,e8,hm⟩;simp[go_sem,r,e8,hm];refine cY cb (.zs .nil) ?_;by_cases J:k<sb
  .have w2:=zWk k
   obtain⟨p,hp⟩:∃ p:Nat,p=i / 4*n+k % n:=⟨_,rfl⟩;have an:k % n<n:=Nat.mod_lt _ zOm;have ao:i / 4*n<=15*16:=Nat.mul_le_mul zOm zOm;have y1:((i / 4:Nat):Int)=(i:Int) / 4:=zOm;have y2:((i / 4*n:Nat):Int)=(i:Int) / 4*n:=by rw[<-y1];push_cast;rfl
   have y3:((k % n:Nat):Int)=(k:Int) % n:=rfl;have y4:((k / n:Nat):Int)=(k:Int) / n:=rfl;have ae:k / n<=64:=zS (Nat.div_le_self k n) zOm;have x1:qw.wrap ((i:Int) / 4)=(i:Int) / 4:=zWr;have x2:qw.wrap ((i:Int) / 4*n)=(i:Int) / 4*n:=by rw[<-y2];exact zWr
   have x4:qw.wrap ((i:Int) / 4*n+(k:Int) % n)=(p:Int):=by rw[<-y2,<-y3,zWr,hp];push_cast;rfl
   have a7:qw.wrap ((i:Int) / 4*n+(k:Int).tmod n)=(p:Int):=by rw[wD zOm];exact x4
   have x5:qw.wrap ((k:Int) / n)=(k:Int) / n:=by
    rw[<-y4];clear y4;generalize k / n=c at ae⊢;exact zWr
   have R:¬n=0:=zOm;have m1:=d0 a.2 i zOm;have m2:=d0 b.2 k zOm;have U:1<=64-i:=zOm;have a1:1<=64-k:=zOm;have a0:(i:Int)<64:=zOm;have a2:(k:Int)<64:=zOm;have a3:((decide (i % 4=k / n)&&(a.2 i&&b.2 k))=false\/64<=p)->hB (fun j=>P j||F i k j)=hB (fun j=>P j||F i (k+1) j):=fun h=>vK fun j hj=>by
    rw[hR,<-hp];rcases h with h|h
    .rw [h,Bool.and_false,Bool.or_false]
    .rw [decide_eq_false zOm,Bool.false_and,Bool.or_false]
   have af:(decide (i % 4=k / n)&&(a.2 i&&b.2 k))=true->∀ x:AV,(x :: hB (fun j=>P j||F i k j)).set (1+p) (AV.sc (Value.bool true))=x :: hB (fun j=>P j||F i (k+1) j):=fun h x=>by
    refine(s1 x _ p true).trans (congrArg (x :: ·) (vK fun j hj=>?_));rw[hR,<-hp,h,Bool.and_true];by_cases h1:j=p
    .rw [if_pos h1,h1];simp
    .rw [if_neg h1,decide_eq_false (fun e=>h1 e.symm),Bool.or_false]
   have done:∀ g:St,g.tm 2 = .ip (cRS a)->g.tm 3 = .ip (cRS b)->g.tm 4 = .ptr 0 0->g.tm 5 = .ptr 1 0->g.tm 6=aI n->g.tm 7=aI i->g.tm 8=aI (k+1:Nat)->g.mu=[.arr (aI 0 :: hB fun _=>false),.arr (aI (a.1+b.1-2) :: hB (fun j=>P j||F i (k+1) j))]->Keep (fun st=>st.tm 2 = .ip (cRS a)/\st.tm 3 = .ip (cRS b)/\st.tm 4 = .ptr 0 0/\st.tm 5 = .ptr 1 0/\st.tm 6=aI n/\st.tm 7=aI i/\st.tm 8=aI (k+1:Nat)/\st.mu=[.arr (aI 0 :: hB fun _=>false),.arr (aI (a.1+b.1-2) :: hB (fun j=>P j||F i (k+1) j))]) .mk g:=
    fun g b1 b2 b3 b4 b5 b6 b7 b8=>aP ⟨b1,b2,b3,b4,b5,b6,b7,b8⟩
   cases a4:a.2 i with
   |false =>
    rw[a4]at m1;simp[go_sem,l,t,o,e8,J,qm,x1,x2,R,m1,U,a0,w2];exact done _ (zS1 l) (zS1 r) (zS1 C) (zS1 I) (zS1 t) (zS1 o) zSi (by simp[go_sem,a3 (.inl (by rw[a4];simp))])
   |true =>
    rw[a4]at m1;cases a5:b.2 k with
    |false =>
     rw[a5]at m2;simp[go_sem,l,r,t,o,e8,J,qm,x1,x2,R,m1,m2,U,a0,a1,a2,w2];exact done _ (zS1 l) (zS1 r) (zS1 C) (zS1 I) (zS1 t) (zS1 o) zSi (by simp[go_sem,a3 (.inl (by rw[a5];simp))])
    |true =>
     rw[a5]at m2;by_cases hq:i % 4=k / n
     .have a6:(i:Int).tmod 4=(k:Int) / n:=by rw[wD zOm,<-y4,<-hq];rfl
      by_cases a9:(p:Int)<64
      .simp [go_sem,l,r,I,t,o,e8,J,qm,x1,x2,a7,x5,R,m1,m2,U,a0,a1,a2,w2,a6,a9,show 1+p<=64 by omega,af (by rw[decide_eq_true hq,a4,a5];rfl)]
       exact done _ (zS1 l) (zS1 r) (zS1 C) (zS1 I) (zS1 t) (zS1 o) zSi zSi
      .simp [go_sem,l,r,t,o,e8,J,qm,x1,x2,a7,x5,R,m1,m2,U,a0,a1,a2,w2,a6,a9]
       exact done _ (zS1 l) (zS1 r) (zS1 C) (zS1 I) (zS1 t) (zS1 o) zSi (by simp[go_sem,a3 (.inr zOm)])
     .have a6:¬(i:Int).tmod 4=(k:Int) / n:=fun e=>hq (by rw[wD zOm,<-y4]at e;exact Int.ofNat.inj e)
      simp[go_sem,l,r,t,o,e8,J,qm,x1,x2,a7,x5,R,m1,m2,U,a0,a1,a2,w2,a6];exact done _ (zS1 l) (zS1 r) (zS1 C) (zS1 I) (zS1 t) (zS1 o) zSi (by simp[go_sem,a3 (.inl (by rw[decide_eq_false hq];rfl))])
  .have ag:k=sb:=by omega
   subst ag;simp[go_sem,o,w1];exact⟨a8,aP ⟨zS1 l,zS1 r,zS1 C,zS1 I,zS1 t,zSi,by simp[go_sem];rw[<-hP]⟩⟩
 .have ah:i=sa:=by omega
  subst ah;rw[ad];generalize (fun j=>(qq i).any fun i=>F i sb j)=T at *
  simp[go_sem,C,I,qm,tk,pc];rw[if_pos (qP _)];simp[go_sem,C,qm,tk];exact .hf _ (zY (_,T))
end QE
namespace PB
open P1 P2 Y1 Y2 Y6 Y9 Y12 YW QB
section
variable {b':Kd}
def Sub(a b:Kd):Prop:=a.ar=b.ar/\∀ t,t∈a.ts->t∈b.ts
theorem qjV{n m a g b b'}(i:∀ t,t∈a->t∈g)(j:∀ t,t∈b->t∈b'):∀ t,t∈vZ n m a b->t∈vZ n m g b':=fun t l=>by
 grind [Zd]
theorem qjW{n m a g b b'}(i:∀ t,t∈a->t∈g)(j:∀ t,t∈b->t∈b'):∀ t,t∈uF n m a b->t∈uF n m g b':=fun t l=>by
 grind [J3]
theorem VG{a j b}(g:Sub a j)(i:Sub b b'):Sub (zD a b) (zD j b'):=by
 refine⟨by simp only[zD];rw[g.1,i.1],fun t l=>?_⟩;simp only[zD]at l⊢;rw[<-g.1,<-i.1];exact qjV g.2 i.2 t l
theorem qjX{a j b}(g:Sub a j)(i:Sub b b'):Sub (v5 a b) (v5 j b'):=by
 refine⟨by simp only[v5];rw[g.1,i.1],fun t l=>?_⟩;simp only[v5]at l⊢;rw[<-g.1,<-i.1];exact qjW g.2 i.2 t l
theorem wA{a b}{t:Tp}:t∈(kSum a b).ts↔t∈a.ts\/t∈b.ts:=by
 show t∈uni (uni [] a.ts) b.ts↔_;rw[vE,vE];simp
theorem mm{a g b}(i:Sub a g)(j:∀ t,t∈b.ts->t∈b'.ts):Sub (kSum a b) (kSum g b'):=
 ⟨i.1,fun t l=>wA.2 ((wA.1 l).imp (i.2 t) (j t))⟩
theorem Sub.refl(a):Sub a a:=⟨rfl,fun _ h=>h⟩
theorem Sub.trans{a b c}(h:Sub a b)(k:Sub b c):Sub a c:=⟨h.1.trans k.1,fun t g=>k.2 t (h.2 t g)⟩
theorem Xl(a b):Sub a (kSum a b):=⟨rfl,fun t g=>wA.2 (.inl g)⟩
theorem qjY{a g}(i:Sub a g):Sub (kTr a) (kTr g):=⟨rfl,fun t j=>by
 obtain⟨x,l,e⟩:=Wq.1 j;exact Wq.2 ⟨x,i.2 x l,e⟩⟩
def VH(k:Kd):Prop:=∀ t,t∈(zD k k).ts->t∈k.ts
theorem Xm:∀ f n a,Sub a (cloN f n a)
 | 0,n,a => .refl a
 |f+1,n,a=>by
  unfold cloN;split
  .exact (Xl a _).trans (Xm f _ _)
  .exact .refl a
theorem Xn{S}(i:VH S):∀ f n a,Sub a S->Sub (cloN f n a) S
 | 0,n,a,h=>h
 |f+1,n,a,h=>by
  unfold cloN;split
  .refine Xn i f _ _ ⟨h.1,fun t g=>?_⟩
   rcases wA.1 g with g|g
   .exact h.2 t g
   .exact i t ((VG h h).2 t g)
  .exact h
theorem Xo{ns}(o:ns<=4):∀ f n a,okKd ns a->a.ar=2->70<=f+n->(n=0\/∃ p,okKd ns p/\p.ar=2/\n=p.ts.length/\a=kSum p (zD p p))->VH (cloN f n a)
 | 0,n,a,g,r,hf,C=>by
  rcases C with rfl|⟨p,J,_,rfl,_⟩
  .omega
  grind [aR]
 |f+1,n,a,g,r,hf,C=>by
  unfold cloN;split
  .rename_i T
   have U:okKd ns (zD a a):=Yi g g zOm zOm;refine Xo o f _ _ (Yg g U (by grind [zD])) r zOm (.inr ⟨a,g,r,rfl,rfl⟩)
  .rename_i a0
   rcases C with rfl|⟨p,J,a1,rfl,rfl⟩
   .have:a.ts=[]:=jY zOm
    intro t i;obtain⟨x,y,⟨I,_⟩,_⟩:=Zd.1 i
    grind
   .have j:∀ t,t∈(kSum p (zD p p)).ts->t∈p.ts:=by
     have a2:(kSum p (zD p p)).ts.Nodup:=g.nd;have a3:∀ t,t∈p.ts->t∈(kSum p (zD p p)).ts:=(Xl p _).2;intro t i;by_cases P:t∈p.ts
     .exact P
     .exfalso
      have l:(t :: p.ts).Nodup:=jz.2 ⟨P,J.nd⟩;have:=jI l (l₂:=(kSum p (zD p p)).ts) (fun x I=>by
       rcases ql.1 I with rfl|I
       .exact i
       grind)
      grind
    intro t i;have R:Sub (kSum p (zD p p)) p:=⟨rfl,j⟩;exact wA.2 (.inr ((VG R R).2 t i))
theorem qjZ{ns}(g:ns<=4){a u}(h:Sub a u)(i:okKd ns u)(j:u.ar=2):Sub (kClo a) (kClo u):=
 Xn (Xo g 70 0 u i j zOm (.inl rfl)) 70 0 a (h.trans (Xm 70 0 u))
theorem mn(c):∀ m n s k,szN n<=m->exam c s true n = .ok k->exam c s false n = .ok k
 | 0,n,_,_,I,_=>by obtain⟨op,nm,i,ks,p⟩:=n;simp[szN]at I
 |m+1,n,s,k,I,h=>by
  have P:∀ x,x∈n.sD->∀(s:Scp)(g:Bool)(k:Option Kd),exam c s true x = .ok k->exam c s g x = .ok k:=fun x t s g k h=>by
   cases g with
   |true=>exact h
   |false=>exact mn c m x s k (zW1 (yw t)) h
  have U:∀(l:List Nd),(∀ x,x∈l->x∈n.sD)->∀(s:Scp)(g:Bool)(r:List (Option Kd)),qS c s true l = .ok r->qS c s g l = .ok r:=by
   intro l;induction l with
   |nil=>intro _ s g r h;exact h
   |cons x l R =>
    grind [qS,exam,qN,qB]
  rw[yx]at h⊢;simp only[Bool.true_and,Bool.false_and,Bool.true_or,Bool.false_or,Bool.false_eq_true,if_false]at h⊢;split at h
  .cases h
  by_cases T:n.op=1
  .grind
  rw[if_neg T]at h⊢;by_cases h47:n.op=47
  .grind
  rw[if_neg h47]at h⊢;by_cases J:n.op=15\/n.op=45\/n.op=46
  .rw [if_pos J]at h⊢
   cases j:n.sD with
   |nil=>rw[j]at h;exact h
   |cons x l =>
    have o:∀ y,y∈x :: l->y∈n.sD:=fun y hy=>by grind
    rw[j]at h;simp only[zQ]at h⊢;cases t:exam c s true x with
    |error e=>grind
    |ok a =>
     rw[t]at h;rw[P x (o x (qN ..)) s _ a t];cases a with
     |none=>cases h
     |some a =>
      simp only at h⊢;split at h
      .rename_i C
       rw[if_pos C]
       grind
      .cases h
  rw[if_neg J]at h⊢
  grind
section
variable {ts:TS} (ok:okTS ts) (a b d:Nd)
include ok
end
end
end PB
namespace QF
open Y2 Y3 P1 P2 QD QE
section
variable {p q:Int}{a b:Kd}{l:List Int}{m ns:Nat}
def dig(k:Int)(j:Nat):List Int:=if k=0 then [] else if k=1 then [(j:Int)] else if k=2 then [((j / 4:Nat):Int),((j % 4:Nat):Int)] else [((j / 16:Nat):Int),((j / 4 % 4:Nat):Int),((j % 4:Nat):Int)]
theorem Qh{k}(h:0<=k/\k<=3)(j):((dig k j).length:Int)=k:=by
 grind [dig]
theorem szA1:szA 1=4:=rfl
theorem szA2:szA 2=16:=rfl
theorem szA3:szA 3=64:=rfl
theorem Yw(h:0<=p/\p<=3):p=0\/p=1\/p=2\/p=3:=by omega
theorem mq(g:0<=p)(i:0<=q)(h:p+q<=3){j}(l:j<szA (p+q)):j / szA q<szA p/\j % szA q<szA q/\dig (p+q) j=dig p (j / szA q)++dig q (j % szA q):=by
 rcases Yw (p:=p) ⟨g,zOm⟩ with rfl|rfl|rfl|rfl<;>rcases Yw (p:=q) ⟨i,zOm⟩ with rfl|rfl|rfl|rfl<;>first | (exfalso;omega)|skip
 all_goals simp[dig,szA]at l⊢
 all_goals omega
theorem Xp(g:0<=p)(j:0<=q)(h:p+q<=3){i k}(l:i<szA p)(o:k<szA q):i*szA q+k<szA (p+q)/\dig (p+q) (i*szA q+k)=dig p i++dig q k:=by
 rcases Yw (p:=p) ⟨g,zOm⟩ with rfl|rfl|rfl|rfl<;>rcases Yw (p:=q) ⟨j,zOm⟩ with rfl|rfl|rfl|rfl<;>first | (exfalso;omega)|skip
 all_goals simp[dig,szA]at l o⊢
 all_goals omega
theorem Xq(h:0<=p/\p<=3){i j}(g:i<szA p)(l:j<szA p)(e:dig p i=dig p j):i=j:=by
 rcases Yw h with rfl|rfl|rfl|rfl
 all_goals grind [dig,szA]
 all_goals omega
theorem mr(h:1<=p/\p<=3){l}(j:(l.length:Int)=p)(g:∀ x,x∈l->0<=x/\x<4):∃ i,i<szA p/\l=dig p i:=by
 match l,j,g with
 | [],j,_=>simp at j;omega
 | [a],j,g =>
  obtain rfl:p=1:=by grind
  have:=g a zSp;exact⟨a.toNat,by rw[szA1];omega,by simp[dig];omega⟩
 | [a,b],j,g =>
  obtain rfl:p=2:=by grind
  have:=g a zSp;have:=g b zSp;exact⟨(a*4+b).toNat,by rw[szA2];omega,by simp[dig];omega⟩
 | [a,b,c],j,g =>
  obtain rfl:p=3:=by grind
  have:=g a zSp;have:=g b zSp;have:=g c zSp;exact⟨(a*16+b*4+c).toNat,by rw[szA3];omega,by simp[dig];omega⟩
 |a :: b :: c :: d :: l,j,_=>simp at j;omega
theorem Xr{l'}(h:l.length=l'.length)(g:l.length<=3)(e:pad l=pad l'):l=l':=by
 have i:=Qa g l.length (qs _);have j:=Qa (l:=l') zOm l'.length (qs _)
 grind
theorem Zw{k}(h:okKd ns k)(g:ns<=4){t:Tp}(j:t∈k.ts):∃ i,i<szA k.ar/\t=pad (dig k.ar i):=by
 obtain⟨l,rfl,o,p⟩:=h.ts t j;obtain⟨i,r,e⟩:=mr h.ar o fun x C=>by grind
 grind
def qk(k:Kd):RS:=(k.ar,fun j=>decide (j<szA k.ar/\pad (dig k.ar j)∈k.ts))
theorem yb(k j):(qk k).2 j=true↔j<szA k.ar/\pad (dig k.ar j)∈k.ts:=decide_eq_true_iff
theorem uS{a b}(g:a.1=b.1)(i:∀ j,j<64->a.2 j=b.2 j):eRS a=eRS b:=by
 simp only[eRS,cRS,g,vK i]
theorem Yy(h:a.ar=b.ar):eRS (uniS (qk a) (qk b))=eRS (qk (kSum a b)):=by
 refine uS rfl fun j g=>?_
 rw[jZ,yb];show ((qk a).2 j||(qk b).2 j)=true↔j<szA a.ar/\pad (dig a.ar j)∈uni (uni [] a.ts) b.ts;rw[vr,yb,yb,<-h,vE,vE]
 grind
theorem qj0(h:a.ar=b.ar):eRS (intS (qk a) (qk b))=eRS (qk (Zb a b)):=by
 refine uS rfl fun j g=>?_
 rw[jZ,yb];show ((qk a).2 j&&(qk b).2 j)=true↔j<szA a.ar/\pad (dig a.ar j)∈a.ts.filter fun t=>decide (t∈b.ts)
 rw[qu,yb,yb,<-h,List.mem_filter,decide_eq_true_eq]
 grind
theorem J3{n a b t}:t∈uF n m a b↔∃ x y,x∈a/\y∈b/\conc x n y m 0=t:=by
 unfold uF;rw[vE];simp only[qG,false_or,qp,Prod.exists,Za]
 grind
theorem Yh{l' n}(h:l.length=n)(g:l'.length=m)(i:n<=3)(j:m<=3):conc (pad l) n (pad l') m 0=pad (l++l'):=by
 unfold conc;rw[Nat.sub_zero,List.drop_zero,Qa zOm n zOm,Qa zOm m zOm,<-h,<-g,za,za]
theorem qj1(J:okKd ns a)(P:okKd ns b)(l:ns<=4)(R:a.ar+b.ar<=3):eRS (Xk (qk a) (qk b))=eRS (qk (v5 a b)):=by
 have a0:=J.ar;have a1:=P.ar;have la:=fun i=>Qh (k:=a.ar) zOm i
 have lb:=fun i=>Qh (k:=b.ar) zOm i
 have g:=fun i=>Qh (k:=a.ar+b.ar) zOm i
 refine uS rfl fun j hj=>?_
 rw[jZ,yb];show (decide (j<szA a.ar*szA b.ar)&&((qk a).2 (j / szA b.ar)&&(qk b).2 (j % szA b.ar)))=true↔j<szA (a.ar+b.ar)/\pad (dig (a.ar+b.ar) j)∈uF a.ar.toNat b.ar.toNat a.ts b.ts;rw[qu,qu,yb,yb,J3,decide_eq_true_eq];constructor
 .rintro ⟨_,⟨r,h2⟩,h4,h5⟩
  have t:=Xp (p:=a.ar) (q:=b.ar) zOm zOm R r h4
  grind [szA,Nat.div_add_mod',Yh]
 .rintro ⟨r,x,y,T,U,e⟩
  obtain⟨i,C,rfl⟩:=Zw J l T;obtain⟨k,o,rfl⟩:=Zw P l U;rw[Yh (zW1 (la i)) (zW1 (lb k)) zOm zOm]at e;have t:=Xp (p:=a.ar) (q:=b.ar) zOm zOm R C o;rw[<-t.2]at e;have e2:=Xr (zW2 (g (i*szA b.ar+k)) (g j)) (zW1 (g (i*szA b.ar+k))) e;have I:=Xq zOm t.1 r e2;have a2:=Yv b.ar;have d1:j / szA b.ar=i:=by rw[<-I,Nat.add_comm,Nat.add_mul_div_right _ _ zOm,Nat.div_eq_of_lt o,yI]
  have d2:j % szA b.ar=k:=by rw[<-I,Nat.add_comm,Nat.add_mul_mod_self_right,Nat.mod_eq_of_lt o]
  rw[d1,d2];refine⟨?_,⟨C,T⟩,o,U⟩;rw[<-I]
  calc i*szA b.ar+k<i*szA b.ar+szA b.ar:=by omega
   _=(i+1)*szA b.ar:=by rw[Nat.add_mul,Nat.one_mul]
   _<=szA a.ar*szA b.ar:=Nat.mul_le_mul_right _ C
theorem Zd{n a b t}:t∈vZ n m a b↔∃ x y,x∈a/\y∈b/\x.getD (n-1) 0=y.getD 0 0/\conc x n y m 1=t:=by
 unfold vZ;rw[vE];simp only[qG,false_or,List.mem_filterMap,Prod.exists,Za];constructor
 .rintro ⟨x,y,⟨i,j⟩,g⟩
  split at g
  .rename_i h;cases g;exact⟨x,y,i,j,h,rfl⟩
  .cases g
 .rintro ⟨x,y,i,j,g,l⟩;exact⟨x,y,⟨i,j⟩,by rw[if_pos g,l]⟩
theorem qj2{u v e f n}(h:u.length+1=n)(g:v.length+1=m)(i:n<=3)(j:m<=3):conc (pad (u++[e])) n (pad ([f]++v)) m 1=pad (u++v):=by
 unfold conc;rw[Qa zSo (n-1) zSo,Qa zSo m zSo,List.take_append_of_le_length zOm,zn zOm,zn zSo];rfl
theorem mv{k}(h:k<3):(pad l).getD k 0=l.getD k 0:=by
 match k,h with
 | 0,_=>rfl
 | 1,_=>rfl
 | 2,_=>rfl
theorem qj3(g:0<=p/\p<=2){i}(j:i<szA (p+1)):i / 4<szA p/\dig (p+1) i=dig p (i / 4)++[((i % 4:Nat):Int)]:=by
 have:=mq (p:=p) (q:=1) g.1 zOm zOm j;rw[szA1]at this;exact⟨this.1,this.2.2⟩
theorem qj4(g:0<=q/\q<=2){k}(i:k<szA (1+q)):k % szA q<szA q/\dig (1+q) k=[((k / szA q:Nat):Int)]++dig q (k % szA q):=by
 have:=mq (p:=1) (q:=q) zOm g.1 zOm i;exact⟨this.2.1,this.2.2⟩
theorem qj5(g:0<=q/\q<=2):szA (q+1) / 4=szA q/\szA (q+1)=4*szA q:=by
 rcases (show q=0\/q=1\/q=2 by omega) with rfl|rfl|rfl<;>exact⟨rfl,rfl⟩
theorem mw(ha:okKd ns a)(hb:okKd ns b)(r:ns<=4)(h3:1<=a.ar+b.ar-2/\a.ar+b.ar-2<=3):eRS (Qg (qk a) (qk b))=eRS (qk (zD a b)):=by
 have a0:=ha.ar;have a3:=hb.ar;obtain⟨p,hp⟩:∃ p,p=a.ar-1:=⟨_,rfl⟩;obtain⟨q,hq⟩:∃ q,q=b.ar-1:=⟨_,rfl⟩;have ea:a.ar=p+1:=zOm;have eb:b.ar=1+q:=zOm;have t:b.ar=q+1:=zOm;have C:a.ar+b.ar-2=p+q:=zOm;have I:=qj5 (q:=q) zOm;have hn:szA b.ar / 4=szA q:=by rw[t];exact I.1
 have lp:=fun i=>Qh (k:=p) zOm i
 have lq:=fun i=>Qh (k:=q) zOm i
 have o:=fun i=>Qh (k:=p+q) zOm i
 have A:∀ i,i<szA a.ar->i / 4<szA p/\dig a.ar i=dig p (i / 4)++[((i % 4:Nat):Int)]:=fun i g=>by rw[ea]at g⊢;exact qj3 zOm g
 have B:∀ k,k<szA b.ar->k % szA q<szA q/\dig b.ar k=[((k / szA q:Nat):Int)]++dig q (k % szA q):=fun k l=>by rw[eb]at l⊢;exact qj4 zOm l
 have J:∀ i k,i<szA a.ar->k<szA b.ar->i / 4*szA q+k % szA q<szA (p+q)/\(pad (dig a.ar i)).getD (a.ar.toNat-1) 0=((i % 4:Nat):Int)/\(pad (dig b.ar k)).getD 0 0=((k / szA q:Nat):Int)/\conc (pad (dig a.ar i)) a.ar.toNat (pad (dig b.ar k)) b.ar.toNat 1=pad (dig (p+q) (i / 4*szA q+k % szA q)):=fun i k g l=>by
  obtain⟨a1,a2⟩:=A i g;obtain⟨b1,b2⟩:=B k l;have hm:=Xp (p:=p) (q:=q) zOm zOm zOm a1 b1;have l1:=lp (i / 4);have l2:=lq (k % szA q);refine⟨hm.1,?_,?_,?_⟩
  .rw [mv zOm,a2,show a.ar.toNat-1=(dig p (i / 4)).length by omega];simp
  .rw [mv zOm,b2];rfl
  .rw [a2,b2,hm.2];exact qj2 zOm zOm zOm zOm
 refine uS rfl fun j hj=>?_
 rw[jZ,yb];show ((qq (szA a.ar)).any fun i=>(qq (szA b.ar)).any fun k=>decide (i / 4*(szA b.ar / 4)+k % (szA b.ar / 4)=j)&&(decide (i % 4=k / (szA b.ar / 4))&&((qk a).2 i&&(qk b).2 k)))=true↔j<szA (a.ar+b.ar-2)/\pad (dig (a.ar+b.ar-2) j)∈vZ a.ar.toNat b.ar.toNat a.ts b.ts;rw[Zd,List.any_eq_true,hn,C];constructor
 .rintro ⟨i,g,h⟩
  obtain⟨k,l,h⟩:=List.any_eq_true.1 h;rw[zG]at g l;rw[qu,qu,qu,decide_eq_true_eq,decide_eq_true_eq,yb,yb]at h;obtain⟨rfl,P,⟨_,h4⟩,_,h5⟩:=h;obtain⟨R,T,U,j4⟩:=J i k g l;exact⟨R,_,_,h4,h5,by rw[T,U,P],j4⟩
 .rintro ⟨h1,x,y,hx,hy,P,e⟩
  obtain⟨i,g,rfl⟩:=Zw ha r hx;obtain⟨k,l,rfl⟩:=Zw hb r hy;obtain⟨R,T,U,j4⟩:=J i k g l;rw[j4]at e;have e2:=Xr (zW2 (o (i / 4*szA q+k % szA q)) (o j)) (zW1 (o (i / 4*szA q+k % szA q))) e;have e3:=Xq zOm R h1 e2;rw[T,U]at P;refine⟨i,zG.2 g,List.any_eq_true.2 ⟨k,zG.2 l,?_⟩⟩;rw[qu,qu,qu,decide_eq_true_eq,decide_eq_true_eq,yb,yb];exact⟨e3,zOm,⟨g,hx⟩,l,hy⟩
theorem qj6(o:okKd ns a)(g:ns<=4)(p:a.ar=2):eRS (trS (qk a))=eRS (qk (kTr a)):=by
 refine uS rfl fun j I=>?_
 rw[jZ,yb];show (decide (j<16)&&(qk a).2 (j % 4*4+j / 4))=true↔j<16/\pad (dig 2 j)∈uni [] (a.ts.map fun t=>[t.getD 1 0,t.getD 0 0,0]);rw[qu,yb,vE,decide_eq_true_eq,p,szA2];simp only[qG,false_or,qp];constructor
 .rintro ⟨l,J,r⟩
  refine⟨l,_,r,?_⟩
  grind [dig,pad]
 .rintro ⟨l,t,C,e⟩
  obtain⟨i,P,rfl⟩:=Zw o g C
  grind [szA2,dig,pad]
theorem Xs(h:1<=l.length/\l.length<=3)(g:∀ x,x∈l->0<=x/\x<4):eRS (oneS l)=eRS (qk (kOf l)):=by
 refine uS rfl fun j P=>?_
 obtain⟨i,o,e⟩:=mr (p:=(l.length:Int)) zOm rfl g;have r:atF 0 l=i:=by
  match l,h,g,o,e with
  | [x],_,g,o,e =>
   have:=g x zSp;simp[dig]at e;simp[atF,IntKind.wrap,IntKind.signed,IntKind.bits];omega
  | [x,y],_,g,o,e =>
   have:=g x zSp;have:=g y zSp;simp[dig]at e;simp[atF,IntKind.wrap,IntKind.signed,IntKind.bits];omega
  | [x,y,z],_,g,o,e =>
   have:=g x zSp;have:=g y zSp;have:=g z zSp;simp[dig]at e;simp[atF,IntKind.wrap,IntKind.signed,IntKind.bits];omega
 rw[jZ,yb];show decide ((j:Int)=atF 0 l)=true↔j<szA (l.length:Int)/\pad (dig (l.length:Int) j)∈[pad l];rw[decide_eq_true_eq,r,qL];have C:=fun j=>Qh (k:=(l.length:Int)) zOm j
 constructor
 .intro I
  obtain rfl:j=i:=zOm
  grind
 .rintro ⟨I,J⟩
  have t:=Xr (zW1 (C j)) (zW1 (C j)) J;rw[e]at t;have:=Xq (p:=(l.length:Int)) zOm I o (by rw[<-e]at t⊢;exact t);omega
end
end QF
namespace QG
open Y2 P1 P2 PB QE QF
section
variable {k:Kd}{ns:Nat}
def Yz(k:Kd):Kd:=kSum k (zD k k)
def itK:Nat->Kd->Kd
 | 0,k=>k
 |i+1,k=>Yz (itK i k)
theorem qj7(h:okKd ns k)(g:k.ar=2):okKd ns (Yz k)/\(Yz k).ar=2:=
 ⟨Yg h (Yi h h zOm zOm) (by grind [zD]),g⟩
theorem okIt(h:okKd ns k)(g:k.ar=2):∀ i,okKd ns (itK i k)/\(itK i k).ar=2
 | 0=>⟨h,g⟩
 |i+1=>qj7 (okIt h g i).1 (okIt h g i).2
abbrev Ed(k:Kd)(u v:Int):Prop:=[u,v,0]∈k.ts
theorem VI(h:okKd ns k)(o:k.ar=2){t:Tp}(j:t∈k.ts):∃ u v,t=[u,v,0]/\(0<=u/\u<ns)/\(0<=v/\v<ns):=by
 obtain⟨l,rfl,g,i⟩:=h.ts t j
 match l,g,i with
 | [u,v],_,i=>exact⟨u,v,rfl,i u zSp,i v zSp⟩
 | [],g,_=>simp at g;omega
 | [_],g,_=>simp at g;omega
 |_ :: _ :: _ :: _,g,_=>simp at g;omega
theorem my(h:okKd ns k)(j:k.ar=2){u v}:[u,v,0]∈(zD k k).ts↔∃ w,Ed k u w/\Ed k w v:=by
 show [u,v,0]∈vZ k.ar.toNat k.ar.toNat k.ts k.ts↔_;rw[QF.Zd,j];constructor
 .rintro ⟨x,y,l,o,g,i⟩
  obtain⟨a,b,rfl,_,_⟩:=VI h j l;obtain⟨c,d,rfl,_,_⟩:=VI h j o;have g:b=c:=g;have i:[a,d,0]=[u,v,0]:=i
  grind
 .rintro ⟨w,g,i⟩
  exact⟨[u,w,0],[w,v,0],g,i,rfl,rfl⟩
theorem Xt(h:okKd ns k)(g:k.ar=2){u v}:Ed (Yz k) u v↔Ed k u v\/∃ w,Ed k u w/\Ed k w v:=by
 unfold Ed Yz;rw[wA,my h g]
def Path(k:Kd)(n:Nat)(u v:Int):Prop:=∃ f:Nat->Int,f 0=u/\f n=v/\∀ i,i<n->Ed k (f i) (f (i+1))
theorem Path.one{u v}(h:Ed k u v):Path k 1 u v:=⟨fun i=>if i=0 then u else v,rfl,rfl,fun i g=>by
 grind⟩
theorem Path.comp{n m u w v}(h:Path k n u w)(o:Path k m w v):Path k (n+m) u v:=by
 obtain⟨f,f0,fn,hf⟩:=h;obtain⟨g,p,r,t⟩:=o;refine⟨fun i=>if i<n then f i else g (i-n),?_,?_,fun i C=>?_⟩
 .grind
 .grind
 .by_cases j:i+1<n
  .simp only[if_pos j,if_pos (show i<n by omega)];grind
  .by_cases l:i<n
   .have e:i+1=n:=by omega
    simp only[if_neg j,if_pos l]
    grind
   .simp only[if_neg j,if_neg l,show i+1-n=(i-n)+1 by omega]
    grind
theorem aZ(h:okKd ns k)(J:k.ar=2)(g:ns<=4):∀ N n u v,n<=N->1<=n->Path k n u v->∃ m,1<=m/\m<=4/\Path k m u v
 | 0,n,u,v,P,R,_=>zOm
 | N+1,n,u,v,P,R,T=>by
  by_cases h4:n<=4
  .grind
  obtain⟨f,f0,fn,hf⟩:=T;have U:∀ i,i<5->0<=f i/\f i<4:=fun i t=>by
   grind [VI]
  obtain⟨i,j,a0,hj,e⟩:∃ i j,i<j/\j<5/\f i=f j:=by
   apply Classical.byContradiction;intro l;have o:((qq 5).map f).Nodup:=List.pairwise_map.2 (List.pairwise_lt_range.imp_of_mem fun {a b} ha hb p e=>l ⟨a,b,p,zG.1 hb,e⟩);have:=jI o (l₂:=[0,1,2,3]) fun x C=>by
    obtain⟨i,t,rfl⟩:=qp.1 C;have:=U i (zG.1 t);simp;omega
   simp at this
  refine aZ h J g N (n-(j-i)) u v zOm zOm ⟨fun x=>if x<i then f x else f (x+(j-i)),?_,?_,fun x C=>?_⟩
  .grind
  .simp only[if_neg (show ¬n-(j-i)<i by omega),show n-(j-i)+(j-i)=n by omega,fn]
  .by_cases r:x+1<i
   .simp only[if_pos r,if_pos (show x<i by omega)];grind
   .by_cases I:x<i
    .have e1:x+1=i:=by omega
     simp only[if_neg r,if_pos I]
     grind
    .simp only[if_neg r,if_neg I,show x+1+(j-i)=(x+(j-i))+1 by omega]
     exact hf _ zOm
theorem YI(h:okKd ns k)(g:k.ar=2):∀ i u v,Ed (itK i k) u v->∃ n,1<=n/\Path k n u v
 | 0,u,v,j=>⟨1,zOm,.one j⟩
 |i+1,u,v,j=>by
  rcases (Xt (okIt h g i).1 (okIt h g i).2).1 j with j|⟨w,l,o⟩
  .exact YI h g i u v j
  .obtain ⟨n,r,p⟩:=YI h g i u w l
   obtain⟨m,t,q⟩:=YI h g i w v o;exact⟨n+m,zOm,p.comp q⟩
theorem Zx(i):Sub (itK i k) (itK (i+1) k):=Xl _ _
theorem qj8(h:okKd ns k)(g:k.ar=2){m u v}(p:1<=m)(r:m<=4)(o:Path k m u v):Ed (itK 4 k) u v:=by
 obtain⟨f,rfl,rfl,hf⟩:=o;have up:∀{u v},Ed (itK 2 k) u v->Ed (itK 4 k) u v:=fun i=>(Zx 3).2 _ ((Zx 2).2 _ i)
 have s1:∀{u w v},Ed (itK 0 k) u w->Ed (itK 0 k) w v->Ed (itK 1 k) u v:=fun a b=>(Xt (okIt h g 0).1 (okIt h g 0).2).2 (.inr ⟨_,a,b⟩)
 have j:∀{u w v},Ed (itK 1 k) u w->Ed (itK 1 k) w v->Ed (itK 2 k) u v:=fun a b=>(Xt (okIt h g 1).1 (okIt h g 1).2).2 (.inr ⟨_,a,b⟩)
 have l:∀{u v},Ed (itK 0 k) u v->Ed (itK 1 k) u v:=fun i=>(Zx 0).2 _ i
 refine up ?_;rcases (show m=1\/m=2\/m=3\/m=4 by omega) with rfl|rfl|rfl|rfl
 .exact (Zx 1).2 _ (l (hf 0 zOm))
 .exact (Zx 1).2 _ (s1 (hf 0 zOm) (hf 1 zOm))
 .exact j (s1 (hf 0 zOm) (hf 1 zOm)) (l (hf 2 zOm))
 .exact j (s1 (hf 0 zOm) (hf 1 zOm)) (s1 (hf 2 zOm) (hf 3 zOm))
theorem qj9(h:okKd ns k)(g:k.ar=2)(i:ns<=4):VH (itK 4 k):=fun t l=>by
 have ok:=okIt h g 4;have j:=Yi ok.1 ok.1 (by rw[ok.2];omega) (by rw[ok.2];omega);obtain⟨u,v,rfl,_,_⟩:=VI j (by grind [zD]) l;obtain⟨w,o,r⟩:=(my ok.1 ok.2).1 l;obtain⟨n,C,p⟩:=YI h g 4 u w o;obtain⟨m,I,q⟩:=YI h g 4 w v r;obtain⟨c,c1,c4,J⟩:=aZ h g i (n+m) (n+m) u v (qs _) zOm (p.comp q)
 grind [qj8]
theorem YJ{S}(g:VH S){k}(h:Sub k S):∀ i,Sub (itK i k) S
 | 0=>h
 |i+1=>⟨(YJ g h i).1,fun t j=>by
  rcases wA.1 j with j|j
  .exact (YJ g h i).2 t j
  .exact g t ((VG (YJ g h i) (YJ g h i)).2 t j)⟩
theorem mz:∀ i,Sub k (itK i k)
 | 0 => .refl k
 |i+1=>(mz i).trans (Zx i)
theorem qkA(h:okKd ns k)(l:k.ar=2)(g:ns<=4):eRS (qk (itK 4 k))=eRS (qk (kClo k)):=by
 have o:Sub (kClo k) (itK 4 k):=Xn (qj9 h l g) 70 0 k (mz 4);have i:Sub (itK 4 k) (kClo k):=YJ (Xo g 70 0 k h l zOm (.inl rfl)) (Xm 70 0 k) 4;refine uS i.1 fun j p=>?_
 rw[jZ,yb,yb,i.1];exact⟨fun x=>⟨x.1,i.2 _ x.2⟩,fun x=>⟨x.1,o.2 _ x.2⟩⟩
end
end QG
namespace QH
open YF Y9 Y2 Y3 P1 P2 PB QD QE QF QG
theorem qkB{ns a}(h:okKd ns a)(I:a.ar=2)(g:ns<=4):qh qc 167 [eRS (qk a)] (eRS (qk (kClo a))):=by
 refine qSQ call167 func167 rfl { mt:=[1] } ?_;rw[<-qkA h I g];simp[go_sem];refine⟨qP _,?_⟩;refine aC 4 (fun i st=>st.tm 1 = .ptr 0 0/\st.tm 2 = .ptr 1 0/\st.tm 3=aI i/\st.mu=[.arr (cRS (qk (itK i a))),.arr (aI 0 :: hB fun _=>false)]) ?_ ?_
 .exact ⟨zSi,zSi,zSi,by simp[go_sem];exact⟨⟨rfl,rfl⟩,rfl⟩⟩
 rintro i st U ⟨l,o,p,J⟩;by_cases r:i<4
 .have j:(i:Int)<4:=by omega
  have P:=zWk i;obtain⟨ok,o2⟩:=okIt h I i;have R:qh qc 164 [eRS (qk (itK i a)),eRS (qk (itK i a))] (eRS (qk (zD (itK i a) (itK i a)))):=by
   rw[<-mw ok ok g zOm];exact VF _ _ (by show 0<=(itK i a).ar/\(itK i a).ar<=1000;omega) (by show 1<=(itK i a).ar/\(itK i a).ar<=1000;omega)
  have T:qh qc 162 [eRS (qk (itK i a)),eRS (qk (zD (itK i a) (itK i a)))] (eRS (qk (itK (i+1) a))):=by
   have:=uR (qk (itK i a)) (qk (zD (itK i a) (itK i a)));rw[Yy (by simp only[zD];omega)]at this;exact this
  generalize t:qk (itK (i+1) a)=s' at *
  generalize qk (zD (itK i a) (itK i a))=q at *
  generalize qk (itK i a)=s at *
  simp[go_sem,p,J,j];refine cN zKr ?_;simp[go_sem,l,qm,tk];refine fY R (.zk (zY _) (.zk (zY _) .nil)) ?_;refine cY T (.zk (zY _) (.zk (zY _) .nil)) ?_;simp[go_sem,l,qm,pc];rw[if_pos (qP _)];simp[go_sem,p,P];exact⟨r,aP ⟨zS1 l,zS1 o,zSi,zS1 t⟩⟩
 .have C:i=4:=by omega
  subst C;generalize qk (itK 4 a)=s at *
  simp[go_sem,l,o,p,J,qm,tk,pc];rw[if_pos (qP _)];simp[go_sem,o,qm,tk];exact .hf _ (zY s)
theorem qkC(i k)(g:k=1\/k=2):eRS (qk (kSum (zr i k) (kOf (zo k (i:Int)))))=eRS (qk (zr (i+1) k)):=by
 refine uS rfl fun j l=>?_
 rw[jZ,yb,yb];show j<szA (k:Int)/\pad (dig (k:Int) j)∈(kSum (zr i k) (kOf (zo k (i:Int)))).ts↔j<szA (k:Int)/\pad (dig (k:Int) j)∈(qq (i+1)).map fun (x:Nat)=>pad (zo k (x:Int))
 rw[wA,List.range_succ,zF,qI];rfl
theorem qkD(k):hB (qk (zr 0 k)).2=hB fun _=>false:=vK fun j _=>decide_eq_false fun h=>absurd h.2 qG
theorem allU(ts)(h:okTS ts)(k:Nat)(R:k=1\/k=2):qh qc 161 [eTS ts,aI k] (eRS (qk (zr ts.sS.length k))):=by
 refine qSV call161 func161 rfl ?_;have a0:=h.ns;have hz:=qkD k;simp[go_sem];refine aC ts.sS.length (fun i st=>st.tm 1=aI k/\st.tm 2 = .ip (cTS ts)/\st.tm 4 = .ptr 0 0/\st.tm 5 = .ptr 1 0/\st.tm 6=aI i/\st.mu=[.arr (aI 0 :: hB fun _=>false),.arr (cRS (qk (zr i k)))]) ?_ ?_
 .exact ⟨zSi,zSi,zSi,zSi,zSi,by
   have e:cRS (qk (zr 0 k))=aI k :: hB fun _=>false:=by simp only[cRS,hz];rfl
   rw[e];simp[go_sem];first|rfl|exact⟨rfl,rfl⟩⟩
 rintro i st hi ⟨C,r,I,j,o,J⟩;by_cases g:i<ts.sS.length
 .have T:=zWk i
  have c1:∀ l:List Int,l=zo k (i:Int)->qh qc 144 [lI l] (eRS (qk (kOf l))):=fun l p=>by
   have U:l.length=k:=by rw[p,List.length_replicate]
   have:=oneU l zOm;rw[Xj]at this;rw[<-QF.Xs (l:=l) zOm (fun x hx=>by rw[p]at hx;rw[List.eq_of_mem_replicate hx];omega)];exact this
  have cu:∀ l:List Int,l=zo k (i:Int)->qh qc 162 [eRS (qk (zr i k)),eRS (qk (kOf l))] (eRS (qk (zr (i+1) k))):=fun l p=>by
   have:=uR (qk (zr i k)) (qk (kOf l));rw[Yy (by show (k:Int)=l.length;rw[p,List.length_replicate]),p,qkC i k R]at this;rw[p];exact this
  generalize t:qk (zr (i+1) k)=s' at *
  generalize qk (zr i k)=s at *
  rcases R with rfl|rfl
  .have d1:=c1 [(i:Int)] rfl
   have d2:=cu [(i:Int)] rfl;generalize qk (kOf [(i:Int)])=q at *
   simp[go_sem,C,r,o,J,g];refine cN zKr ?_;simp[go_sem,j,o,qm,tk];refine fY d1 (.cons (QD.wk1 _) .nil) ?_;refine cY d2 (.zk (zY _) (.zk (zY _) .nil)) ?_;simp[go_sem,j,qm,pc];rw[if_pos (qP _)];simp[go_sem,o,T];exact⟨g,aP ⟨zS1 C,zS1 r,zS1 I,zS1 j,zSi,zS1 t⟩⟩
  .have d1:=c1 [(i:Int),(i:Int)] rfl
   have d2:=cu [(i:Int),(i:Int)] rfl;generalize qk (kOf [(i:Int),(i:Int)])=q at *
   simp[go_sem,C,r,o,J,g];refine cN zKr ?_;simp[go_sem,j,o,qm,tk];refine fY d1 (.cons (QD.wk2 _ _) .nil) ?_;refine cY d2 (.zk (zY _) (.zk (zY _) .nil)) ?_;simp[go_sem,j,qm,pc];rw[if_pos (qP _)];simp[go_sem,o,T];exact⟨g,aP ⟨zS1 C,zS1 r,zS1 I,zS1 j,zSi,zS1 t⟩⟩
 .have P:i=ts.sS.length:=by omega
  subst P;generalize qk (zr ts.sS.length k)=s at *
  simp[go_sem,r,I,j,o,J,qm,tk,pc];rw[if_pos (qP _)];simp[go_sem,I,qm,tk];exact .hf _ (zY s)
end QH
namespace QI
open YF Y9 Y10 Y1 Y2 P1 P2
section
variable {nm:cL}
theorem qkE{c k}(l:k<c.calls)(o)(h:c.ts.sT[k].name=nm)(i:∀(j) (g),j<k->c.ts.sT[j].name≠nm):q9 c nm=some k:=by
 unfold q9;rw[List.findIdx?_eq_some_iff_getElem];refine⟨zSo,zP1 h,fun j g=>?_⟩;simp[i j zOm g]
theorem qkF{c}(i:∀ j g,j<c.calls->c.ts.sT[j].name≠nm):q9 c nm=none:=by
 unfold q9;rw[List.findIdx?_eq_none_iff];intro p l;obtain⟨j,g,e⟩:=List.mem_iff_getElem.1 l;simp at g;rw[List.getElem_take]at e;rw[<-e];exact decide_eq_false (i j zOm zOm)
abbrev idxO:Option Nat->Int
 |some i=>i
 |none => -1
theorem YK(c)(P:okCk c)(nm):qh qc 107 [eTS c.ts,aI c.calls,aS nm] (aI (idxO (q9 c nm))):=by
 refine qSV call107 func107 rfl ?_;have R:=P.calls;have T:=P.ts.np;simp[go_sem];refine aC c.calls (fun k st=>st.tm 1=aI c.calls/\st.tm 2=aS nm/\st.tm 3 = .ip (cTS c.ts)/\st.tm 7=aI k/\∀(j:Nat)(p:j<c.ts.sT.length),j<k->c.ts.sT[j].name≠nm) ?_ ?_
 .exact ⟨zSi,zSi,zSi,zSi,fun j p h=>zOm⟩
 rintro k st hk ⟨l,r,t,C,I⟩;by_cases g:k<c.calls
 .have U:=zWk k
  have i:k<c.ts.sT.length:=zOm;by_cases o:c.ts.sT[k].name=nm
  .rw [qkE g i o I]
   simp[go_sem,l,r,t,C,g,i,o];exact .zsc _
  .simp [go_sem,l,r,t,C,g,i,jN o,U]
   refine aP ⟨zS1 l,zS1 r,zS1 t,zSi,fun j p a0=>?_⟩;by_cases he:j=k
   .subst he;exact o
   .exact I j p zOm
 .have J:k=c.calls:=by omega
  subst J;rw[qkF I];simp[go_sem,l,C];exact .zsc _
theorem Zy(op):qh qc 137 [aI op] (aB (zW op)):=by
 refine qSV call137 func137 rfl ?_;by_cases g:op=5
 .rw [show zW op=true by simp[zW,g]]
  simp[go_sem,g];exact .zsc _
 by_cases i:48<=op
 .by_cases j:op<=51
  .rw [show zW op=true by unfold zW;rcases (show op=48\/op=49\/op=50\/op=51 by omega) with h|h|h|h<;>simp[h]]
   simp[go_sem,g,i,j];exact .zsc _
  .rw [show zW op=false by simp[zW,g,show ¬op=48 by omega,show ¬op=49 by omega,show ¬op=50 by omega,show ¬op=51 by omega]]
   simp[go_sem,g,i,j];exact .zsc _
 .rw [show zW op=false by simp[zW,g,show ¬op=48 by omega,show ¬op=49 by omega,show ¬op=50 by omega,show ¬op=51 by omega]]
  simp[go_sem,g,i];exact .zsc _
abbrev rBo(b:Bool):List AV:=[aB b]
abbrev lBo(l:List Bool):AV := .lst false (l.map rBo)
theorem YL(l):HF (lBo l):=HF.lst fun r i c g=>by
 obtain⟨b,_,rfl⟩:=qp.1 i;rw[qL]at g;subst g;exact HF.sc _
def tpB(c:Ck)(nm:cL):Bool:=match q9 c nm with|some p=>c.timed.getD p false|none=>false
theorem Zz(c)(o:okCk c)(nm):qh qc 138 [eTS c.ts,lBo c.timed,aI c.calls,aS nm] (aB (tpB c nm)):=by
 generalize i:tpB c nm=r;unfold tpB at i;refine qSU call138 func138 rfl ?_;refine cY (YK c o nm) (.zk (zt _) (.zs (.zs .nil))) ?_;cases j:q9 c nm with
 |none =>
  rw[j]at i;subst i;simp[go_sem,idxO];exact .zsc _
 |some p =>
  rw[j]at i;by_cases l:p<c.timed.length
  .have g:r=c.timed[p]:=by rw[<-i];simp[List.getD,l]
   subst g;simp[go_sem,idxO,l];exact .zsc _
  .have g:r=false:=by rw[<-i];simp[List.getD,l]
   subst g;simp[go_sem,idxO,l];exact .zsc _
theorem mA(c)(hc:okCk c)(hl:c.timed.length=c.calls):∀ m n,szN n<=m->yf n->qh qc 143 [eTS c.ts,lBo c.timed,eNd n] (aB (ym c n))
 | 0,n,hm,_=>by obtain⟨op,nm,i,ks,p⟩:=n;simp[szN]at hm
 |m+1,n,hm,hs=>by
  have ih:∀ k,k∈n.sD->qh qc 143 [eTS c.ts,lBo c.timed,eNd k] (aB (ym c k)):=fun k J =>
   mA c hc hl m k (zW1 (yw J)) (hs.kid J)
  have a0:=hs.len;have P:zN c n.op n.name=(zW n.op||(decide (n.op=47)&&tpB c n.name)):=rfl;rw[Wg,P];generalize hR:n.sD.any (ym c)=R;have ct:=Zy n.op;have cp:=Zz c hc n.name;generalize zW n.op=T at *
  generalize tpB c n.name=B at *
  refine qSU call143 func143 rfl ?_;refine cY ct (.zs .nil) ?_;cases T with
  |true =>
   simp[go_sem];exact .zsc _
  |false =>
  rw[Bool.false_or];by_cases h47:n.op=47
  .rw [decide_eq_true h47,Bool.true_and]
   simp[go_sem,h47,hl];refine cY cp (.zk (zt _) (.zk (YL _) (.zs (.zs .nil)))) ?_;cases B with
   |true =>
    simp[go_sem];exact .zsc _
   |false =>
   rw[Bool.false_or];simp[go_sem];refine aC n.sD.length (fun k st=>st.tm 1=lBo c.timed/\st.tm 3 = .ip (cTS c.ts)/\st.tm 5 = .ip (cNd n)/\st.tm 7=aI k/\(n.sD.drop k).any (ym c)=R) ?_ ?_
   .exact ⟨zSi,zSi,zSi,zSi,zUs hR⟩
   rintro k st J ⟨t,C,l,o,j⟩;by_cases r:k=n.sD.length
   .subst r
    rw[yr]at j;have j:R=false:=by rw[<-j];rfl
    subst j;simp[go_sem,l,o];exact .zsc _
   have g:k<n.sD.length:=zOm;have U:=zWk k;rw[zB g,List.any_cons]at j;have hi:=ih n.sD[k] (qv g);simp[go_sem,l,o,g];refine cN zKr ?_;simp[go_sem,t,C,l,o,g];refine cY hi (.zk (zt _) (.zk (YL _) (.zk (zd _) .nil))) ?_;cases I:ym c n.sD[k] with
   |true =>
    rw[I,Bool.true_or]at j;subst j;simp[go_sem];exact .zsc _
   |false =>
    rw[I,Bool.false_or]at j;simp[go_sem,o,g,U];exact aP ⟨zS1 t,zS1 C,zS1 l,zSi,j⟩
  .rw [decide_eq_false h47,Bool.false_and,Bool.false_or]
   simp[go_sem,h47];refine aC n.sD.length (fun k st=>st.tm 1=lBo c.timed/\st.tm 3 = .ip (cTS c.ts)/\st.tm 5 = .ip (cNd n)/\st.tm 7=aI k/\(n.sD.drop k).any (ym c)=R) ?_ ?_
   .exact ⟨zSi,zSi,zSi,zSi,zUs hR⟩
   rintro k st J ⟨t,C,l,o,j⟩;by_cases r:k=n.sD.length
   .subst r
    rw[yr]at j;have j:R=false:=by rw[<-j];rfl
    subst j;simp[go_sem,l,o];exact .zsc _
   have g:k<n.sD.length:=zOm;have U:=zWk k;rw[zB g,List.any_cons]at j;have hi:=ih n.sD[k] (qv g);simp[go_sem,l,o,g];refine cN zKr ?_;simp[go_sem,t,C,l,o,g];refine cY hi (.zk (zt _) (.zk (YL _) (.zk (zd _) .nil))) ?_;cases I:ym c n.sD[k] with
   |true =>
    rw[I,Bool.true_or]at j;subst j;simp[go_sem];exact .zsc _
   |false =>
    rw[I,Bool.false_or]at j;simp[go_sem,o,g,U];exact aP ⟨zS1 t,zS1 C,zS1 l,zSi,j⟩
theorem Xu(l:List Bool):zb 1 (l.map rBo):=fun r g=>by
 obtain⟨b,_,rfl⟩:=qp.1 g;exact⟨rfl,rfl⟩
theorem appBo{mu lo s xs b K}(g:OwnF lo mu 1 s (xs.map rBo))(t:xs.length<=100000)(j:∀ av l,OwnF lo l 1 av ((xs++[b]).map rBo)->(∀ i,i<lo->l[i]?=mu[i]?)->K av l) :
  qD qc mu #[97,97] s (.lst true [[aB b]]) K:=by
 refine qD.ownF (lo:=lo) (e:=4) (sz:=1) (bt:=1) (zv:=aB false) (xs:=xs.map rBo) (ys:=[rBo b]) zSi zSi zSi rfl rfl zOm zOm g (by simp[qF]) (Xu xs) (Xu [b]) zSo ?_;intro av l h o;exact j av l (by rw[zF];exact h) o
theorem rdBo{lo mu av l}(i:OwnF lo mu 1 av (l.map rBo)):Rd mu av (lBo l):=
 Own.rd (sz:=1) i.1 (Xu l).ok fun r j c g=>by
  obtain⟨b,_,rfl⟩:=qp.1 j;rw[qL]at g;subst g;exact HF.sc _
theorem qkG(ts)(h:okTS ts)(T:∀ p,p∈ts.sT->WfN p.body):qh qc 110 [eTS ts] (lBo (tmsL ts ts.sT.length)):=by
 refine qSV call110 func110 rfl ?_;have U:=h.np;simp[go_sem];refine aC ts.sT.length (fun k st=>st.tm 1 = .ip (cTS ts)/\st.tm 4=aI k/\OwnF 0 st.mu 1 (st.tm 3) ((tmsL ts k).map rBo)) ?_ ?_
 .exact ⟨zSi,zSi,by simp[go_sem,tmsL];exact OwnF.nil (Nat.zero_le _)⟩
 rintro k st hk ⟨j,l,o⟩;by_cases g:k<ts.sT.length
 .have w1:=zWk k
  generalize r:st.tm 3=P at *
  have t:=rdBo o;have ht:=mA (mkCk ts k) (uK h zOm) (Zk ts k zOm) (szN ts.sT[k].body) ts.sT[k].body (qs _) (T _ (qv g)).small;have R:=Zk ts k zOm;have i:tmsL ts (k+1)=tmsL ts k++[ym (mkCk ts k) ts.sT[k].body]:=by
   show tmsL ts k++(match ts.sT[k]? with|some p=>[ym ⟨ts,k,tmsL ts k⟩ p.body] | none=>[])=_;rw[qx g];rfl
  simp[go_sem,j,l,g];refine cN zKr ?_;simp[go_sem,j,l,r,g];refine fH (args':=[eTS ts,lBo (tmsL ts k),eNd ts.sT[k].body]) ht ⟨.hf _ (zt ts),t,.hf _ (zd _),trivial⟩ (FL.sc _) ?_;simp[go_sem];refine appBo o zOm fun a0 m' I _=>?_
  simp[go_sem,l,g,w1];exact aP ⟨zS1 j,zSi,by rw[i];simpa[go_sem] using I⟩
 .have J:k=ts.sT.length:=by omega
  subst J;generalize r:st.tm 3=P at *
  simp[go_sem,j,l,r];exact rdBo o
end
end QI
end Go.Proofs.YthkdjhkmlmjkbaaGreatDoor
