/-
  Own library, part 2: an abstract reading of values and a calculus over it; contracts of functions; plain lemmas.
-/
import Derived.TacticsIn
import Derived.Deep.LoopGhost
import Derived.Scope
import Derived.Sort.LoopGhostIn
import Derived.Test.YtlnbdknjkmmgbaaGreatDoorMa
set_option linter.unusedVariables false
set_option linter.unusedSimpArgs false
set_option maxRecDepth 100000
open Go renaming Program->qb,World->qf,TypeId->qd,Operand->zK,undef->uk,Value->qq,Oper->wg,FuncId->zZ
open List renaming getElem?_eq_some_iff->qh,mem_map->qn,range->qs,mem_cons->qy,getElem?_set_self->qz,getElem?_eq_getElem->qB,getElem?_append_left->qG,not_mem_nil->qK,mem_cons_of_mem->qN,mem_append->qO,mem_singleton->qS,mem_cons_self->qZ,all_eq_true->q8,getD_eq_getElem?_getD->zT,mem_range->ye,append_nil->yg,cons_append->yL,mem_filter->y5,mem_append_left->y6,nil_append->jk,nodup_cons->jX,ext_getElem?->jZ,mem_iff_getElem->vY,getElem?_cons_succ->uj,eq_nil_of_length_eq_zero->uP,getElem?_toArray->wJ,nodup_append->Z2
open Nat renaming le_refl->qj,le_of_ble_eq_true->vX,lt_of_lt_of_le->Zo
open Option.some renaming injEq->qo
open Bool renaming and_eq_true->qD,or_eq_true->Zp
open Go.Sem renaming run_bind->qP,run_pure->zF
open Go.Result renaming andThen_ok->qR
open Array renaming getD_eq_getD_getElem?->qV,getElem?_eq_some_iff->yA
open Option renaming map_some->zd
open List.Nodup renaming length_le_of_subset->jm
open List.cons renaming injEq->uc
open Classical renaming byContradiction->un
open Go.World renaming putObj_heap_other->uS
namespace Go.Ev
open Go Go.RowKit
section
variable {next:Act->qf->Prop}{h:Array Obj}{Q:Exit->Act->qf->Prop}{G:Gh}{P:qb}{w:qf}
@[go_sem] def VT:AV->Option AV
 | .ip g=>some (.ip g)
 | .ptr b o=>some (.ptr b o)
 | .ifc t x=>some (.ifc t x)
 | .fn (.func f) a b=>some (.fn (.func f) a b)
 |_=>none
@[go_sem] def W3(i:Nat):AV->Option AV
 | .tup g=>g[i]?
 |_=>none
def Zy(P:qb)(t:qd):Bool:=match P.underlying t with|some (.interface _)=>false|some _=>true|none=>false
@[go_sem] def VU(P:qb)(t:qd)(ok:Bool)(x:AV):Option AV:=
 if Zy P t=true then
  match x with
  | .ifc u v=>if u=t then some (if ok then .tup [v,.sc (.bool true)] else v) else if ok then (qC P t).map fun z => .tup [z,.sc (.bool false)] else none
  | .sc .nilIface=>if ok then (qC P t).map fun z => .tup [z,.sc (.bool false)] else none
  |_=>none
 else none
@[go_sem] def gE(P:qb)(t:qd)(x:AV):Prop:=
 match x with
 | .lst _ p=>∃ e sz g,qH P t=some (e,sz,g)/\ja sz p
 |_=>True
def yn(P:qb)(t:qd):Bool:=match qC P t with|some z=>z.cells.all AV.one|none=>false
def evs(ev:zK->AV)(l:List zK):List AV:=l.map ev
def uu(P:qb)(mu:Mu)(b:Builtin)(g:Array qd)(args:List AV)(K:AV->Mu->Prop):Prop:=∃ z m,ExtB P mu b g args z m/\K z m
def qF(P:qb)(pl:Pol)(det:Bool)(g:Option Tmp)(op:Op)(ev:zK->AV)(mu:Mu)(K C:AV->Mu->Prop):Prop:=
 match op with
 | .move x | .assign x=>K (ev x) mu
 | .pick c a b=>∃ t,ev c = .sc (.bool t)/\K (if t then ev a else ev b) mu
 | .alloc e=>OptK (qC P e) fun z=>z.cells.all AV.one=true/\K (.ptr mu.length 0) (mu++[.arr z.cells])
 | .box e x=>(ev x).cells.all AV.one=true/\(if (g.any pl.mt.contains)=true then K (.ptr mu.length 0) (mu++[.arr (ev x).cells]) else K (.ip (ev x).cells) mu)
 | .build t o=>yn P t=true/\OptK (VK P t (o.toList.map fun p=>(p.1,ev p.2))) fun z=>K z mu
 | .buildSlice t n o=>OptK (VL P t n (o.toList.map fun p=>(p.1,ev p.2))) fun z=>K z mu
 | .load t a=>OptK (wK P mu t (ev a)) fun z=>K z mu
 | .store t a x=>OptK (VC P mu t (ev a) (ev x)) fun m=>K (.sc uk) m
 | .nilCheck x=>OptK (VT (ev x)) fun z=>K z mu
 | .binOp op t x y _=>if uV y=true then jP P det op t (ev x) (fun z=>K z mu) else OptK (wO P op t (ev x) (ev y)) fun z=>K z mu
 | .unOp op _ x=>OptK (aUn op (ev x)) fun z=>K z mu
 | .convert src g x=>(P.underlying src).isSome=true/\OptK (VD P src g (ev x)) fun z=>K z mu
 | .makeInterface t x=>Zy P t=true/\K (.ifc t (ev x)) mu
 | .makeFunc f first j=>K (.fn f (evs ev first.toList) (evs ev j.toList)) mu
 | .makeSlice t l c=>OptK (Js P mu t (ev l) (ev c)) fun z=>K z.1 z.2
 | .slice t x I J R=>gE P t (ev x)/\OptK (VJ P t (ev x) (I.map ev) (J.map ev) (R.map ev)) fun z=>K z mu
 | .fieldAddr s x f=>OptK (VE P s f (ev x)) fun z=>K z mu
 | .field t x f=>OptK (VH P t f (ev x)) fun z=>K z mu
 | .indexAddr t x i=>OptK (VF P t (ev x) (ev i)) fun z=>K z mu
 | .index t x i=>OptK (VI P t (ev x) (ev i)) fun z=>K z mu
 | .extract t i=>OptK (W3 i (ev t)) fun z=>K z mu
 | .typeAssert x _ t ok=>OptK (VU P t ok (ev x)) fun z=>K z mu
 | .makeMap _ r=>r=none/\K (.mp mu.length) (mu++[.mp []])
 | .lookup t m k ok=>OptK (yj P mu t (ev m) (ev k) ok) fun z=>K z mu
 | .mapUpdate t m k v=>OptK (ju P mu t (ev m) (ev k) (ev v)) fun m=>K (.sc uk) m
 | .insert t m k v=>OptK (ju P mu t (ev m) (ev k) (ev v)) fun m=>K (.sc uk) m
 | .mapEntry t m k=>OptK (Ya P mu t (ev m) (ev k)) fun z=>K z.1 z.2
 | .entryStore _ m s v=>OptK (WY mu (ev m) (ev s) (ev v)) fun m=>K (.sc uk) m
 | .range t m=>OptK (VR P mu t (ev m)) fun z=>K z.1 z.2
 | .next i str=>det=false/\str=false/\WZ mu (ev i) K
 | .entry i=>OptK (Zx mu (ev i)) fun z=>K z mu
 | .panic x=>det=false/\∃ t v,ev x = .ifc t v/\C (.ifc t v) mu
 | .call c=>match c.callee with
  | .value f=>qe P det mu (ev f) (evs ev c.args.toList) K C
  | .builtin b=>match b with
   | .append=>∃ s x,evs ev c.args.toList=[s,x]/\qw P mu c.argTypes s x K
   | .copy=>uu P mu .copy c.argTypes (evs ev c.args.toList) K
   | .delete=>uu P mu .delete c.argTypes (evs ev c.args.toList) K
   | .clear=>uu P mu .clear c.argTypes (evs ev c.args.toList) K
   |b=>OptK (ur P mu b c.argTypes (evs ev c.args.toList)) fun z=>K z mu
  | .invoke _ _=>False
 |_=>False
theorem qhK{o:wg}{a s u w'}(g:s.run P w = .ok u w')(i:next (a.put o.dst u) w') :
  o.upon P a next Q ((do pure (Next.value (<-s)):Sem Next).run P w):=by
 grind [qP,qR,zF,Oper.upon]
theorem VV{o:wg}{a s w'}(g:s.run P w = .ok () w')(i:next (a.put o.dst uk) w') :
  o.upon P a next Q ((do s;pure Next.skip:Sem Next).run P w):=by
 grind [qP,qR,zF,Oper.upon]
theorem wP{ev g}(j:∀ x,VRel G h (ev x) (g x))(l:Array zK):zV G h (evs ev l.toList) (l.map g):=by
 refine⟨by simp[evs],fun k x i=>?_⟩;simp only[evs,List.getElem?_map,Option.map_eq_some_iff,Array.getElem?_toList]at i;obtain⟨y,o,rfl⟩:=i;simp_all
theorem gF{ev:zK->AV}{i:zK->qq}(g:∀ x,VRel G h (ev x) (i x))(l:Array (Nat×zK)) :
  Jo G h (l.toList.map fun p=>(p.1,ev p.2)) ((l.map fun (x:Nat×zK)=>(x.1,i x.2)).toList):=by
 rw[Array.toList_map];induction l.toList with
 |nil=>trivial
 |cons p o j=>exact⟨rfl,g _,j⟩
theorem s5{xs ys zs a b c}(g:zV G h xs a)(i:zV G h ys b)(j:zV G h zs c):zV G h (xs++ys++zs) (a++b++c):=by
 obtain⟨l,g1⟩:=g;obtain⟨o,t⟩:=i;obtain⟨p,C⟩:=j;refine⟨by simp[l,o,p],fun k x I=>?_⟩;simp only[qV]at *
 by_cases J:k<xs.length
 .grind
 grind
theorem gG{mu}(s:Sim G mu w.heap){f args v fv vs}(rf:VRel G w.heap f fv)(ra:zV G w.heap args vs)
  (h:Jx P mu f args v):∃ g first caps,fv = .func (.func g) first caps/\yN P g/\Calls P g (first++vs++caps) w fun e w'=>∃ G' u,e = .returned u/\Stp G mu w G' mu w'/\VRel G' w'.heap v u:=by
 have step:∀(a0 l:Nat->Prop)(w':qf),(∀ b,G.imm b->a0 b)->(∀ b,l b->b<w'.heap.size/\(a0 b\/w.heap.size<=b))->Z6 w.heap.size w w'->(∀ b,a0 b->G.imm b\/Live G mu b) ->
   Stp G mu w ⟨fun b=>G.imm b\/(l b/\w.heap.size<=b),G.blk⟩ mu w':=by
  intro a0 l w' h1 h2 t h3;have a2:G.le ⟨fun b=>G.imm b\/(l b/\w.heap.size<=b),G.blk⟩:=⟨fun b h => .inl h,fun _ _ h=>h⟩;have he:Ext G w.heap w'.heap:=⟨t.size,fun b p=>t.block b (s.imm b p)⟩;have key:∀ b,Live G mu b->w'.heap[b]?=w.heap[b]?:=fun b hl=>t.block b (s.livesize hl)
  refine⟨a2,⟨s.len,?_,?_,?_,s.inj,s.tab.mono a2.imm (fun b p=>t.block b (s.imm b p))⟩,fun b a3 _=>t.block b a3,t.size,fun b h => .inl h,fun b h=>h.elim .inl (fun e => .inr (.inr e.2)),t.tape,t.os,t.output,t.drawn⟩
  .intro b p
   rcases p with p|p
   .exact Zo (s.imm b p) t.size
   grind
  .intro i c a1 J hc hd hk
   obtain⟨o',g1,g2⟩:=s.obj i c a1 J hc hd hk;exact⟨o',by rw[key a1 ⟨i,_,J,hc,hd,hk⟩];exact g1,g2.mono a2 he⟩
  .intro i c a1 J hc hd hk p
   rcases p with p|p
   .exact s.live i c a1 J hc hd hk p
   .have:=s.livesize ⟨i,c,J,hc,hd,hk⟩;omega
 rcases h with h|⟨g,fi,ca,j,rfl,⟨R,hs⟩,h⟩
 case inr =>
  cases rf with
  |fn _ _ _ C I hn hm hv hw =>
  refine⟨g,C,I,rfl,R,?_⟩;have o:=s5 (G:=G) (h:=w.heap) ⟨hn,hv⟩ ra ⟨hm,hw⟩;obtain⟨hl,hg⟩:=h.get;have T:zV ⟨fun b=>G.imm b\/Live G mu b,[]⟩ w.heap j (C++vs++I):=by
   refine⟨by rw[o.1,hl],fun k y hy=>?_⟩;have hk:k<j.length:=(qh.1 hy).1;have hx:(fi++args++ca)[k]?=some ((fi++args++ca)[k]' zOm):=by rw[qB]
   exact(hg k _ y hx hy).sound s (o.2 k _ hx)
  refine(hs _ w _ (s.all) T).mono fun e w' ⟨nw,u,he,h2,t,hr⟩=>?_
  have U:=step (fun b=>G.imm b\/Live G mu b) nw w' (fun b h => .inl h) (fun b h=>⟨(h2 b h).2,.inr (h2 b h).1⟩) t (fun b h=>h);refine⟨_,u,he,U,hr.le (G':=⟨fun b=>G.imm b\/(nw b/\w.heap.size<=b),G.blk⟩) ⟨fun b p => .inr ⟨p,(h2 b p).1⟩,fun i x h=>by simp at h⟩⟩
 obtain⟨g,fi,ca,j,rfl,⟨R,hs⟩,h⟩:=h;cases rf with
 |fn _ _ _ C I hn hm hv hw =>
 refine⟨g,C,I,rfl,R,?_⟩;have o:=s5 (G:=G) (h:=w.heap) ⟨hn,hv⟩ ra ⟨hm,hw⟩;rcases h with h|⟨h,a4⟩
 .obtain ⟨hl,hg⟩:=h.get
  have T:zV ⟨G.imm,[]⟩ w.heap j (C++vs++I):=by
   refine⟨by rw[o.1,hl],fun k y hy=>?_⟩;have hk:k<j.length:=(qh.1 hy).1;have hx:(fi++args++ca)[k]?=some ((fi++args++ca)[k]' zOm):=by rw[qB]
   exact hg k _ y hx hy G w.heap _ (o.2 k _ hx)
  refine(hs G.imm w _ s.bare T).mono fun e w' ⟨l,u,he,h1,h2,t,hr⟩=>?_
  have U:=step G.imm l w' (fun b h=>h) h2 t (fun b h => .inl h);refine⟨_,u,he,U,?_⟩;refine hr.le ⟨fun b p=>?_,fun i x h=>by simp at h⟩;rcases (h2 b p).2 with h|h
  .exact .inl h
  grind
 .obtain ⟨hl,hg⟩:=h.get
  have T:zV ⟨fun b=>G.imm b\/Live G mu b,[]⟩ w.heap j (C++vs++I):=by
   refine⟨by rw[o.1,hl],fun k y hy=>?_⟩;have hk:k<j.length:=(qh.1 hy).1;have hx:(fi++args++ca)[k]?=some ((fi++args++ca)[k]' zOm):=by rw[qB]
   exact(hg k _ y hx hy).sound s (o.2 k _ hx)
  refine(hs _ w _ (s.all) T).mono fun e w' ⟨l,u,he,h1,h2,t,hr⟩=>?_
  have U:=step _ l w' (fun b h => .inl h) h2 t (fun b h=>h);exact⟨_,u,he,U,a4 _ _ _ _ _ hr⟩
end
end Go.Ev
namespace Go.Ev
open Go Go.RowKit
section
variable {K Kp:AV->Mu->Prop}{a:Act}{G:Gh}{o:wg}{P:qb}{w:qf}
theorem qhL{h x z v}(r:VRel G h x v)(e:VT x=some z) :
  z=x/\((∃ a,v = .pointer (some a))\/(∃ t u,v = .iface t u)\/(∃ f a b,v = .func (.func f) a b)):=by
 unfold VT at e;split at e<;>simp only[qo,reduceCtorEq]at e<;>subst e
 .cases r;simp
 .cases r;simp
 .cases r;simp
 .cases r;simp
theorem gH{t}(h:Zy P t=true):∃ d,P.underlying t=some d/\∀ g,d ≠ .interface g:=by
 grind [Zy,absurd]
theorem qhM{U t ok x z v}(r:VRel G w.heap x v)(h:VU P t ok x=some z) :
  ∃ u,(Instr.typeAssert v U t ok).run P w = .ok u w/\VRel G w.heap z u:=by
 unfold VU at h;have tup:∀(y:AV)(u:qq)(b:Bool),VRel G w.heap y u->VRel G w.heap (.tup [y,.sc (.bool b)]) (.tuple #[u,.bool b]):=by
  intro y u b ry;refine .tup _ _ rfl (fun k c C=>?_);cases k with
  |zero=>simp_all
  |succ k=>cases k with
   |zero=>simp at C;subst C;exact .sc _ rfl
   |succ k=>simp at C
 split at h
 .rename_i hc
  obtain⟨d,o,p⟩:=gH hc;have zero:∀ z,qC P t=some z->∃ g,(zeroValue t).run P w = .ok g w/\VRel G w.heap z g:=by
   intro z i;obtain⟨g,l,rfl⟩:=Zu i w;exact⟨g,l,.ofV g⟩
  split at h
  .rename_i ut uv
   cases r with
   |ifc _ _ v T =>
   split at h
   .rename_i I
    subst I;simp only[qo]at h;subst h;cases ok
    .refine ⟨v,?_,T⟩
     simp only[Instr.typeAssert,qP,run_underlying o,qR];cases d<;>first | (exact absurd rfl (p _))|simp
    .refine ⟨.tuple #[v,.bool true],?_,tup _ _ _ T⟩
     simp only[Instr.typeAssert,qP,run_underlying o,qR];cases d<;>first | (exact absurd rfl (p _))|simp
   .rename_i I
    split at h
    .rename_i j
     subst j;cases i:qC P t with
     |none=>simp[i]at h
     |some J =>
      simp only[i,zd,qo]at h;subst h;obtain⟨g,l,R⟩:=zero J i;refine⟨.tuple #[g,.bool false],?_,tup _ _ _ R⟩;simp only[Instr.typeAssert,qP,run_underlying o,qR];cases d<;>first | (exact absurd rfl (p _))|simp[I,l]
    grind
  .cases r
   split at h
   .rename_i j
    subst j;cases i:qC P t with
    |none=>simp[i]at h
    |some J =>
     simp only[i,zd,qo]at h;subst h;obtain⟨g,l,R⟩:=zero J i;refine⟨.tuple #[g,.bool false],?_,tup _ _ _ R⟩;simp only[Instr.typeAssert,qP,run_underlying o,qR];cases d<;>first | (exact absurd rfl (p _))|simp[l]
   grind
  grind
 grind
def gJ(P:qb)(op:Op)(ev:zK->AV)(mu:Mu)(K:AV->Mu->Prop):Prop:=
 ∃ f args j i R,op = .call { callee := .value f,args,argTypes:=j }/\ev f = .yl i/\VS P i (evs ev args.toList) mu R/\∀ b m,R b m->K (.sc (.bool b)) m
theorem qhN{pl det mu ev}(s:Sim G mu w.heap)(j:∀ x,VRel G w.heap (ev x) (a.eval x))
  (h:qF P pl det o.dst o.op ev mu K Kp) (hy:¬gJ P o.op ev mu K) {next} {Q}
  (hK:∀ v mu' G' w' u,K v mu'->Stp G mu w G' mu' w'->VRel G' w'.heap v u->next (a.put o.dst u) w')
  (a5:∀ v mu' G' w' u,Kp v mu'->Stp G mu w G' mu' w'->VRel G' w'.heap v u->Q (.panic [{ v:=u,recovered:=false }]) a w'):o.wp P a w next Q:=by
 obtain⟨dst,op,ty,pos,after,guard⟩:=o;simp only at h hK a5 hy;have T:∀{c:Sem qq}{x:AV}{mu':Mu},Good P G mu w c x mu'->K x mu'->∀{o':wg},o'.dst=dst->o'.upon P a next Q ((do pure (Next.value (<-c)):Sem Next).run P w):=by
  intro c x mu' ⟨u,w',G',h1,h2,h3⟩ C o' ho
  grind [qhK]
 have quiet:∀{c:Sem qq}{x:AV}{u:qq},c.run P w = .ok u w->VRel G w.heap x u->K x mu->∀{o':wg},o'.dst=dst->o'.upon P a next Q ((do pure (Next.value (<-c)):Sem Next).run P w):=
  fun h1 h2 C _ ho=>T (sY s h1 h2) C ho
 unfold Oper.wp;cases op<;>simp only[qF]at h<;>try (exact h.elim)
 case move x=>exact hK _ _ _ _ _ h (Stp.refl s) (j x)
 case assign x=>exact hK _ _ _ _ _ h (Stp.refl s) (j x)
 case pick c x y =>
  obtain⟨t,hc,C⟩:=h;have rc:=j c;rw[hc]at rc;have ec:a.eval c = .bool t:=by generalize a.eval c=cv at rc;cases rc;rfl
  simp only[execOp,ec,asBool];refine hK _ _ _ _ _ C (Stp.refl s) ?_;cases t
  .exact j y
  grind
 case alloc e =>
  obtain⟨z,I,h1,C⟩:=h;obtain⟨zv,ab,rfl⟩:=Zu I w;obtain⟨G',g1,J,g3⟩:=pS (P:=P) s e (VRel.ofV zv) h1;refine T ⟨_,_,G',?_,J,g3⟩ C rfl;simp_all[Instr.alloc,qP,qR,zF]
 case box e x =>
  obtain⟨h1,C⟩:=h;split at C
  .obtain ⟨G',g1,J,g3⟩:=pS (P:=P) s e (j x) h1
   refine T ⟨_,_,G',?_,J,g3⟩ C rfl
   grind [Instr.box,qP,qR,zF]
  .obtain ⟨G',g1,J,g3⟩:=qgF (P:=P) s e (j x) h1
   refine T ⟨_,_,G',?_,J,g3⟩ C rfl
   grind [Instr.box,qP,qR,zF]
 case build t ps =>
  obtain⟨h1,z,I,C⟩:=h;obtain⟨u,g1,J⟩:=qgE (P:=P) (w:=w) (gF j ps) (fun y hy=>by grind [yn]) I;exact quiet g1 J C rfl
 case buildSlice t n ps =>
  obtain⟨z,I,C⟩:=h;exact T (qgH s (gF j ps) I) C rfl
 case load t x =>
  obtain⟨z,I,C⟩:=h;obtain⟨ad,u,g0,g1,J⟩:=pI (P:=P) s (j x) I;refine quiet ?_ J C rfl
  grind [Instr.loadAt,Instr.sureAddr,qP,zF,qR]
 case store t x y =>
  obtain⟨m,hm,C⟩:=h;obtain⟨ad,w',g0,g1,J⟩:=qfV (P:=P) s (j x) (j y) hm;refine VV (w':=w') ?_ ?_
  .grind [Instr.storeAt,Instr.sureAddr,qP,zF,qR]
  .exact hK _ _ _ _ _ C J (.sc _ rfl)
 case nilCheck x =>
  obtain⟨z,I,C⟩:=h;obtain⟨rfl,hv⟩:=qhL (j x) I;have:(execOp a.eval { dst,op := .nilCheck x,type:=ty,pos,after,guard }).run P w = .ok (.value (a.eval x)) w:=by
   rcases hv with ⟨ad,hv⟩|⟨t,u,hv⟩|⟨f,b,c,hv⟩<;>simp[execOp,hv]
  rw[this];exact hK _ _ _ _ _ C (Stp.refl s) (j x)
 case binOp op t x y yt =>
  split at h
  .rename_i hy
   obtain rfl:=qhH hy;obtain⟨z,r,C,g1,J⟩:=jP.sound (ox:=x) (oy := .const (.slice none 0 0)) (j x) h;exact quiet g1 J C rfl
  obtain⟨z,I,C⟩:=h;obtain⟨u,g1,J⟩:=qhF (P:=P) (ox:=x) (oy:=y) (j x) (j y) I;exact quiet g1 J C rfl
 case unOp op t x =>
  obtain⟨z,I,C⟩:=h;obtain⟨u,g1,J⟩:=qf4 (P:=P) (j x) I;exact quiet g1 J C rfl
 case convert src ae x =>
  obtain⟨h1,z,I,C⟩:=h;obtain⟨u,g1,J⟩:=qf5 (P:=P) (src:=src) (j x) (Option.isSome_iff_exists.1 h1) I;exact quiet g1 J C rfl
 case makeInterface t x =>
  obtain⟨h1,C⟩:=h;obtain⟨d,hu,hd⟩:=gH h1;refine quiet (u := .iface t (a.eval x)) ?_ (.ifc t _ _ (j x)) C rfl;simp only[Instr.makeInterface,qP,run_underlying hu,qR];cases d<;>first | (exact absurd rfl (hd _))|simp
 case makeFunc f first a1 =>
  refine quiet (u := .func f (first.map a.eval) (a1.map a.eval)) rfl ?_ h rfl;have r1:=wP j first;have r2:=wP j a1;exact .fn f _ _ _ _ r1.1 r2.1 r1.2 r2.2
 case makeSlice t l c =>
  obtain⟨z,I,C⟩:=h;exact T (qgI s (j l) (j c) I) C rfl
 case slice t x lo hi mx =>
  obtain⟨hr,z,I,C⟩:=h;obtain⟨u,g1,J⟩:=qgA (P:=P) (w:=w) (vlo:=lo.map a.eval) (vhi:=hi.map a.eval) (vmx:=mx.map a.eval) (j x)
   (fun y hy=>by cases lo with|none=>simp at hy|some q=>simp at hy;subst hy;grind) (fun h=>by simp_all)
   (fun y hy=>by cases hi with|none=>simp at hy|some q=>simp at hy;subst hy;grind) (fun h=>by simp_all)
   (fun y hy=>by cases mx with|none=>simp at hy|some q=>simp at hy;subst hy;grind) (fun h=>by simp_all)
   (fun full p e=>by rw[e]at hr;exact hr) I
  exact quiet g1 J C rfl
 case fieldAddr t x f =>
  obtain⟨z,I,C⟩:=h;obtain⟨u,g1,J⟩:=qf6 (P:=P) (j x) I;exact quiet g1 J C rfl
 case field t x f =>
  obtain⟨z,I,C⟩:=h;obtain⟨u,g1,J⟩:=qf8 (P:=P) (j x) I;exact quiet g1 J C rfl
 case indexAddr t x i =>
  obtain⟨z,I,C⟩:=h;obtain⟨u,g1,J⟩:=qf7 (P:=P) (j x) (j i) I;exact quiet g1 J C rfl
 case index t x i =>
  obtain⟨z,I,C⟩:=h;obtain⟨u,g1,J⟩:=qf9 (P:=P) (j x) (j i) I;exact quiet g1 J C rfl
 case extract t i =>
  obtain⟨z,I,C⟩:=h;have rt:=j t;unfold W3 at I;split at I
  .rename_i cs e
   rw[e]at rt;generalize hq:a.eval t=tv at rt;cases rt with
   |tup _ vs hn hv =>
   have ai:i<cs.length:=(qh.1 I).1;have a6:i<vs.size:=zOm;refine quiet (u:=vs.getD i uk) ?_ (hv i z I) C rfl;simp[hq,Instr.extract,a6,qV]
  grind
 case typeAssert x xt t ok =>
  obtain⟨z,I,C⟩:=h;obtain⟨u,g1,J⟩:=qhM (P:=P) (j x) I;exact quiet g1 J C rfl
 case makeMap t r =>
  obtain⟨rfl,C⟩:=h;exact T (qg7 (P:=P) (t:=t) s) C rfl
 case lookup t m k ok =>
  obtain⟨z,I,C⟩:=h;obtain⟨u,g1,J⟩:=qgW (P:=P) s (j m) (j k) I;exact quiet g1 J C rfl
 case mapUpdate t m k v =>
  obtain⟨m',hm,C⟩:=h;obtain⟨w',g1,J⟩:=gB (P:=P) s (j m) (j k) (j v) hm;exact VV (w':=w') g1 (hK _ _ _ _ _ C J (.sc _ rfl))
 case insert t m k v =>
  obtain⟨m',hm,C⟩:=h;obtain⟨w',g1,J⟩:=gB (P:=P) s (j m) (j k) (j v) hm;exact VV (w':=w') g1 (hK _ _ _ _ _ C J (.sc _ rfl))
 case mapEntry t m k =>
  obtain⟨z,I,C⟩:=h;exact T (qg5 s (j m) (j k) I) C rfl
 case entryStore t m U v =>
  obtain⟨m',hm,C⟩:=h;obtain⟨w',g1,J⟩:=qg6 (P:=P) (t:=t) s (j m) (j U) (j v) hm;exact VV (w':=w') g1 (hK _ _ _ _ _ C J (.sc _ rfl))
 case range t m =>
  obtain⟨z,I,C⟩:=h;exact T (qg8 s (j m) I) C rfl
 case next i str =>
  obtain⟨_,rfl,hn⟩:=h;obtain⟨z,mu',C,hg⟩:=qg9 (P:=P) (ty:=ty) s (j i) hn;exact T hg C rfl
 case entry i =>
  obtain⟨z,I,C⟩:=h;obtain⟨u,g1,J⟩:=qhA (P:=P) s (j i) I;exact quiet g1 J C rfl
 case panic x =>
  obtain⟨_,t,v,hx,C⟩:=h;have rx:=j x;rw[hx]at rx;generalize hq:a.eval x=xv at rx;cases rx with
  |ifc _ _ u hu =>
  simp only[execOp,hq,Instr.panic];exact a5 _ _ _ _ _ C (Stp.refl s) (.ifc t v u hu)
 case call c =>
  obtain⟨callee,args,argTypes⟩:=c;simp only at h;cases callee with
  |invoke r m=>exact h.elim
  |builtin b =>
   have fin:∀ z,ur P mu b argTypes (evs ev args.toList)=some z->K z mu->Oper.upon P { dst,op := .call { callee := .builtin b,args,argTypes },type:=ty,pos,after,guard } a next Q
     ((execOp a.eval { dst,op := .call { callee := .builtin b,args,argTypes },type:=ty,pos,after,guard }).run P w):=by
    intro z I C;obtain⟨u,g1,J⟩:=qhJ (P:=P) (ty:=ty) (cs:=args.map fun | .const _=>true|_=>false) s (wP j args) I;have:(execOp a.eval { dst,op := .call { callee := .builtin b,args,argTypes },type:=ty,pos,after,guard }).run P w = .ok (.value u) w:=by
     grind [execOp,resolve,qP,zF,qR,invoke]
    rw[this];exact hK _ _ _ _ _ C (Stp.refl s) J
   have a7:uu P mu b argTypes (evs ev args.toList) K->Oper.upon P { dst,op := .call { callee := .builtin b,args,argTypes },type:=ty,pos,after,guard } a next Q
     ((execOp a.eval { dst,op := .call { callee := .builtin b,args,argTypes },type:=ty,pos,after,guard }).run P w):=by
    intro⟨z,m,I,C⟩;have ra:=wP j args;obtain⟨u,w',g1,J,g3⟩:=qhC (P:=P) (ty:=ty) (cs:=args.map fun | .const _=>true|_=>false) s ra.1 ra.2 I;have:(execOp a.eval { dst,op := .call { callee := .builtin b,args,argTypes },type:=ty,pos,after,guard }).run P w = .ok (.value u) w':=by
     grind [execOp,resolve,qP,zF,qR,invoke]
    rw[this];exact hK _ _ _ _ _ C J g3
   cases b<;>simp only at h<;>try (first|exact a7 h | (obtain⟨z,I,C⟩:=h;exact fin z I C))
   obtain⟨sv,xv,hl,a8⟩:=h;have ra:=wP j args;rw[hl]at ra;obtain⟨u,v,e1,ru,rv⟩:=ra.two_inv;obtain⟨z,mu',C,v',w',G',g1,J,g3⟩:=qgL (ty:=ty) s ru rv a8;have:(execOp a.eval { dst,op := .call { callee := .builtin .append,args,argTypes },type:=ty,pos,after,guard }).run P w = .ok (.value v') w':=by
    simp_all[execOp,resolve,qP,zF,qR,invoke,builtin]
   rw[this];exact hK _ _ _ _ _ C J g3
  |value f =>
   rcases h with ⟨v,hp,C⟩|⟨_,⟨g,fi,ca,R,hf,hs,hr,aj⟩|⟨i,R,hf,hs,C⟩⟩
   .obtain ⟨g,a3,a4,e1,a0,hc⟩:=gG s (j f) (wP j args) hp
    have:(execOp a.eval { dst,op := .call { callee := .value f,args,argTypes },type:=ty,pos,after,guard }).run P w = .ok (.enter g (a3++args.map a.eval++a4)) w:=by
     simp only[execOp,resolve,qP,zF,qR,e1,Deferred.ofValue,invoke,a0 _ w]
    rw[this];refine hc.mono fun e w' ⟨G',u,he,a9,hu⟩=>?_
    grind
   .have rf:=j f
    rw[hf]at rf;generalize hq:a.eval f=fv at rf;cases rf with
    |fn _ _ _ a3 a4 hn hm hv hw =>
    obtain⟨a0,hs⟩:=hs;have:(execOp a.eval { dst,op := .call { callee := .value f,args,argTypes },type:=ty,pos,after,guard }).run P w = .ok (.enter g (a3++args.map a.eval++a4)) w:=by
     simp only[execOp,resolve,qP,zF,qR,hq,Deferred.ofValue,invoke,a0 _ w]
    rw[this];refine(hs G w _ s (s5 ⟨hn,hv⟩ (wP j args) ⟨hm,hw⟩)).mono fun e w' ⟨G',mu',a9,h⟩=>?_
    rcases h with ⟨r,v,hR,rfl,aa⟩|⟨r,v,hR,rfl,aa⟩
    .grind
    grind
   .exact (hy ⟨f,args,argTypes,i,R,rfl,hf,hs,C⟩).elim
structure Ro where
 rd:Option Nat
 dl:List Deferred
 mks:Bool
 kp:List (AV×qq)
def Ro.fn:Ro:=⟨none,[],true,[]⟩
def Ro.round(l:Nat):Ro:=⟨some l,[],true,[]⟩
def WF(ro:Ro):Fence:={ Fence.wide with round:=ro.rd }
theorem gK{ro next Q g}(h:o.upon P a next Q g):o.uponIn (WF ro) 0 P a next Q g:=by
 have j:((WF ro).depth.isSome=true->1<=0):=fun h=>by simp[WF,Fence.wide]at h
 cases g with
 |halt i w=>cases i<;>first|exact h|exact h.elim
 |ok n w =>
  cases n
  case value v=>exact h
  case skip=>exact h
  case defer d=>exact h
  case enter f args =>
   refine⟨j,?_⟩;have:=(callsIn_wide (n:=0)).2 h;exact this
  case row row args =>
   refine⟨j,fun c l _=>?_⟩;obtain⟨v,p,t,C⟩:=h c l;exact⟨v,p,t,stepsIn_wide.2 C⟩
  all_goals exact h.elim
theorem VW{pl det ro mu ev}(s:Sim G mu w.heap)(g:∀ x,VRel G w.heap (ev x) (a.eval x))
  (h:qF P pl det o.dst o.op ev mu K Kp) {next} {Q}
  (J:∀ v mu' G' w' u,K v mu'->Stp G mu w G' mu' w'->VRel G' w'.heap v u->next (a.put o.dst u) w')
  (t:∀ v mu' G' w' u,Kp v mu'->Stp G mu w G' mu' w'->VRel G' w'.heap v u->Q (.panic [{ v:=u,recovered:=false }]) a w'):o.wpIn (WF ro) 0 P a w next Q:=by
 have T:∀ c,o.op ≠ .defer c:=by
  grind [qF]
 refine⟨fun _ _=>trivial,?_⟩;rw[show (WF ro).round=ro.rd from rfl,Oper.semAt_eq _ _ _ T];by_cases hy:gJ P o.op ev mu K
 .obtain ⟨f,args,U,i,R,ho,hf,hs,hk⟩:=hy
  obtain⟨dst,op,ty,pos,after,guard⟩:=o;simp only at ho J t⊢;subst ho;have rf:=g f;rw[hf]at rf;generalize hq:a.eval f=fv at rf;cases rf with
  |yl _ l a0 hb =>
  obtain⟨fn,C,a1,I,h1,h2⟩:=hs G w (args.map a.eval) s (wP g args) l a0 hb;have:(execOp a.eval { dst,op := .call { callee := .value f,args,argTypes:=U },type:=ty,pos,after,guard }).run P w = .ok (.round l fn C a1 I) w:=by
   grind [execOp,resolve,qP,zF,qR,Deferred.ofValue,invoke]
  rw[this];refine⟨fun h=>by simp[WF,Fence.wide]at h,?_⟩;refine RoundIn.mono (F:=WF ro) (n:=0) h2 ?_;rintro e w' ⟨b,G',mu',rfl,a2,hR⟩;exact J _ _ _ _ _ (hk b mu' hR) a2 (.sc _ rfl)
 .exact gK (qhN s g h hy J t)
end
end Go.Ev
namespace Go.Ev
open Go Go.RowKit
section
variable {ops:Array wg}
def pe(o:wg):List Edge:=o.after.toList.filter (Region.binds .any)
theorem W4{e}(h:Region.binds .any e=true)(m):Region.binds m e=true:=by
 grind [Region.binds,absurd]
def Qq(ops:Array wg)(i:Nat):List Nat:=match ops[i]? with|some o=>(pe o).map (·.on)|none=>[]
def gL(ops:Array wg):Bool:=(qs ops.size).all fun i=>match ops[i]? with|some o=>o.after.toList.all fun e=>decide (e.on<i)||!Region.binds .text e|none=>true
def gM(ops:Array wg):Bool:=(qs ops.size).all fun i=>match ops[i]? with|some o=>o.after.toList.all fun e=>decide (e.on<i)|none=>true
def gO(ops:List wg):Nat->List Nat->List Nat
 | 0,g=>g.reverse
 |n+1,g=>match (qs ops.length).find? fun i=>!g.contains i&&(match ops[i]? with|some o=>o.after.toList.all fun e=>!Region.binds .gc e||g.contains e.on|none=>false) with
  |some i=>gO ops n (i :: g)
  |none=>g.reverse
def W5(ops:Array wg)(L:List Nat):Bool:=decide (L.length=ops.size)&&(qs L.length).all fun p=>match L[p]? with
 |some i=>!(L.take p).contains i&&(match ops[i]? with|some o=>o.after.toList.all fun e=>!Region.binds .gc e||(L.take p).contains e.on|none=>false)
 |none=>false
def jv(ops:Array wg):Bool:=gL ops&&(gM ops||W5 ops (gO ops.toList ops.size []))
theorem W6(h:jv ops=true):∀ i o,ops[i]?=some o->∀ e,e∈o.after.toList->Region.binds .text e=true->e.on<i:=by
 intro i o g e j l;unfold jv at h;rw[qD]at h
 grind [gL,q8,yA]
theorem gP{o e}(h:e∈pe o):e∈o.after.toList/\Region.binds .text e=true:=⟨(y5.1 h).1,W4 (y5.1 h).2 .text⟩
def Topo(ops:Array wg)(L:List Nat):Prop:=∀ pre j post,L=pre++j :: post->j<ops.size/\j ∉ pre/\∀ e,e∈Qq ops j->e∈pre
theorem Topo.nil(ops):Topo ops []:=fun pre j post h=>by simp at h
theorem Topo.snoc{L j}(h:Topo ops L)(i:j<ops.size)(l:j ∉ L)(o:∀ e,e∈Qq ops j->e∈L):Topo ops (L++[j]):=by
 intro pre k post e;rcases List.eq_nil_or_concat post with rfl|⟨g,x,rfl⟩
 .simp_all
 .rw [<-List.concat_eq_append,List.concat_eq_append,List.concat_eq_append,<-yL,<-List.append_assoc]at e
  have:=List.append_inj' e rfl;exact h pre k g this.1
theorem qhO(acc:List Nat){n}:∀ i,i<n->i ∉ acc->∃ j,j<n/\j ∉ acc/\∀ k,k<j->k∈acc:=by
 intro i;induction i using Nat.strongRecOn with
 |_ i g =>
  grind
theorem W7{m}(g:∀ i o,ops[i]?=some o->∀ e,e∈o.after.toList->Region.binds m e=true->e.on<i)(acc:List Nat)(l:∃ i,i<ops.size/\i ∉ acc) :
  ∃ j,j<ops.size/\j ∉ acc/\∀ o,ops[j]?=some o->∀ e,e∈o.after.toList->Region.binds m e=true->e.on∈acc:=by
 grind [qhO]
theorem qhP{L}(h:W5 ops L=true)(acc:List Nat)(I:∃ i,i<ops.size/\i ∉ acc) :
  ∃ j,j<ops.size/\j ∉ acc/\∀ o,ops[j]?=some o->∀ e,e∈o.after.toList->Region.binds .gc e=true->e.on∈acc:=by
 unfold W5 at h;rw[qD,decide_eq_true_eq,q8]at h;obtain⟨a2,J⟩:=h;have J:∀ p,p<L.length->∃ i,L[p]?=some i/\i ∉ L.take p/\∃ o,ops[i]?=some o/\∀ e,e∈o.after.toList->Region.binds .gc e=true->e.on∈L.take p:=by
  intro p l;have:=J p (zUs l)
  grind
 have P:L.Nodup:=by
  grind [List.Nodup,List.pairwise_iff_getElem,qB,qo,vY]
 have R:∀ x,x∈L->x<ops.size:=by
  intro x t;obtain⟨p,l,e⟩:=vY.1 t;obtain⟨y,T,_,o,ho,_⟩:=J p l;rw[qB l]at T;simp only[qo]at T;rw[<-e,T];exact(yA.1 ho).1
 have C:∀ i,i<ops.size->i∈L:=by
  intro i U;refine un fun hn=>?_
  have h1:(i :: L).length<=(qs ops.size).length:=jm (jX.2 ⟨hn,P⟩) (fun k hk=>by
   rcases qy.1 hk with rfl|hk
   .simpa using U
   .simpa using R k hk)
  simp at h1;omega
 obtain⟨i,U,a0⟩:=I;have key:∀ n p,L.length=p+n->(∀ x,x∈L.take p->x∈acc)->∃ q,q<L.length/\(∀ x,x∈L.take q->x∈acc)/\∀ x,L[q]?=some x->x ∉ acc:=by
  intro n;induction n with
  |zero =>
   intro p a1 t;rw[List.take_of_length_le zOm]at t;exact absurd (t i (C i U)) a0
  |succ n ih =>
   intro p a1 t;by_cases hc:L[p]' zOm∈acc
   .refine ih (p+1) zOm fun x g=>?_
    rw[List.take_add_one,qB zOm]at g;rcases qO.1 g with h|h
    .exact t x h
    .simp at h;rw[h];exact hc
   .refine ⟨p,zOm,t,fun x g=>?_⟩
    rw[qB zOm]at g;simp only[qo]at g;rw[<-g];exact hc
 obtain⟨q,hq,h1,h2⟩:=key L.length 0 zOm zSp
 grind
theorem qhQ(h:jv ops=true)(m)(acc:List Nat)(g:∃ i,i<ops.size/\i ∉ acc) :
  ∃ j,j<ops.size/\j ∉ acc/\∀ o,ops[j]?=some o->∀ e,e∈o.after.toList->Region.binds m e=true->e.on∈acc:=by
 have t:=W6 h;cases m with
 |text=>exact W7 t acc g
 |any=>exact W7 (fun i o C e I l=>t i o C e I (W4 l .text)) acc g
 |gc =>
  unfold jv at h;rw[qD,Zp]at h;rcases h.2 with p|p
  .refine W7 (fun i o C e I _=>?_) acc g
   unfold gM at p
   grind
  .exact qhP p acc g
theorem qhR(C:jv ops=true)(m):∀ fuel t listed acc,fuel+acc.length=ops.size->listed.size=ops.size ->
  (∀ i,i<ops.size->(listed.getD i true=true↔i∈acc))->Topo ops acc.reverse->acc.Nodup->(∀ i,i∈acc->i<ops.size) ->
  Topo ops (Region.linearise.go m ops fuel t listed acc)/\(Region.linearise.go m ops fuel t listed acc).length=ops.size:=by
 have U:=W6 C;have g:=qhQ C m;intro fuel;induction fuel with
 |zero =>
  grind [Region.linearise.go]
 |succ fuel ih =>
  intro t listed acc hf hs hl ht hn hb;simp only[Region.linearise.go];generalize a0:((qs ops.size).filter fun i=>!listed.getD i true&&((ops[i]?).map (·.after.all fun e=>!Region.binds m e||listed.getD e.on false)).getD false)=l;have I:∀ i,i∈l->i<ops.size/\i ∉ acc/\∀ e,e∈Qq ops i->e∈acc:=by
   intro i o;rw[<-a0,y5]at o;obtain⟨T,h2⟩:=o;have T:i<ops.size:=zUs T;simp only[qD,Bool.not_eq_true']at h2;refine⟨T,fun h=>?_,fun e p=>?_⟩
   .grind
   .unfold Qq at p
    have ho:ops[i]?=some ops[i]:=zP1 T;rw[ho]at p;simp only[qn]at p;obtain⟨x,a1,rfl⟩:=p;obtain⟨hx,a2⟩:=y5.1 a1;have h3:=h2.2;rw[ho]at h3;simp only[zd,Option.getD_some]at h3;have h4:=(Array.all_eq_true'.1 h3) x (zUs hx);rw[W4 a2 m]at h4
    grind
  have a3:l≠[]:=by
   have a4:∃ i,i<ops.size/\i ∉ acc:=by
    refine un fun a5=>?_
    have J:∀ i,i<ops.size->i∈acc:=fun i o=>un fun h=>a5 ⟨i,o,h⟩
    have:(qs ops.size).length<=acc.length:=jm (List.nodup_range) (fun i o=>J i (zUs o));simp at this;omega
   obtain⟨j,hj,a8,a7⟩:=g acc a4
   grind
  have P:0<l.length:=List.length_pos_iff.2 a3;have R:t % l.length<l.length:=Nat.mod_lt _ P;rw[qB R];simp only;obtain⟨g1,g2,g3⟩:=I _ (List.getElem_mem R);generalize l[t % l.length]=i at g1 g2 g3;refine ih _ _ _ zSo (zP1 hs) ?_ ?_ (jX.2 ⟨g2,hn⟩) (fun k hk=>?_)
  .intro k hk
   by_cases a6:k=i
   .subst a6
    have:k<listed.size:=zOm;simp[qV,this]
   .have:=hl k hk
    simp only[qV]at this⊢
    grind
  .rw [List.reverse_cons]
   exact ht.snoc g1 (zUs g2) (fun e p=>by simpa using g3 e p)
  grind
theorem gQ(j:jv ops=true)(g t):Topo ops (Region.schedule g ops t)/\(Region.schedule g ops t).length=ops.size:=by
 have key:∀(m:Region.Mode)(t:Nat),Topo ops (Region.linearise m ops t)/\(Region.linearise m ops t).length=ops.size:=by
  intro m t;unfold Region.linearise;exact qhR j m ops.size t _ [] zSp zSp (fun i l=>by simp[qV,l]) (Topo.nil ops) List.nodup_nil zSp
 unfold Region.schedule;split
 .exact key _ _
 .exact key _ _
def wQ(acc:List Nat)(o:wg):Nat:=(pe o).foldl (fun s e=>s ||| (2 ^ e.on ||| acc.getD e.on 0)) 0
def uw:List wg->List Nat->List Nat
 | [],g=>g
 |o :: l,g=>uw l (g++[wQ g o])
theorem gR:∀ l acc,∃ r,uw l acc=acc++r/\r.length=l.length
 | [],acc=>⟨[],by simp[uw],rfl⟩
 |o :: l,acc=>by
  obtain⟨r,g,i⟩:=gR l (acc++[wQ acc o])
  grind [wQ,uw]
theorem gS(f:Edge->Nat)(i):∀(l:List Edge)(s),(l.foldl (fun s e=>s ||| f e) s).testBit i=true->s.testBit i=true\/∃ e,e∈l/\(f e).testBit i=true
 | [],s,h => .inl h
 |e :: l,s,h=>by
  simp only[List.foldl_cons]at h;rcases gS f i l _ h with h|⟨g,j,o⟩
  .grind
  grind
def yW(ops:Array wg)(j:Nat):Nat:=(uw ops.toList []).getD j 0
theorem gT:∀ l acc k o,l[k]?=some o->(∀ e,e∈(pe o)->e.on<acc.length+k) ->
  (uw l acc).getD (acc.length+k) 0=(pe o).foldl (fun s e=>s ||| (2 ^ e.on ||| (uw l acc).getD e.on 0)) 0
 | [],acc,k,o,h,_=>by simp at h
 |x :: l,acc,k,o,h,i=>by
  simp only[uw];cases k with
  |zero =>
   simp at h;subst h;obtain⟨r,j,t⟩:=gR l (acc++[wQ acc x]);rw[j];have p:(acc++[wQ acc x]++r).getD (acc.length+0) 0=wQ acc x:=by simp[zT]
   rw[p];unfold wQ;have key:∀(C:List Edge)(s:Nat),(∀ e,e∈C->e.on<acc.length)->C.foldl (fun s e=>s ||| (2 ^ e.on ||| acc.getD e.on 0)) s=C.foldl (fun s e=>s ||| (2 ^ e.on ||| (acc++[(pe x).foldl (fun s e=>s ||| (2 ^ e.on ||| acc.getD e.on 0)) 0]++r).getD e.on 0)) s:=by
    intro C;induction C with
    |nil=>intro s _;rfl
    |cons e C I =>
     grind
   grind
  |succ k =>
   have:=gT l (acc++[wQ acc x]) k o (zUs h) (fun e g=>by have:=i e g;simp;omega);rw[show (acc++[wQ acc x]).length+k=acc.length+(k+1) by simp;omega]at this;exact this
theorem qhS(l:jv ops=true){j i}(t:j<ops.size)(h:(yW ops j).testBit i=true):∃ e,e∈Qq ops j/\(i=e\/(yW ops e).testBit i=true):=by
 have g:=W6 l;have o:ops[j]?=some ops[j]:=zP1 t;have C:Qq ops j=(pe ops[j]).map (·.on):=by unfold Qq;rw[o]
 have:=gT ops.toList [] j ops[j] zSp (fun e p=>by
  have:=g j _ o e (gP p).1 (gP p).2;simp;omega)
 simp only[List.length_nil,Nat.zero_add]at this;unfold yW at h⊢;rw[this]at h;rcases gS _ i _ _ h with h|⟨e,I,J⟩
 .simp at h
 grind
def W8(ops:Array wg)(S:Nat->Prop):Prop:=∀ j,S j->j<ops.size/\∀ i,(yW ops j).testBit i=true->S i
theorem W8.mask(g:jv ops=true){S}(t:W8 ops S){j}(C:j<ops.size)(o:∀ e,e∈Qq ops j->S e) :
  ∀ i,(yW ops j).testBit i=true->S i:=by
 intro i I;obtain⟨e,p,l⟩:=qhS g C I;rcases l with rfl|l
 .exact o i p
 .exact (t e (o e p)).2 i l
def Bef(L:List Nat)(i k:Nat):Prop:=∀ p q,L=p++k :: q->i∈p
theorem s6:∀{L i k},i∈L->k∈L->i≠k->Bef L i k\/Bef L k i
 | [],i,k,h,_,_=>absurd h zSp
 |x :: l,i,k,J,P,g=>by
  have cons:∀{i k:Nat},Bef l i k->x≠k->Bef (x :: l) i k:=by
   intro i k h R p q e;cases p with
   |nil=>grind
   |cons y C =>
    simp only[yL,uc]at e;exact qN _ (h C q e.2)
  have head:∀{k:Nat},x≠k->Bef (x :: l) x k:=by
   intro k R p q e;cases p with
   |nil=>grind
   |cons y C =>
    grind
  by_cases j:x=i
  .subst j;exact .inl (head g)
  .by_cases I:x=k
   .grind
   .have o:i∈l:=by simpa[Ne.symm j] using J
    have t:k∈l:=by simpa[Ne.symm I] using P
    rcases s6 o t g with h|h
    .exact .inl (cons h I)
    .exact .inr (cons h j)
theorem Topo.pre{p j}(h:Topo ops (p++[j])):Topo ops p:=fun pre k post e=>h pre k (post++[j]) (by rw[e];simp)
theorem s7:∀(q){p},Topo ops (p++q)->Topo ops p
 | [],p,h=>zUs h
 |j :: q,p,h=>by
  grind [Topo]
theorem s8(o:jv ops=true):∀ n p,p.length=n->Topo ops p->W8 ops (·∈p)/\p.Nodup:=by
 intro n;induction n with
 |zero=>intro p l _;have:=uP l;subst this;exact⟨fun j t=>by simp at t,List.nodup_nil⟩
 |succ n T =>
  intro p l P;rcases List.eq_nil_or_concat p with rfl|⟨R,j,rfl⟩
  .simp at l
  .rw [List.concat_eq_append]at *
   obtain⟨C,hn⟩:=T R (zUs l) P.pre;obtain⟨t,U,I⟩:=P R j [] rfl;have J:=C.mask o t I;refine⟨fun k g=>?_,?_⟩
   .rcases qO.1 g with g|g
    .exact ⟨(C k g).1,fun i hi=>qO.2 (.inl ((C k g).2 i hi))⟩
    grind
   grind
theorem Topo.bef(g:jv ops=true){L}(l:Topo ops L){i k}(h:(yW ops k).testBit i=true):Bef L i k:=by
 intro p q e;obtain⟨o,_,j⟩:=l p k q e;have t:=(s8 g _ p rfl (s7 (k :: q) (by rw[<-e];exact l))).1;exact t.mask g o j i h
end
end Go.Ev
namespace Go.Ev
open Go Go.RowKit
section
variable {G G':Gh}{dl:List Deferred}{mu:Mu}{i:Nat}{w w':qf}
theorem Yb{j c}(h:(mu.set i .dead)[j]?=some c)(g:c ≠ .dead):j≠i/\mu[j]?=some c:=by
 grind
theorem Live.hid{b}(h:Live G (mu.set i .dead) b):Live G mu b:=by
 obtain⟨j,c,g,o,l,p⟩:=h;exact⟨j,c,g,(Yb o l).2,l,p⟩
theorem Sim.hid{h}(s:Sim G mu h)(i):Sim G (mu.set i .dead) h:=by
 refine⟨by simpa using s.len,s.imm,fun j c g l t o p=>s.obj j c g l (Yb t o).2 o p,fun j c g l t o p=>s.live j c g l (Yb t o).2 o p,?_,s.tab⟩;intro j k I J b P tk t o p C R T;exact s.inj j k I J b P tk (Yb t p).2 (Yb o C).2 p C R T
theorem Sim.hid_not{h}(s:Sim G mu h){i b t c}(p:mu[i]?=some c)(C:c ≠ .dead)(I:G.blk[i]?=some (b,t)):¬Live G (mu.set i .dead) b:=by
 rintro⟨j,J,g,P,o,R⟩;obtain⟨l,T⟩:=Yb P o;exact l (s.inj j i J c b g t T p o C R I)
theorem Stp.unhid{M m b t c}(s:Sim G M w.heap)(hc:M[i]?=some c)(hd:c ≠ .dead)(hb:G.blk[i]?=some (b,t))(T:Stp G (M.set i .dead) w G' m w') :
  m[i]?=some .dead/\w'.heap[b]?=w.heap[b]?/\Stp G M w G' (m.set i c) w':=by
 have hn:=s.hid_not hc hd hb;obtain⟨o,ho,hr⟩:=s.obj i c b t hc hd hb;have a0:b<w.heap.size:=(yA.1 ho).1;have hk:w'.heap[b]?=w.heap[b]?:=T.keep b a0 hn;have C:G'.blk[i]?=some (b,t):=T.le.blk _ _ hb;have R:¬Live G' m b:=fun h=>(T.live b h).elim hn (fun g=>absurd a0 (Nat.not_lt.2 g))
 have hi:i<m.length:=by rw[<-T.sim.len];grind
 have hm:m[i]?=some .dead:=by
  have e:m[i]?=some m[i]:=qB hi;rw[e];by_cases hq:m[i] = .dead
  .rw [hq]
  .exact absurd ⟨i,m[i],t,e,hq,C⟩ R
 have a1:¬G'.imm b:=fun h=>by
  rcases T.inew b h with h|h|h
  .exact s.live i c b t hc hd hb h
  .exact hn h
  omega
 have a2:Ext G w.heap w'.heap:=T.ext (s.hid i);have l:∀(j:Nat)(x:Cell),(m.set i c)[j]?=some x->x ≠ .dead->(j=i/\x=c)\/(j≠i/\m[j]?=some x):=by
  intro j x hj hx;by_cases e:i=j
  .grind
  grind
 refine⟨hm,hk,T.le,⟨by simpa using T.sim.len,T.sim.imm,?_,?_,?_,T.sim.tab⟩,?_,T.size,?_,?_,T.tape,T.os,T.output,T.drawn⟩
 .intro j x U I h1 J p
  rcases l j x h1 J with ⟨rfl,rfl⟩|⟨_,P⟩
  .rw [C]at p
   obtain⟨rfl,rfl⟩:=Prod.mk.inj (Option.some.inj p);exact⟨o,by rw[hk];exact ho,hr.mono T.le a2⟩
  .exact T.sim.obj j x U I P J p
 .intro j x U I h1 J p
  rcases l j x h1 J with ⟨rfl,rfl⟩|⟨_,P⟩
  .rw [C]at p
   obtain⟨rfl,rfl⟩:=Prod.mk.inj (Option.some.inj p);exact a1
  .exact T.sim.live j x U I P J p
 .intro j k cj ck b' tj tk h1 J p P h5 h6
  rcases l j cj h1 p with ⟨rfl,rfl⟩|⟨e1,g1⟩<;>rcases l k ck J P with ⟨rfl,rfl⟩|⟨e2,g2⟩
  .rfl
  .rw [C]at h5
   obtain⟨rfl,rfl⟩:=Prod.mk.inj (Option.some.inj h5);exact absurd ⟨k,ck,tk,g2,P,h6⟩ R
  .rw [C]at h6
   obtain⟨rfl,rfl⟩:=Prod.mk.inj (Option.some.inj h6);exact absurd ⟨j,cj,tj,g1,p,h5⟩ R
  .exact T.sim.inj j k cj ck b' tj tk g1 g2 p P h5 h6
 .intro x hx hl
  exact T.keep x hx (fun h=>hl h.hid)
 .rintro x ⟨j,cj,I,h1,J,p⟩
  rcases l j cj h1 J with ⟨rfl,rfl⟩|⟨_,P⟩
  .rw [C]at p
   obtain⟨rfl,rfl⟩:=Prod.mk.inj (Option.some.inj p);exact .inl ⟨j,cj,t,hc,hd,hb⟩
  .exact (T.live x ⟨j,cj,I,P,J,p⟩).imp (fun h=>h.hid) id
 .intro x hx
  rcases T.inew x hx with h|h|h
  .exact .inl h
  .exact .inr (.inl h.hid)
  .exact .inr (.inr h)
theorem Stp.drop{M}(s:Sim G M w.heap)(i):Stp G M w G (M.set i .dead) w:=
 ⟨.refl G,s.hid i,fun _ _ _=>rfl,qj _,fun _ h => .inl h.hid,fun _ h => .inl h,rfl,rfl,rfl,qj _⟩
theorem Sim.putOther{M}(s:Sim G M w.heap){D o}(J:¬Live G M D)(P:¬G.imm D):Sim G M (w.putObj D o).heap:=by
 have g:Ext G w.heap (w.putObj D o).heap:=⟨zSp,fun b p=>uS (fun e=>P (e ▸ p))⟩;refine⟨s.len,fun b p=>by have:=s.imm b p;simp_all,?_,s.live,s.inj,s.tab.mono (fun _ h=>h) g.keep⟩;intro j x i l t C I;obtain⟨R,T,U⟩:=s.obj j x i l t C I;refine⟨R,?_,U.mono (.refl G) g⟩;rw[uS (fun (e:i=D)=>J ⟨j,x,l,t,C,e ▸ I⟩)];exact T
structure Mk (G:Gh) (mu:Mu) (h:Array Obj) (D:Nat):Prop where
 obj:h[D]?=some (.deferred (some []))
 nlive:¬Live G mu D
 nimm:¬G.imm D
theorem Mk.step{mu' D}(m:Mk G mu w.heap D)(t:Stp G mu w G' mu' w'):Mk G' mu' w'.heap D:=by
 have i:D<w.heap.size:=(yA.1 m.obj).1;refine⟨by rw[t.keep D i m.nlive];exact m.obj,fun h=>?_,fun h=>?_⟩
 .exact (t.live D h).elim m.nlive (fun g=>absurd i (Nat.not_lt.2 g))
 .rcases t.inew D h with h|h|h
  .exact m.nimm h
  .exact m.nlive h
  omega
def mkOf(D:Nat):Deferred:={ target := .collected D,args:=#[] }
def Dfs(dl:List Deferred)(mk:Bool)(base:Nat)(G:Gh)(mu:Mu)(h:Array Obj)(ds:List Deferred):Prop:=∃ g:List Nat,(ds=g.map mkOf++dl/\(mk=false->g=[]))/\g.Nodup/\∀ D,D∈g->base<=D/\Mk G mu h D
theorem Dfs.nil(dl mk base G mu h):Dfs dl mk base G mu h dl:=⟨[],⟨rfl,fun _=>rfl⟩,List.nodup_nil,zSp⟩
theorem Dfs.step{mk base mu' ds}(d:Dfs dl mk base G mu w.heap ds)(t:Stp G mu w G' mu' w'):Dfs dl mk base G' mu' w'.heap ds:=by
 obtain⟨j,l,o,g⟩:=d;exact⟨j,l,o,fun D i=>⟨(g D i).1,(g D i).2.step t⟩⟩
def uW:List Nat->qf->qf
 | [],w=>w
 | D :: g,w=>uW g (w.putObj D (.deferred none))
theorem W9{P F n fn g R u}(l:u ≠ .run):∀ i w,i.Nodup->(∀ D,D∈i->w.heap[D]?=some (.deferred (some []))) ->
  LeavesInM F n P fn g R dl u (uW i w)->LeavesInM F n P fn g R (i.map mkOf++dl) u w
 | [],w,_,_,h=>h
 | D :: i,w,o,p,h=>by
  obtain⟨t,j⟩:=jX.1 o;refine⟨l,.inl ⟨D,w.putObj D (.deferred none),rfl,run_takeDeferred (p D zSp),W9 l i _ j (fun E C=>?_) h⟩⟩
  grind [uS]
theorem gU{o i l}:∀ j w,j.Nodup->(∀ D,D∈j->l.heap.size<=D/\Mk G mu w.heap D)->Stp o i l G mu w ->
  Stp o i l G mu (uW j w)/\Ext G w.heap (uW j w).heap
 | [],w,_,_,t=>⟨t,Ext.refl _ _⟩
 | D :: j,w,T,p,t=>by
  obtain⟨C,I⟩:=jX.1 T;obtain⟨hb,J⟩:=p D zSp;have t1:Stp o i l G mu (w.putObj D (.deferred none)):=by
   refine⟨t.le,t.sim.putOther J.nlive J.nimm,fun b g U=>?_,by simpa using t.size,t.live,t.inew,t.tape,t.os,t.output,t.drawn⟩;rw[uS zOm];exact t.keep b g U
  obtain⟨h1,R⟩:=gU j (w.putObj D (.deferred none)) I (fun E P=>⟨(p E (zP1 P)).1,by
   have m:=(p E (zP1 P)).2;exact⟨by rw[uS (fun (e:E=D)=>C (e ▸ P))];exact m.obj,m.nlive,m.nimm⟩⟩) t1
  .refine ⟨h1,⟨Nat.le_trans zSp R.size,fun b g=>?_⟩⟩
   have:=R.keep b g;simp only[uW];rw[this,uS (fun (e:b=D)=>J.nimm (e ▸ g))]
end
end Go.Ev
namespace Go.Ev
open Go Go.RowKit
section
variable {a:Act}{ops:Array wg}{G:Gh}{g m mu mu':Mu}{o:wg}{ev':zK->AV}{pl:Pol}{P:qb}{st:St}{w:qf}
def Br(b:Bool)(p q:Prop):Prop:=(b=true->p)/\(b=false->q)
def Yc:AV->Bool->Option Bool
 | .sc (.bool b),g=>some (b == g)
 | .sc _,_=>some false
 |_,_=>none
def yB(ops:Array wg)(st:St)(o:wg):Option Bool:=
 match o.guard with
 |none=>some true
 |some (j,g)=>match (ops[j]?).bind (·.dst) with
  |none=>some false
  |some d=>Yc (st.tm d) g
def awpS(P:qb)(pl:Pol)(det:Bool)(ops:Array wg):List wg->(St->Prop)->(AV->St->Prop)->St->Prop
 | [],Q,_,U=>Q U
 |o :: l,Q,g,U=>OptK (yB ops U o) fun b =>
   Br b (qF P pl det o.dst o.op U.ev U.mu (fun v m=>awpS P pl det ops l Q g (U.put o.dst v m)) (fun v m=>g v ⟨U.tm,m⟩)) (awpS P pl det ops l Q g (U.put o.dst (.sc uk) U.mu))
structure Rel (ro:Ro) (G0:Gh) (mu0:Mu) (w0:qf) (n:Nat) (G:Gh) (st:St) (a:Act) (w:qf):Prop where
 tm:∀ i,VRel G w.heap (st.tm i) (a.tmps.getD i uk)
 df:ro.rd=none->Dfs ro.dl ro.mks w0.heap.size G st.mu w.heap a.defers
 size:a.tmps.size=n
 stp:Stp G0 mu0 w0 G st.mu w
 kp:∀ p,p∈ro.kp->VRel G w.heap p.1 p.2
theorem Rel.ev{ro j i l n}(r:Rel ro j i l n G st a w)(x):VRel G w.heap (st.ev x) (a.eval x):=by
 cases x with
 |tmp t=>exact r.tm t
 |const v=>exact .ofV v
 |global g=>exact .any _
 |func f=>exact .fn _ [] [] _ _ rfl rfl zSp zSp
def dOk(n:Nat):Option Tmp->Bool|some d=>decide (d<n)|none=>true
theorem Rel.put{ro j l n G' w' v u d}(I:Sim j g l.heap)(r:Rel ro j g l n G st a w)(t:Stp G st.mu w G' m w')(P:VRel G' w'.heap v u)
  (o:dOk n d=true):Rel ro j g l n G' (st.put d v m) (a.put d u) w':=by
 refine⟨fun i=>?_,?_,?_,r.stp.trans I t,fun p J=>t.vrel r.stp.sim (r.kp p J)⟩
 .cases d with
  |none=>exact t.vrel r.stp.sim (r.tm i)
  |some d =>
   simp only[dOk,decide_eq_true_eq]at o;simp only[St.put,Act.put];by_cases C:i=d
   .subst C
    rw[if_pos rfl];have:i<a.tmps.size:=by rw[r.size];exact o
    simp_all
   .rw [if_neg C]
    have:(a.tmps.setIfInBounds d u).getD i uk=a.tmps.getD i uk:=by
     simp only[qV]
     grind
    rw[this];exact t.vrel r.stp.sim (r.tm i)
 .intro h
  have:=(r.df h).step t;cases d<;>exact this
 .cases d with
  |none=>exact r.size
  |some d=>simp[Act.put,r.size]
theorem Rel.drew{ro i j n}(l:Sim i g j.heap)(r:Rel ro i g j n G st a w):Rel ro i g j n G st a w.drew:=
 ⟨r.tm,r.df,r.size,r.stp.trans l (Stp.drew r.stp.sim),r.kp⟩
theorem VX{ro C l I n}(r:Rel ro C l I n G st a w){ops o b}(h:yB ops st o=some b):Region.wanted o (yielded ops a.tmps)=b:=by
 unfold yB at h;unfold Region.wanted;cases i:o.guard with
 |none=>rw[i]at h;simpa using h
 |some q =>
  obtain⟨j,t⟩:=q;rw[i]at h;simp only at h⊢;unfold yielded;cases J:(ops[j]?).bind (·.dst) with
  |none=>grind
  |some d =>
   rw[J]at h;simp only[Option.bind_some]at h⊢;have rd:=r.tm d;have g:a.tmps[d]?=some (a.tmps.getD d uk)\/a.tmps[d]?=none/\a.tmps.getD d uk=uk:=by
    simp only[qV]
    grind
   unfold Yc at h;split at h
   .rename_i P p
    simp only[qo]at h;subst h;rw[p]at rd;generalize a.tmps.getD d uk=v at rd g;cases rd;rcases g with i|⟨_,i⟩
    .grind
    .exact absurd i (by simp[uk])
   .rename_i v R p
    simp only[qo]at h;subst h;rw[p]at rd;generalize a.tmps.getD d uk=T at rd g;cases rd;rcases g with i|⟨i,_⟩
    .grind
    .rw [i];rfl
   grind
theorem gV{ro l2 C I n}(J:Sim C g I.heap){Q Qp QQ}
  (hQ:∀ st a w G,Q st->Rel ro C g I n G st a w->wpListIn (WF ro) 0 P ops QQ l2 a w)
  (R:∀ v st a w G u,Qp v st->Rel ro C g I n G st a w->VRel G w.heap v u->QQ (.panic [{ v:=u,recovered:=false }]) a w) :
  ∀ l st a w G,Rel ro C g I n G st a w->(l.all fun o=>dOk n o.dst)=true->awpS P pl false ops l Q Qp st->wpListIn (WF ro) 0 P ops QQ (l++l2) a w:=by
 intro l;induction l with
 |nil=>intro st a w G r _ h;exact hQ st a w G h r
 |cons o l ih =>
  intro st a w G r p h;simp only[List.all_cons,qD]at p;obtain⟨b,hb,h1,h2⟩:=h;have hw:=VX r hb;simp only[yL,wpListIn,hw];cases b with
  |false =>
   rw[if_neg zSp];exact⟨fun _ _=>trivial,ih _ _ _ G (r.put J (Stp.refl r.stp.sim) (.sc _ rfl) p.1) p.2 (h2 rfl)⟩
  |true =>
   rw[if_pos rfl];refine VW r.stp.sim r.ev (h1 rfl) ?_ ?_
   .intro v t T w' u U j hv
    exact ih _ _ _ T (r.put J j hv p.1) p.2 U
   .intro v t T w' u U j hv
    refine R v ⟨st.tm,t⟩ a w' T u U ?_ hv;exact r.put (d:=none) J j (.any uk) rfl
theorem VY{ro j p n}(I:Sim j g p.heap){Q C QQ}
  (J:∀ st a w G,Q st->Rel ro j g p n G st a w->QQ .normal a w)
  (t:∀ v st a w G u,C v st->Rel ro j g p n G st a w->VRel G w.heap v u->QQ (.panic [{ v:=u,recovered:=false }]) a w) :
  ∀ l st a w G,Rel ro j g p n G st a w->(l.all fun o=>dOk n o.dst)=true->awpS P pl false ops l Q C st->wpListIn (WF ro) 0 P ops QQ l a w:=by
 intro l st a w G r R h;have:=gV (l2:=[]) I (fun st a w G T r=>J st a w G T r) t l st a w G r R h
 grind
def memW(pl:Pol)(o:wg):Bool:=
 match o.op with
 | .alloc _ | .store .. | .makeSlice .. | .mapUpdate .. | .mapEntry .. | .entryStore .. | .makeMap .. | .insert .. | .range .. | .next .. => true
 | .box .. => o.dst.any pl.mt.contains
 | .call c=>match c.callee with | .builtin .append | .builtin .copy | .builtin .delete | .builtin .clear=>true|_=>false
 |_=>false
def memR(o:wg):Bool:=
 match o.op with
 | .load .. | .call _ | .lookup .. | .entry .. => true
 |_=>false
def Xa(l:Array zK):List Tmp:=l.toList.filterMap fun | .tmp t=>some t|_=>none
def wR(ops:Array wg)(o:wg):List Tmp:=
 Xa o.op.operands++(match o.guard with|some (j,_)=>((ops[j]?).bind (·.dst)).toList|none=>[])
def Xb(pl:Pol)(o:wg):Bool:=
 match o.op with
 | .alloc _ | .makeSlice .. | .makeMap .. => true
 | .box .. => o.dst.any pl.mt.contains
 |_=>false
def reads(pl:Pol)(o:wg):Bool:=memR o&&!memW pl o
def soft(pl:Pol)(a b:wg):Bool:=
 (match a.op,b.op with
 | .lookup t _ _ false,.mapEntry g _ _=>t == g
 |_,_=>false)||(reads pl a&&Xb pl b)
def yO(pl:Pol)(ops:Array wg)(a b:wg):Bool:=
 (memW pl a&&(memW pl b||memR b))||(memR a&&memW pl b&&!soft pl a b) ||
 (match a.dst with|some d=>(wR ops b).contains d||b.dst == some d|none=>false) ||
 (match b.dst with|some d=>(wR ops a).contains d|none=>false)
def Jy(pl:Pol)(ops:Array wg):Bool:=
 jv ops&&(let g:=uw ops.toList [];(qs ops.size).all fun j=>(qs j).all fun i =>
  match ops[i]?,ops[j]? with|some a,some b=>!yO pl ops a b||(g.getD j 0).testBit i|_,_=>true)
theorem qhT(h:Jy pl ops=true):jv ops=true/\∀(i j) a b,i<j->ops[i]?=some a->ops[j]?=some b->yO pl ops a b=true->(yW ops j).testBit i=true:=by
 unfold Jy at h;rw[qD]at h;refine⟨h.1,fun i j a b g p l t=>?_⟩;have C:j<ops.size:=(yA.1 l).1;have o:=h.2;simp only[q8,ye]at o;have:=o j C i g;rw[p,l]at this;simp only[t,Bool.not_true,Bool.false_or]at this;exact this
def VZ(pl:Pol)(ops:Array wg)(a b:Nat):Bool:=
 jv ops&&(let g:=uw ops.toList [];(qs ops.size).all fun j=>(qs j).all fun i=>(i == a&&j == b) ||
  match ops[i]?,ops[j]? with|some x,some y=>!yO pl ops x y||(g.getD j 0).testBit i|_,_=>true) &&
 (qs b).all fun k=>!(decide (a<k))||match ops[k]?,ops[a]? with|some x,some y=>!yO pl ops x y|_,_=>true
theorem qhU{a b}(h:VZ pl ops a b=true):jv ops=true/\(∀(i j) x y,i<j->¬(i=a/\j=b)->ops[i]?=some x->ops[j]?=some y->yO pl ops x y=true->(yW ops j).testBit i=true) /\
  ∀(k) x y,a<k->k<b->ops[k]?=some x->ops[a]?=some y->yO pl ops x y=false:=by
 unfold VZ at h;rw[qD,qD]at h;refine⟨h.1.1,fun i j x y l o C p I=>?_,fun k x y J g P R=>?_⟩
 .have T:j<ops.size:=(yA.1 p).1
  have g:=h.1.2;simp only[q8,ye]at g;have:=g j T i l;rw[C,p,Zp]at this;rcases this with this|this
  .simp at this;exact absurd this o
  .simp only[I,Bool.not_true,Bool.false_or]at this
   exact this
 .have t:=h.2
  simp only[q8,ye]at t;have:=t k g;rw[P,R]at this;simpa[J] using this
def DS(P:qb)(pl:Pol)(o:wg)(ev:zK->AV)(mu:Mu)(v:AV)(m:Mu):Prop:=qF P pl true o.dst o.op ev mu (fun a b=>a=v/\b=m) (fun _ _=>False)
theorem qF.det{ev K t}(h:qF P pl true o.dst o.op ev mu K t):∃ v m,DS P pl o ev mu v m/\K v m:=by
 unfold DS;generalize o.dst=C at *
 cases I:o.op<;>rw[I]at h<;>simp only[qF]at h⊢<;>try (exact h.elim)
 case move=>exact⟨_,_,⟨rfl,rfl⟩,h⟩
 case assign=>exact⟨_,_,⟨rfl,rfl⟩,h⟩
 case makeFunc=>exact⟨_,_,⟨rfl,rfl⟩,h⟩
 case pick=>grind
 case alloc=>obtain⟨z,i,j,J⟩:=h;exact⟨_,_,⟨z,i,j,rfl,rfl⟩,J⟩
 case box =>
  grind
 case build=>obtain⟨l,z,i,j⟩:=h;exact⟨_,_,⟨l,z,i,rfl,rfl⟩,j⟩
 case buildSlice=>obtain⟨z,i,j⟩:=h;exact⟨_,_,⟨z,i,rfl,rfl⟩,j⟩
 case load=>obtain⟨z,i,j⟩:=h;exact⟨_,_,⟨z,i,rfl,rfl⟩,j⟩
 case store=>obtain⟨z,i,j⟩:=h;exact⟨_,_,⟨z,i,rfl,rfl⟩,j⟩
 case nilCheck=>obtain⟨z,i,j⟩:=h;exact⟨_,_,⟨z,i,rfl,rfl⟩,j⟩
 case binOp =>
  split at h
  .rename_i p
   simp only[if_pos p];obtain⟨z,T,U⟩:=h.det
   grind
  .rename_i p
   simp only[if_neg p];obtain⟨z,i,j⟩:=h;exact⟨_,_,⟨z,i,rfl,rfl⟩,j⟩
 case unOp=>obtain⟨z,i,j⟩:=h;exact⟨_,_,⟨z,i,rfl,rfl⟩,j⟩
 case convert=>obtain⟨l,z,i,j⟩:=h;exact⟨_,_,⟨l,z,i,rfl,rfl⟩,j⟩
 case makeInterface=>grind
 case makeSlice=>obtain⟨z,i,j⟩:=h;exact⟨_,_,⟨z,i,rfl,rfl⟩,j⟩
 case slice=>obtain⟨l,z,i,j⟩:=h;exact⟨_,_,⟨l,z,i,rfl,rfl⟩,j⟩
 case fieldAddr=>obtain⟨z,i,j⟩:=h;exact⟨_,_,⟨z,i,rfl,rfl⟩,j⟩
 case field=>obtain⟨z,i,j⟩:=h;exact⟨_,_,⟨z,i,rfl,rfl⟩,j⟩
 case indexAddr=>obtain⟨z,i,j⟩:=h;exact⟨_,_,⟨z,i,rfl,rfl⟩,j⟩
 case index=>obtain⟨z,i,j⟩:=h;exact⟨_,_,⟨z,i,rfl,rfl⟩,j⟩
 case extract=>obtain⟨z,i,j⟩:=h;exact⟨_,_,⟨z,i,rfl,rfl⟩,j⟩
 case typeAssert=>obtain⟨z,i,j⟩:=h;exact⟨_,_,⟨z,i,rfl,rfl⟩,j⟩
 case makeMap=>grind
 case lookup=>obtain⟨z,i,j⟩:=h;exact⟨_,_,⟨z,i,rfl,rfl⟩,j⟩
 case mapUpdate=>obtain⟨z,i,j⟩:=h;exact⟨_,_,⟨z,i,rfl,rfl⟩,j⟩
 case insert=>obtain⟨z,i,j⟩:=h;exact⟨_,_,⟨z,i,rfl,rfl⟩,j⟩
 case mapEntry=>obtain⟨z,i,j⟩:=h;exact⟨_,_,⟨z,i,rfl,rfl⟩,j⟩
 case entryStore=>obtain⟨z,i,j⟩:=h;exact⟨_,_,⟨z,i,rfl,rfl⟩,j⟩
 case range=>obtain⟨z,i,j⟩:=h;exact⟨_,_,⟨z,i,rfl,rfl⟩,j⟩
 case next=>exact absurd h.1 zSp
 case entry=>obtain⟨z,i,j⟩:=h;exact⟨_,_,⟨z,i,rfl,rfl⟩,j⟩
 case panic=>exact absurd h.1 zSp
 case call c =>
  obtain⟨callee,args,R⟩:=c;cases callee with
  |invoke r m=>exact h.elim
  |value f =>
   rcases h with ⟨v,i,j⟩|⟨i,_⟩
   .exact ⟨_,_,.inl ⟨v,i,rfl,rfl⟩,j⟩
   .exact absurd i zSp
  |builtin b =>
   cases b<;>simp only at h⊢<;>try (first | (obtain⟨z,m,i,j⟩:=h;exact⟨_,_,⟨z,m,i,rfl,rfl⟩,j⟩) | (obtain⟨z,i,j⟩:=h;exact⟨_,_,⟨z,i,rfl,rfl⟩,j⟩))
   obtain⟨s,x,i,h⟩:=h;obtain⟨v,m,g,k⟩:=h.det;exact⟨v,m,⟨s,x,i,g⟩,k⟩
theorem DS.mem{ev v}(h:DS P pl o ev mu v m)(l:memW pl o=false):m=mu/\(memR o=false->∀ i,DS P pl o ev i v i):=by
 unfold DS at *
 unfold memW at l;unfold memR;cases C:o.op<;>rw[C]at h l<;>simp only[qF]at h⊢<;>try (exact h.elim)
 case move=>grind
 case assign=>grind
 case makeFunc=>grind
 case pick=>grind
 case alloc=>exact absurd l zSp
 case box =>
  grind
 case build=>obtain⟨p,z,j,g⟩:=h;exact⟨g.2.symm,fun _ i=>⟨p,z,j,g.1,by first|rfl|trivial⟩⟩
 case buildSlice=>obtain⟨z,j,g⟩:=h;exact⟨g.2.symm,fun _ i=>⟨z,j,g.1,by first|rfl|trivial⟩⟩
 case load=>obtain⟨z,j,g⟩:=h;grind
 case store=>exact absurd l zSp
 case nilCheck=>obtain⟨z,j,g⟩:=h;exact⟨g.2.symm,fun _ i=>⟨z,j,g.1,by first|rfl|trivial⟩⟩
 case binOp =>
  split at h
  .rename_i t
   simp only[if_pos t];obtain⟨z,J,R⟩:=h.det
   grind
  .rename_i t
   simp only[if_neg t];obtain⟨z,j,g⟩:=h;exact⟨g.2.symm,fun _ i=>⟨z,j,g.1,by first|rfl|trivial⟩⟩
 case unOp=>obtain⟨z,j,g⟩:=h;exact⟨g.2.symm,fun _ i=>⟨z,j,g.1,by first|rfl|trivial⟩⟩
 case convert=>obtain⟨p,z,j,g⟩:=h;exact⟨g.2.symm,fun _ i=>⟨p,z,j,g.1,by first|rfl|trivial⟩⟩
 case makeInterface=>grind
 case makeSlice=>exact absurd l zSp
 case slice=>obtain⟨p,z,j,g⟩:=h;exact⟨g.2.symm,fun _ i=>⟨p,z,j,g.1,by first|rfl|trivial⟩⟩
 case fieldAddr=>obtain⟨z,j,g⟩:=h;exact⟨g.2.symm,fun _ i=>⟨z,j,g.1,by first|rfl|trivial⟩⟩
 case field=>obtain⟨z,j,g⟩:=h;exact⟨g.2.symm,fun _ i=>⟨z,j,g.1,by first|rfl|trivial⟩⟩
 case indexAddr=>obtain⟨z,j,g⟩:=h;exact⟨g.2.symm,fun _ i=>⟨z,j,g.1,by first|rfl|trivial⟩⟩
 case index=>obtain⟨z,j,g⟩:=h;exact⟨g.2.symm,fun _ i=>⟨z,j,g.1,by first|rfl|trivial⟩⟩
 case extract=>obtain⟨z,j,g⟩:=h;exact⟨g.2.symm,fun _ i=>⟨z,j,g.1,by first|rfl|trivial⟩⟩
 case typeAssert=>obtain⟨z,j,g⟩:=h;exact⟨g.2.symm,fun _ i=>⟨z,j,g.1,by first|rfl|trivial⟩⟩
 case makeMap=>exact absurd l zSp
 case lookup=>obtain⟨z,j,g⟩:=h;grind
 case mapUpdate=>exact absurd l zSp
 case insert=>exact absurd l zSp
 case mapEntry=>exact absurd l zSp
 case entryStore=>exact absurd l zSp
 case range=>exact absurd l zSp
 case next=>exact absurd l zSp
 case entry=>obtain⟨z,j,g⟩:=h;grind
 case panic=>exact absurd h.1 zSp
 case call c =>
  obtain⟨callee,args,I⟩:=c;cases callee with
  |invoke r m=>exact h.elim
  |value f =>
   rcases h with ⟨v,j,g⟩|⟨j,_⟩
   .grind
   grind
  |builtin b =>
   cases b<;>simp only at h l⊢<;>first
    | (obtain⟨z,j,g⟩:=h;grind)
    | (exact absurd l zSp)
theorem Yd{ev}{l:Array zK}(h:∀ x,x∈l->ev x=ev' x):evs ev l.toList=evs ev' l.toList:=
 List.map_congr_left fun x g=>h x (zUs g)
theorem V0{ev:zK->AV}{l:Array (Nat×zK)}(h:∀ x,x∈(l.toList.map (·.2)).toArray->ev x=ev' x):(l.toList.map fun p=>(p.1,ev p.2))=l.toList.map fun p=>(p.1,ev' p.2):=
 List.map_congr_left fun p g=>by grind
theorem V1{ev}{o:Option zK}(h:∀ x,x∈o.toArray->ev x=ev' x):o.map ev=o.map ev':=by
 cases o with
 |none=>rfl
 |some x=>simp[h x zSp]
theorem DS.congr{ev v}(h:DS P pl o ev mu v m)(g:∀ x,x∈o.op.operands->ev x=ev' x):DS P pl o ev' mu v m:=by
 unfold DS at *
 cases p:o.op<;>rw[p]at h g<;>simp only[qF,Op.operands]at h g⊢<;>try (exact h.elim)
 case move x=>rw[<-g x zSp];exact h
 case assign x=>rw[<-g x zSp];exact h
 case makeFunc f first j =>
  grind [Yd]
 case pick c x y=>grind
 case alloc=>exact h
 case box t x=>rw[<-g x zSp];exact h
 case build t C=>rw[<-V0 g];exact h
 case buildSlice t n C=>rw[<-V0 g];exact h
 case load t x=>rw[<-g x zSp];exact h
 case store t x y=>grind
 case nilCheck x=>rw[<-g x zSp];exact h
 case binOp op t x y R=>grind
 case unOp op t x=>rw[<-g x zSp];exact h
 case convert s t x=>rw[<-g x zSp];exact h
 case makeInterface t x=>rw[<-g x zSp];exact h
 case makeSlice t x y=>grind
 case slice t x T U mx =>
  grind [V1]
 case fieldAddr t x f=>rw[<-g x zSp];exact h
 case field t x f=>rw[<-g x zSp];exact h
 case indexAddr t x i=>grind
 case index t x i=>grind
 case extract x i=>rw[<-g x zSp];exact h
 case typeAssert x xt t ok=>rw[<-g x zSp];exact h
 case makeMap=>exact h
 case lookup t m k ok=>grind
 case mapUpdate t m k v=>grind
 case insert t m k v=>grind
 case mapEntry t m k=>grind
 case entryStore t m k v=>grind
 case range t m=>rw[<-g m zSp];exact h
 case next=>exact absurd h.1 zSp
 case entry i=>rw[<-g i zSp];exact h
 case panic x=>exact absurd h.1 zSp
 case call c =>
  obtain⟨callee,args,I⟩:=c;cases callee with
  |invoke r m=>exact h.elim
  |value f =>
   grind [Call.operands,Yd]
  |builtin b =>
   simp only[Call.operands]at g;simp only at h⊢;rw[<-Yd (l:=args) (fun x J=>g x (zP1 J))];exact h
theorem gW(g:MuLe mu mu'){p n cs}(h:vF mu p n=some cs):vF mu' p n=some cs:=by
 unfold vF at *
 split at h
 .exact h
 .split at h
  .rename_i i;rw[g _ _ i];exact h
  grind
 grind
theorem qhV(i:MuLe mu mu'){t p z}(h:wK P mu t p=some z):wK P mu' t p=some z:=by
 unfold wK at *
 split at h
 .rename_i n l o
  cases g:vF mu p n with
  |none=>rw[g]at h;exact absurd h zSp
  |some j=>rw[g]at h;rw[gW i g];exact h
 .cases g:vF mu p 1 with
  |none=>rw[g]at h;exact absurd h zSp
  |some j=>rw[g]at h;rw[gW i g];exact h
 grind
theorem qhW(g:MuLe mu mu'){m es}(h:jD mu m=some es):jD mu' m=some es:=by
 unfold jD at *
 split at h
 .exact h
 .split at h
  .rename_i i;rw[g _ _ i];exact h
  grind
 .exact h
 grind
theorem gX(g:MuLe mu mu'){t m k z ok}(h:jn P mu t m k ok=some z):jn P mu' t m k ok=some z:=by
 grind [jn,qhW,absurd]
theorem qhX(g:MuLe mu mu'){t m k z ok}(h:yj P mu t m k ok=some z):yj P mu' t m k ok=some z:=by
 cases m with
 |ims C =>
  simp only[yj]at h⊢;cases i:mapT P t with
  |none=>rw[i]at h;exact absurd h zSp
  |some q =>
   rw[i]at h;simp only at h⊢;split at h
   .rename_i j
    rw[if_pos j];exact gX g h
   grind
 |_=>exact gX g h
theorem qhY(g:MuLe mu mu'){x z}(h:Zx mu x=some z):Zx mu' x=some z:=by
 unfold Zx at *
 split at h
 .split at h
  .rename_i i;rw[g _ _ i];exact h
  grind
 grind
theorem qhZ(g:MuLe mu mu'){t x z}(h:lenA P mu t x=some z):lenA P mu' t x=some z:=by
 unfold lenA at *
 split at h
 .exact h
 .exact h
 .exact h
 .exact h
 .exact h
 .split at h
  .rename_i i j;rw[i,g _ _ j];exact h
  grind
 grind
theorem qh0(g:MuLe mu mu'){b ts xs z}(h:ur P mu b ts xs=some z):ur P mu' b ts xs=some z:=by
 unfold ur at *
 split at h
 .exact qhZ g h
 .exact h
 .exact h
 .exact h
 grind
theorem Rd.le(J:MuLe mu mu'){x y}(h:Rd mu x y):Rd mu' x y:=by
 induction h with
 |hf x h=>exact .hf x h
 |sl b sz off len cells l I hl g P h i=>exact .sl b sz off len cells l (J _ _ I) hl g P i
 |ptr b off cells l I g h i=>exact .ptr b off cells l (J _ _ I) g i
 |mp b C R I g hk hv j o=>exact .mp b C R (J _ _ I) g j o
 |md b C R I g hk hv j o=>exact .md b C R (J _ _ I) g j o
 |agg p l g h i=>exact .agg p l g i
 |tup p l g h i=>exact .tup p l g i
 |lst full p l g P h i=>exact .lst full p l g P i
 |fn f a b c d g T h h' j o=>exact .fn f a b c d g T j o
 |ifc t x y h i=>exact .ifc t x y i
 |wk x full l h i=>exact .wk x full l i
 |ims x C U σ τ hp hd h i=>exact .ims x C U σ τ hp hd i
theorem Rds.le(g:MuLe mu mu'):∀{xs ys},Rds mu xs ys->Rds mu' xs ys
 | [],[],_=>trivial
 |x :: xs,y :: ys,⟨h,t⟩=>⟨h.le g,Rds.le g t⟩
 | [],_ :: _,h=>h.elim
 |_ :: _,[],h=>h.elim
theorem Jx.le(t:MuLe mu mu'){f args v}(h:Jx P mu f args v):Jx P mu' f args v:=by
 rcases h with ⟨g,first,j,i,o,p,l⟩|⟨g,first,j,i,o,p,l⟩
 .refine .inl ⟨g,first,j,i,o,p,?_⟩
  rcases l with l|⟨l,C⟩
  .exact .inl l
  .exact .inr ⟨l.le t,C⟩
 .exact .inr ⟨g,first,j,i,o,p,l.le t⟩
theorem DS.le{ev v}(j:reads pl o=true)(l:MuLe mu mu')(h:DS P pl o ev mu v m):DS P pl o ev mu' v mu':=by
 unfold reads at j;rw[qD,Bool.not_eq_true']at j;obtain⟨j,p⟩:=j;unfold DS at *
 unfold memR at j;unfold memW at p;cases t:o.op<;>rw[t]at h j p<;>simp only[qF]at h⊢<;>try grind
 case load=>obtain⟨z,g,i⟩:=h;exact⟨z,qhV l g,i.1,by first|rfl|trivial⟩
 case lookup=>obtain⟨z,g,i⟩:=h;exact⟨z,qhX l g,i.1,by first|rfl|trivial⟩
 case entry=>obtain⟨z,g,i⟩:=h;exact⟨z,qhY l g,i.1,by first|rfl|trivial⟩
 case call c =>
  obtain⟨callee,args,C⟩:=c;cases callee with
  |invoke r m=>exact h.elim
  |value f =>
   rcases h with ⟨v,g,i⟩|⟨g,_⟩
   .exact .inl ⟨v,g.le l,i.1,by first|rfl|trivial⟩
   grind
  |builtin b =>
   cases b<;>simp only at h p⊢<;>first
    | (obtain⟨z,g,i⟩:=h;exact⟨z,qh0 l g,i.1,by first|rfl|trivial⟩)
    | (exact absurd p zSp)
theorem DS.push{ev v}(j:Xb pl o=true)(h:DS P pl o ev mu v m):MuLe mu m:=by
 unfold DS at *
 unfold Xb at j;cases p:o.op<;>rw[p]at h j<;>simp only[qF]at h<;>try grind
 case alloc=>obtain⟨z,g,i,l,t⟩:=h;rw[<-t];exact .push _ _
 case box =>
  obtain⟨g,i⟩:=h;simp only at j;rw[if_pos j]at i;rw[<-i.2];exact .push _ _
 case makeSlice =>
  obtain⟨z,g,i,l⟩:=h;rw[<-l];unfold Js at g;split at g
  .split at g
   .split at g
    .simp only[qo]at g
     rw[<-g];exact .push _ _
    grind
   grind
  grind
 case makeMap=>obtain⟨C,g,i⟩:=h;rw[<-i];exact .push _ _
end
end Go.Ev
namespace Go.Ev
open Go Go.RowKit
section
variable {o:wg}{st:St}
theorem gY{pl}(h:reads pl o=true):memW pl o=false:=by
 simp_all[reads,qD]
theorem qh1{pl}(h:reads pl o=true):memR o=true:=by
 unfold reads at h;rw[qD]at h;exact h.1
theorem qh2{pl}(h:memW pl o=true):reads pl o=false:=by
 unfold reads;rw[h];simp
theorem qh3{pl a b}(h:reads pl a=false):soft pl a b=false:=by
 unfold soft;rw[h];simp only[Bool.false_and,Bool.or_false]
 grind [reads,memR,memW,absurd]
theorem qh4{P pl a b}(h:soft pl a b=true){ev ev' mu m v l}(g:DS P pl b ev' mu l m)(i:DS P pl a ev mu v mu):DS P pl a ev m v m:=by
 unfold soft at h;rw[Zp]at h;rcases h with h|h
 .split at h
  .rename_i t mo ko t' o p C I
   have J:=beq_iff_eq.1 h;subst J;unfold DS at *
   rw[C]at i⊢;rw[I]at g;simp only[qF]at i g⊢;obtain⟨z,R,T,_⟩:=i;obtain⟨y,U,_,j⟩:=g;obtain⟨y1,y2⟩:=y;simp only at j;subst j;exact⟨z,qhD U R,T,by first|rfl|trivial⟩
  grind
 .rw [qD]at h
  exact i.le h.1 (g.push h.2)
section
variable (P:qb) (pl:Pol) (ops:Array wg)
def j7(st:St)(o:wg)(g:St):Prop:=
 ∃ b,yB ops st o=some b/\(b=true->∃ v m,DS P pl o st.ev st.mu v m/\g=st.put o.dst v m)/\(b=false->g=st.put o.dst (.sc uk) st.mu)
theorem Xc{Q t}:∀ l st,awpS P pl true ops l Q t st ->
  ∃ g:Nat->St,g 0=st/\Q (g l.length)/\∀ i o,l[i]?=some o->j7 P pl ops (g i) o (g (i+1)):=by
 intro l;induction l with
 |nil=>intro st h;exact⟨fun _=>st,rfl,h,zSp⟩
 |cons o l I =>
  intro st h;obtain⟨b,C,J,R⟩:=h;have key:∀ j:St,awpS P pl true ops l Q t j->j7 P pl ops st o j->∃ g:Nat->St,g 0=st/\Q (g (o :: l).length)/\∀(i:Nat)(x:wg),(o :: l)[i]?=some x->j7 P pl ops (g i) x (g (i+1)):=by
   intro j p T;obtain⟨g,e0,U,hs⟩:=I j p;refine⟨fun i=>match i with|0=>st|k+1=>g k,rfl,U,fun i x hx=>?_⟩
   grind
  cases b with
  |true =>
   obtain⟨v,m,hd,hk⟩:=qF.det (J rfl);exact key _ hk ⟨true,C,fun _=>⟨v,m,hd,rfl⟩,fun h=>absurd h zSp⟩
  |false=>exact key _ (R rfl) ⟨false,C,fun h=>absurd h zSp,fun _=>rfl⟩
variable (po:Array wg)
def vG(k:Nat):Option Tmp:=(po[k]?).bind (·.dst)
def wAt(k:Nat):Bool:=(po[k]?).any (memW pl)
def Sst(g:Nat->St)(S:List Nat):Nat->St
 | 0=>g 0
 |k+1=>if k∈S then ⟨fun t=>if vG po k=some t then (g (k+1)).tm t else (Sst g S k).tm t,if wAt pl po k=true then (g (k+1)).mu else (Sst g S k).mu⟩ else Sst g S k
variable {P pl ops po}
theorem jQ{d v m t}(h:d≠some t):(st.put d v m).tm t=st.tm t:=by
 cases d with
 |none=>rfl
 |some d =>
  simp only[St.put]
  grind
theorem j7.frame{g}(h:j7 P pl ops st o g){t}(i:o.dst≠some t):g.tm t=st.tm t:=by
 obtain⟨b,_,l,j⟩:=h;cases b with
 |true=>grind [jQ]
 |false=>rw[j rfl];exact jQ i
theorem j7.mem{g}(h:j7 P pl ops st o g)(i:memW pl o=false):g.mu=st.mu:=by
 obtain⟨b,_,j,l⟩:=h;cases b with
 |true=>obtain⟨v,m,p,rfl⟩:=j rfl;exact(p.mem i).1
 |false=>rw[l rfl];rfl
variable {stf:Nat->St}
theorem qh5(j:∀ i o,po[i]?=some o->j7 P pl ops (stf i) o (stf (i+1))){k}(l:k<po.size){t}(h:vG po k≠some t):(stf (k+1)).tm t=(stf k).tm t:=by
 have g:po[k]?=some po[k]:=zP1 l;exact(j k _ g).frame (by unfold vG at h;rw[g]at h;exact h)
theorem gZ(j:∀ i o,po[i]?=some o->j7 P pl ops (stf i) o (stf (i+1))){k}(l:k<po.size)(h:wAt pl po k=false):(stf (k+1)).mu=(stf k).mu:=by
 have g:po[k]?=some po[k]:=zP1 l;exact(j k _ g).mem (by unfold wAt at h;rw[g]at h;exact h)
theorem Xd(l:∀(i) (o),po[i]?=some o->j7 P pl ops (stf i) o (stf (i+1)))(S t j)(C:∀ k,k<j->vG po k=some t->k∈S)(I:∀ k,j<=k->k<po.size->vG po k=some t->k ∉ S) :
  ∀ m,m<=po.size->(Sst pl po stf S m).tm t=(stf (min m j)).tm t:=by
 intro m;induction m with
 |zero=>intro _;simp[Sst]
 |succ m g =>
  intro J;have g:=g zOm;simp only[Sst];by_cases p:vG po m=some t
  .grind
  .have e:(if m∈S then (⟨fun t=>if vG po m=some t then (stf (m+1)).tm t else (Sst pl po stf S m).tm t,if wAt pl po m=true then (stf (m+1)).mu else (Sst pl po stf S m).mu⟩:St) else Sst pl po stf S m).tm t=(Sst pl po stf S m).tm t:=by
    grind
   rw[e,g];by_cases R:m<j
   .rw [Nat.min_eq_left zOm,Nat.min_eq_left zOm,qh5 l zOm p]
   grind
theorem V2(l:∀(i) (o),po[i]?=some o->j7 P pl ops (stf i) o (stf (i+1)))(S j)(C:∀ k,k<j->wAt pl po k=true->k∈S)(I:∀ k,j<=k->k<po.size->wAt pl po k=true->k ∉ S) :
  ∀ m,m<=po.size->(Sst pl po stf S m).mu=(stf (min m j)).mu:=by
 intro m;induction m with
 |zero=>intro _;simp[Sst]
 |succ m g =>
  intro J;have g:=g zOm;simp only[Sst];by_cases p:wAt pl po m=true
  .grind
  .have e:(if m∈S then (⟨fun t=>if vG po m=some t then (stf (m+1)).tm t else (Sst pl po stf S m).tm t,if wAt pl po m=true then (stf (m+1)).mu else (Sst pl po stf S m).mu⟩:St) else Sst pl po stf S m).mu=(Sst pl po stf S m).mu:=by
    grind
   rw[e,g];by_cases R:m<j
   .rw [Nat.min_eq_left zOm,Nat.min_eq_left zOm,gZ l zOm (zUs p)]
   grind
theorem qh6(S t j)(g:vG po j≠some t):∀ m,(Sst pl po stf (S++[j]) m).tm t=(Sst pl po stf S m).tm t:=by
 intro m;induction m with
 |zero=>rfl
 |succ m i =>
  simp only[Sst];by_cases l:m∈S
  .grind
  grind
theorem qh7(S j)(g:wAt pl po j=false):∀ m,(Sst pl po stf (S++[j]) m).mu=(Sst pl po stf S m).mu:=by
 intro m;induction m with
 |zero=>rfl
 |succ m i =>
  simp only[Sst];by_cases l:m∈S
  .grind
  grind
def OrdC(pl:Pol)(ops po:Array wg)(L:List Nat):Prop:=∀(i k:Nat) x y,i<k->po[i]?=some x->po[k]?=some y->yO pl ops x y=true->Bef L i k
theorem Xe(hs:∀(i) (o),po[i]?=some o->j7 P pl ops (stf i) o (stf (i+1))){ro G0 al w0 n}(s0:Sim G0 al w0.heap)(b0)(b1:∀ k,k<po.size->ops[b0 k]?=po[k]?)(b2:(po.toList.all fun o=>dOk n o.dst)=true){QQ}
    (hQ:∀ a w G,Rel ro G0 al w0 n G (stf po.size) a w->QQ .normal a w) :
    ∀ post pre a w G,OrdC pl ops po (pre++post)->(pre++post).length=po.size->(∀ k,k∈pre++post->k<po.size)->(pre++post).Nodup ->
      Rel ro G0 al w0 n G (Sst pl po stf pre po.size) a w->wpOpsIn (WF ro) 0 P ops QQ (post.map b0) a w:=by
  intro post;induction post with
  |nil =>
    intro pre a w G ht a7 a9 aa r;simp only[yg]at ht a7 a9 aa;simp only[List.map_nil,wpOpsIn];refine hQ a w G ?_;have ai:∀ i,i<po.size->i∈pre:=by
      intro i hi;refine un fun h=>?_
      have h1:(i :: pre).length<=(qs po.size).length:=jm (jX.2 ⟨h,aa⟩) (fun k hk=>by
        grind)
      simp at h1;omega
    have e:Sst pl po stf pre po.size=stf po.size:=by
      have e1:(Sst pl po stf pre po.size).tm=(stf po.size).tm:=by
        funext t;rw[Xd hs pre t po.size (fun k hk _=>ai k hk) (fun k h1 h2 _=>absurd h2 zOm) po.size (qj _),Nat.min_self]
      have e2:(Sst pl po stf pre po.size).mu=(stf po.size).mu:=by
        rw[V2 hs pre po.size (fun k hk _=>ai k hk) (fun k h1 h2 _=>absurd h2 zOm) po.size (qj _),Nat.min_self]
      cases hq:Sst pl po stf pre po.size;simp_all
    rw[<-e];exact r
  |cons j post ih =>
    intro pre a w G ht a7 a9 aa r;have hj:j<po.size:=a9 j zSp;have ag:j ∉ pre:=fun h=>by
      grind
    have ho:po[j]?=some po[j]:=zP1 hj;generalize cl:po[j]=o at ho;have b3:dOk n o.dst=true:=q8.1 b2 o (by grind)
    have C:∀(k:Nat)(x:wg),k<j->po[k]?=some x->yO pl ops x o=true->k∈pre:=fun k x hk l hc=>ht k j x o hk l ho hc pre post rfl
    have ab:∀(i k:Nat)(x y:wg),i<k->po[i]?=some x->po[k]?=some y->yO pl ops x y=true->k∈pre->i∈pre:=by
      intro i k x y bi l hy hc hk;obtain⟨p,q,e⟩:=List.append_of_mem hk;have:=ht i k x y bi l hy hc p (q++j :: post) (by rw[e];simp);rw[e];simp[this]
    have after:∀(k:Nat)(x:wg),j<k->po[k]?=some x->yO pl ops o x=true->k ∉ pre:=fun k x hk l hc bj=>ag (ab j k o x hk ho l hc bj)
    have a0:∀ k t,vG po k=some t->∃ x,po[k]?=some x/\x.dst=some t:=by
      intro k t h;unfold vG at h;cases l:po[k]? with
      |none=>rw[l]at h;exact absurd h zSp
      |some x=>rw[l]at h;exact⟨x,rfl,h⟩
    have a1:∀ k,wAt pl po k=true->∃ x,po[k]?=some x/\memW pl x=true:=by
      intro k h;unfold wAt at h;cases l:po[k]? with
      |none=>rw[l]at h;exact absurd h zSp
      |some x=>rw[l]at h;exact⟨x,rfl,h⟩
    have cm:∀ k (x:wg),po[k]?=some x->j<=k->k≠j->j<k:=fun k x _ h1 h2=>zOm
    have aj:∀ t,t∈wR ops o->(Sst pl po stf pre po.size).tm t=(stf j).tm t:=by
      intro t b4;rw[Xd hs pre t j ?_ ?_ po.size (qj _),Nat.min_eq_right zOm]
      · intro k hk hd
        obtain⟨x,l,a3⟩:=a0 k t hd;exact C k x hk l (by simp[yO,a3,b4])
      · intro k an ao hd
        by_cases a4:k=j
        · subst a4;exact ag
        · obtain⟨x,l,a3⟩:=a0 k t hd
          exact after k x zOm l (by simp[yO,a3,b4])
    have ak:(memW pl o||memR o)=true->reads pl o=false->(Sst pl po stf pre po.size).mu=(stf j).mu:=by
      intro T bk;rw[V2 hs pre j ?_ ?_ po.size (qj _),Nat.min_eq_right zOm]
      · intro k hk hd
        obtain⟨x,l,I⟩:=a1 k hd;refine C k x hk l ?_;simp only[yO,I,T,Bool.and_self,Bool.true_or]
      · intro k an ao hd
        by_cases a4:k=j
        · subst a4;exact ag
        · obtain⟨x,l,I⟩:=a1 k hd
          refine after k x zOm l ?_;have bl:=qh3 (b:=x) bk;simp only[yO,I,bl,Bool.true_or,Bool.and_true,Bool.not_false];simp only[Zp]at T⊢;rcases T with T|T
          · exact .inl (.inl (.inl T))
          · exact .inl (.inl (.inr T))
    have ah:reads pl o=true->∀(ev:zK->AV) v m,DS P pl o ev (stf j).mu v m->DS P pl o ev (Sst pl po stf pre po.size).mu v (Sst pl po stf pre po.size).mu:=by
      intro a5 ev v m aq;have b5:memW pl o=false:=gY a5;have b6:memR o=true:=qh1 a5;have bef:∀ k,k<j->wAt pl po k=true->k∈pre:=by
        intro k hk hd;obtain⟨x,l,I⟩:=a1 k hd;refine C k x hk l ?_;simp only[yO,I,b6,Bool.or_true,Bool.and_self,Bool.true_or]
      obtain⟨J,bm,cn,b7,bn⟩:∃ J,j<=J/\J<=po.size/\(∀ k,k<J->wAt pl po k=true->k∈pre)/\(∀ k,J<=k->k<po.size->wAt pl po k=true->k ∉ pre):=by
        have down:∀ d,d<=po.size-j->(∀ k,po.size-d<=k->k<po.size->wAt pl po k=true->k ∉ pre) \/
            ∃ J,j<=J/\J<=po.size/\(∀ k,k<J->wAt pl po k=true->k∈pre)/\(∀ k,J<=k->k<po.size->wAt pl po k=true->k ∉ pre):=by
          intro d;induction d with
          |zero=>intro _;exact .inl (fun k h1 h2 _=>absurd h2 zOm)
          |succ d bo =>
            intro hd;rcases bo zOm with h|h
            · by_cases hw:wAt pl po (po.size-(d+1))=true/\(po.size-(d+1))∈pre
              · obtain⟨bq,b8⟩:=hw
                refine .inr ⟨po.size-d,zOm,zOm,fun k hk br=>?_,fun k h1 h2 h3=>h k h1 h2 h3⟩;by_cases ar:k=po.size-(d+1)
                · rw[ar];exact b8
                · obtain⟨x,l,I⟩:=a1 k br
                  obtain⟨y,hy,bs⟩:=a1 _ bq;exact ab k _ x y zOm l hy (by simp only[yO,I,bs,Bool.true_or,Bool.and_self]) b8
              · refine .inl (fun k h1 h2 h3 h4=>?_)
                by_cases ar:k=po.size-(d+1)
                · rw[ar]at h3 h4;exact hw ⟨h3,h4⟩
                · exact h k zOm h2 h3 h4
            · exact .inr h
        rcases down (po.size-j) (qj _) with h|h
        · exact⟨j,qj _,zOm,bef,fun k h1 h2 h3=>h k zOm h2 h3⟩
        · exact h
      have bt:(Sst pl po stf pre po.size).mu=(stf J).mu:=by
        rw[V2 hs pre J b7 bn po.size (qj _),Nat.min_eq_right zOm]
      have chain:∀ R,j<=R->R<=J->∀ v m,DS P pl o ev (stf j).mu v m->DS P pl o ev (stf R).mu v (stf R).mu:=by
        intro R;induction R with
        | zero =>
                  intro h1 _ v m h;have:j=0:=zOm;subst this;have:=(h.mem b5).1;rw[this]at h;exact h
        |succ R bu =>
          intro h1 h2 v m h;by_cases he:j=R+1
          · rw[<-he];have:=(h.mem b5).1;rw[this]at h;exact h
          · have a6:=bu zOm zOm v m h
            by_cases hw:wAt pl po R=true
            · have au:=b7 R zOm hw
              obtain⟨x,l,I⟩:=a1 R hw;have cp:j≠R:=fun e=>by rw[<-e]at au;exact ag au
              have av:soft pl o x=true:=by
                refine Decidable.byContradiction fun b9=>after R x zOm l ?_ au
                simp only[yO,b6,I,Bool.not_eq_true]at b9⊢;simp[b9]
              obtain⟨b',cq,bb,bc⟩:=hs R x l;cases b' with
              |true =>
                obtain⟨v',m2,bv,be⟩:=bb rfl;rw[be];have:((stf R).put x.dst v' m2).mu=m2:=by cases x.dst<;>rfl
                rw[this];exact qh4 av bv a6
              | false =>
                         rw[bc rfl];have:((stf R).put x.dst (.sc uk) (stf R).mu).mu=(stf R).mu:=by cases x.dst<;>rfl
                         rw[this];exact a6
            · have:=gZ hs (k:=R) zOm (zUs hw)
              rw[this];exact a6
      rw[bt];exact chain J bm (qj _) v m aq
    have aw:∀ t,o.dst=some t->(Sst pl po stf (pre++[j]) po.size).tm t=(stf (j+1)).tm t:=by
      intro t a2;rw[Xd hs (pre++[j]) t (j+1) ?_ ?_ po.size (qj _),Nat.min_eq_right zOm]
      · intro k hk hd
        by_cases a4:k=j
        · subst a4;simp
        · obtain⟨x,l,a3⟩:=a0 k t hd
          exact qO.2 (.inl (C k x zOm l (by simp[yO,a3,a2])))
      · intro k an ao hd ax
        obtain⟨x,l,a3⟩:=a0 k t hd;rcases qO.1 ax with h|h
        · exact after k x zOm l (by simp[yO,a3,a2]) h
        · simp at h;omega
    have ay:memW pl o=true->(Sst pl po stf (pre++[j]) po.size).mu=(stf (j+1)).mu:=by
      intro T;rw[V2 hs (pre++[j]) (j+1) ?_ ?_ po.size (qj _),Nat.min_eq_right zOm]
      · intro k hk hd
        by_cases a4:k=j
        · subst a4;simp
        · obtain⟨x,l,I⟩:=a1 k hd
          exact qO.2 (.inl (C k x zOm l (by simp[yO,I,T])))
      · intro k an ao hd ax
        obtain⟨x,l,I⟩:=a1 k hd;rcases qO.1 ax with h|h
        · exact after k x zOm l (by simp[yO,I,T]) h
        · simp at h;omega
    have bw:vG po j=o.dst:=by unfold vG;rw[ho];rfl
    have ca:wAt pl po j=memW pl o:=by unfold wAt;rw[ho];rfl
    have ad:∀(v:AV)(m:Mu),(∀ t,o.dst=some t->v=(stf (j+1)).tm t)->(memW pl o=true->m=(stf (j+1)).mu)->(memW pl o=false->m=(Sst pl po stf pre po.size).mu) ->
        (Sst pl po stf pre po.size).put o.dst v m=Sst pl po stf (pre++[j]) po.size:=by
      intro v m h1 h2 h3;have e1:((Sst pl po stf pre po.size).put o.dst v m).tm=(Sst pl po stf (pre++[j]) po.size).tm:=by
        funext t;by_cases a2:o.dst=some t
        · rw[aw t a2,<-h1 t a2,a2];simp[St.put]
        · rw[jQ a2,qh6 pre t j (by rw[bw];exact a2)]
      have e2:((Sst pl po stf pre po.size).put o.dst v m).mu=(Sst pl po stf (pre++[j]) po.size).mu:=by
        cases T:memW pl o with
        |true=>rw[ay T];exact h2 T
        |false=>rw[qh7 pre j (by rw[ca];exact T)];exact h3 T
      cases hq:(Sst pl po stf pre po.size).put o.dst v m;cases cb:Sst pl po stf (pre++[j]) po.size;rw[hq,cb]at e1 e2;simp only at e1 e2;rw[e1,e2]
    obtain⟨b,hb,cc,cd⟩:=hs j o ho;have cf:yB ops (Sst pl po stf pre po.size) o=some b:=by
      rw[<-hb];unfold yB;cases hg:o.guard with
      |none=>rfl
      |some q =>
        obtain⟨k,ck⟩:=q;simp only;cases hd:(ops[k]?).bind (·.dst) with
        |none=>rfl
        |some d =>
          simp only;rw[aj d (by simp[wR,hg,hd])]
    have az:=VX r cf;have ae:∀{U:St}{v:AV}{m:Mu}{t:Tmp},o.dst=some t->(U.put o.dst v m).tm t=v:=by
      intro U v m t h;rw[h];simp[St.put]
    simp only[List.map_cons,wpOpsIn,b1 j hj,ho,az];cases b with
    |false =>
      rw[if_neg zSp];have af:=cd rfl;have e:=ad (.sc uk) (Sst pl po stf pre po.size).mu (fun t h=>by rw[af];exact(ae h).symm) (fun h=>by rw[af,ak (zP1 h) (qh2 h)];rfl) (fun _=>rfl);refine⟨fun _ _=>trivial,ih (pre++[j]) _ _ G (zUs ht) (zUs a7) (zUs a9) (zUs aa) ?_⟩;rw[<-e];exact r.put s0 (Stp.refl r.stp.sim) (.sc _ rfl) b3
    |true =>
      rw[if_pos rfl];obtain⟨v,m,aq,af⟩:=cc rfl;have bg:∀ x,x∈o.op.operands->(stf j).ev x=(Sst pl po stf pre po.size).ev x:=by
        intro x l;cases x with
        |tmp t =>
          refine(aj t ?_).symm;simp only[wR,Xa,qO,List.mem_filterMap];exact .inl ⟨.tmp t,zUs l,rfl⟩
        |const v=>rfl
        |global g=>rfl
        |func f=>rfl
      have a8:=aq.congr bg;have:∃ R,DS P pl o (Sst pl po stf pre po.size).ev (Sst pl po stf pre po.size).mu v R/\(memW pl o=true->R=m)/\(memW pl o=false->R=(Sst pl po stf pre po.size).mu):=by
        by_cases a5:reads pl o=true
        · exact⟨_,ah a5 _ _ _ a8,fun h=>by rw[gY a5]at h;exact absurd h zSp,fun _=>rfl⟩
        simp only[Bool.not_eq_true]at a5;by_cases T:(memW pl o||memR o)=true
        · rw[ak T a5]
          refine⟨m,a8,fun _=>rfl,fun h=>(a8.mem h).1⟩
        · simp only[Zp,not_or,Bool.not_eq_true]at T
          exact⟨_,(a8.mem T.1).2 T.2 _,fun h=>by rw[T.1]at h;exact absurd h zSp,fun _=>rfl⟩
      obtain⟨R,cg,ch,cj⟩:=this;have e:=ad v R (fun t h=>by rw[af];exact(ae h).symm) (fun h=>by rw[ch h,af];rfl) cj;refine VW r.stp.sim r.ev cg ?_ ?_
      · rintro v' cr G' w' u ⟨rfl,rfl⟩ bh hv
        refine ih (pre++[j]) _ _ G' (zUs ht) (zUs a7) (zUs a9) (zUs aa) ?_;rw[<-e];exact r.put s0 bh hv b3
      · intro _ _ _ _ _ h;exact h.elim
end
end
section
variable {ops:Array wg}{pl:Pol}{P:qb}
theorem Xf{i g}:∀ m,Sst pl i g [] m=g 0:=by
 intro m;induction m with
 |zero=>rfl
 |succ m j=>simp_all[Sst]
theorem g7{ro C g I n}(U:Sim C g I.heap)(j:(ops.toList.all fun o=>dOk n o.dst)=true)
  {Q} {Qp} {QQ} (hQ:∀ st a w G,Q st->Rel ro C g I n G st a w->QQ .normal a w) {st} {a} {w} {G} (r:Rel ro C g I n G st a w)
  (L) (l:L.length=ops.size) (J:∀ k,k∈L->k<ops.size) (R:L.Nodup) (p:OrdC pl ops ops L)
  (h:awpS P pl true ops ops.toList Q Qp st):wpOpsIn (WF ro) 0 P ops QQ L a w:=by
 obtain⟨t,e0,hq,hs⟩:=Xc P pl ops ops.toList st h;have T:∀(i:Nat)(o:wg),ops[i]?=some o->j7 P pl ops (t i) o (t (i+1)):=fun i o ho=>hs i o (zUs ho)
 have:=Xe T U (fun i=>i) (fun k _=>rfl) j (fun a w G r=>hQ _ a w G (zUs hq) r) L [] a w G p l J R (by rw[Xf,e0];exact r);simpa using this
theorem qh8{F n}{o:wg}{a K C Q j g}(i:∀ a w,K a w->C a w)(U:∀ I a w,Q (.panic I) a w->j (.panic I) a w)(ho:LetsOut Q->LetsOut j)
  (h:o.uponIn F n P a K Q g):o.uponIn F n P a C j g:=by
 cases g with
 |halt p w=>cases p<;>first|exact h.elim|exact U _ _ _ h
 |ok nx w =>
  cases nx
  case value v=>exact i _ _ h
  case skip=>exact i _ _ h
  case defer d=>exact i _ _ h
  case enter f args =>
   refine⟨h.1,h.2.1,fun cs t=>?_⟩;obtain⟨e,w',fr,hR,J⟩:=h.2.2 cs t
   grind
  case row row args=>exact⟨h.1,h.2.mono fun _ _ t=>i _ _ t⟩
  case round l f R a0 T =>
   refine⟨h.1,RoundIn.mono h.2 fun e w' hR=>?_⟩
   grind
  all_goals exact h.elim
theorem V3{F n QQ}:∀ j g a w,wpOpsIn F n P ops (Exit.then (wpOpsIn F n P ops QQ g) QQ) j a w->wpOpsIn F n P ops QQ (j++g) a w
 | [],g,a,w,h=>h
 |i :: j,g,a,w,h=>by
  simp only[wpOpsIn,yL]at h⊢;cases t:ops[i]? with
  |none =>
   rw[t]at h;exact V3 j g a w h
  |some o =>
   rw[t]at h;simp only at h⊢;split
   .rename_i l
    rw[if_pos l]at h;exact⟨h.1,qh8 (fun a w C=>V3 j g a w C) (fun I a w p=>p) (fun⟨a,w,p⟩=>⟨a,w,p⟩) h.2⟩
   .rename_i l
    rw[if_neg l]at h;exact⟨h.1,V3 j g _ w h.2⟩
theorem g8(n):∀ d L,L.length=n+d->(∀ k,k∈L->k<n+d)->L.Nodup->(∀ j,n<=j->j<n+d->∀ i,i<j->Bef L i j)->∃ I,L=I++List.range' n d/\I.length=n
 | 0,L,o,_,_,_=>⟨L,zSp,zUs o⟩
 |d+1,L,o,U,t,T=>by
  have g:∀ i,i<n+(d+1)->i∈L:=by
   intro i C;refine un fun h=>?_
   have o:(i :: L).length<=(qs (n+(d+1))).length:=jm (jX.2 ⟨h,t⟩) (fun k l=>by
    grind)
   simp at o;omega
  obtain⟨p,q,e⟩:=List.append_of_mem (g (n+d) zOm);have hp:∀ i,i<n+d->i∈p:=fun i C=>T (n+d) zOm zOm i C p q e
  have a0:n+d<=p.length:=by
   have:(qs (n+d)).length<=p.length:=jm List.nodup_range (fun k l=>hp k (zUs l));simpa using this
  have hq:q=[]:=by
   have:=congrArg List.length e;simp at this;exact uP zOm
  subst hq;rw[e]at t;have J:p.Nodup:=(Z2.1 t).1;have P:n+d ∉ p:=fun h=>(Z2.1 t).2.2 _ h _ zSp rfl
  obtain⟨I,a1,a2⟩:=g8 n d p (by grind) (fun k l=>by
   have:=U k (by rw[e];simp[l]);have a3:k≠n+d:=fun h=>P (h ▸ l)
   omega) J (fun j R a4 i C pre post e2=>by
   refine T j R zOm i C pre (post++[n+d]) ?_;rw[e,e2];simp)
  grind [List.range'_concat]
def Xg(pl:Pol)(ops:Array wg)(n:Nat):Bool:=
 jv ops&&decide (n<=ops.size)&&(let g:=uw ops.toList [];(qs ops.size).all fun j=>(qs j).all fun i=>(if n<=j then (g.getD j 0).testBit i else
  match ops[i]?,ops[j]? with|some a,some b=>!yO pl ops a b||(g.getD j 0).testBit i|_,_=>true))
def j8:Nat->wg->List wg->List wg
 |d+1,x,y :: l=>y :: j8 d x l
 |_,x,l=>x :: l
def jE:Nat->Nat->List wg->List wg
 | 0,d,x :: l=>j8 d x l
 |n+1,d,x :: l=>x :: jE n d l
 |_,_,[]=>[]
def mvI(a b k:Nat):Nat:=if k<a then k else if k<b then k+1 else if k=b then a else k
def mvP(a b i:Nat):Nat:=if i<a then i else if i=a then b else if i<=b then i-1 else i
theorem qh9{a b}(h:a<=b)(k):mvI a b (mvP a b k)=k:=by
 unfold mvP;split
 .unfold mvI;rw[if_pos ‹_›]
 .split
  .unfold mvI;rw[zIn,zIn,if_pos rfl];omega
  .split
   .unfold mvI;rw[zIn,if_pos zOm];omega
   .unfold mvI;rw[zIn,zIn,zIn]
theorem qiA{a b}(h:a<=b)(k):mvP a b (mvI a b k)=k:=by
 unfold mvI;split
 .unfold mvP;rw[if_pos ‹_›]
 .split
  .unfold mvP;rw[zIn,zIn,if_pos zOm];omega
  .split
   .unfold mvP;rw[zIn,if_pos rfl];omega
   .unfold mvP;rw[zIn,zIn,zIn]
theorem g9:∀ d x l,(j8 d x l).length=l.length+1
 | 0,x,l=>by simp[j8]
 |d+1,x,[]=>by simp[j8]
 |d+1,x,y :: l=>by simp[j8,g9 d x l]
theorem na:∀ d x l k,d<=l.length->(j8 d x l)[k]?=if k<d then l[k]? else if k=d then some x else l[k-1]?
 | 0,x,l,k,h=>by
  cases k with
  |zero=>simp[j8]
  |succ k=>simp[j8]
 |d+1,x,[],k,h=>by simp at h
 |d+1,x,y :: l,k,h=>by
  cases k with
  |zero=>simp[j8]
  |succ k =>
   simp only[j8,uj];rw[na d x l k (zUs h)];by_cases g:k<d
   .simp [g]
   .by_cases i:k=d
    .simp [i]
    .obtain ⟨m,rfl⟩:∃ m,k=m+1:=⟨k-1,zOm⟩
     simp[g,i]
theorem Xh:∀ a d l,(jE a d l).length=l.length
 | 0,d,x :: l=>by simp[jE,g9]
 |n+1,d,x :: l=>by simp[jE,Xh n d l]
 | 0,d,[]=>rfl
 |n+1,d,[]=>rfl
theorem ng:∀ a d l k,a+d<l.length->(jE a d l)[k]?=l[mvI a (a+d) k]?
 | 0,d,[],k,h=>by simp at h
 |n+1,d,[],k,h=>by simp at h
 | 0,d,x :: l,k,h=>by
  simp only[jE];rw[na d x l k (by simp at h;omega)];unfold mvI;by_cases g:k<d
  .simp [g]
  .by_cases i:k=d
   .simp [i]
   .obtain ⟨m,rfl⟩:∃ m,k=m+1:=⟨k-1,zOm⟩
    simp[g,i]
 |n+1,d,x :: l,k,h=>by
  cases k with
  |zero=>simp[jE,mvI]
  |succ k =>
   simp only[jE,uj];rw[ng n d l k (by simp at h;omega)];have:mvI (n+1) (n+1+d) (k+1)=mvI n (n+d) k+1:=by
    unfold mvI;rw[show n+1+d=n+d+1 by omega];simp only[Nat.add_lt_add_iff_right,Nat.add_right_cancel_iff];split
    .rfl
    .split
     .rfl
     .split<;>rfl
   rw[this,uj]
def nh(P:qb)(pl:Pol)(ops:Array wg)(Q:St->Prop)(g:AV->St->Prop)(st:St):Prop:=
 (Jy pl ops=true/\awpS P pl true ops ops.toList Q g st) \/
 (∃ n,Xg pl ops n=true/\awpS P pl true ops (ops.toList.take n) (fun st=>awpS P pl false ops (ops.toList.drop n) Q g st) g st) \/
 (∃ a d,VZ pl ops a (a+d)=true/\0<d/\a+d<ops.toList.length/\awpS P pl true ops ops.toList Q g st/\awpS P pl true ops (jE a d ops.toList) Q g st)
theorem qiB{ro G0 a6 w0 n}(s0:Sim G0 a6 w0.heap)(J:(ops.toList.all fun o=>dOk n o.dst)=true)
  {Q} {Qp} {QQ} (hQ:∀ st a w G,Q st->Rel ro G0 a6 w0 n G st a w->QQ .normal a w)
  (ah:∀ v st a w G u,Qp v st->Rel ro G0 a6 w0 n G st a w->VRel G w.heap v u->QQ (.panic [{ v:=u,recovered:=false }]) a w) {st} {a} {w} {G} (r:Rel ro G0 a6 w0 n G st a w)
  (h:nh P pl ops Q Qp st) (C) (t):wpOpsIn (WF ro) 0 P ops QQ (Region.schedule C ops t) a w:=by
 have a4:∀(l:jv ops=true),Topo ops (Region.schedule C ops t)/\(Region.schedule C ops t).length=ops.size/\(∀ k,k∈Region.schedule C ops t->k<ops.size)/\(Region.schedule C ops t).Nodup:=by
  intro l;obtain⟨h1,h2⟩:=gQ l C t;obtain⟨h3,h4⟩:=s8 l _ _ rfl h1;exact⟨h1,h2,fun k I=>(h3 k I).1,h4⟩
 rcases h with ⟨U,h⟩|⟨m,U,hA⟩|⟨g,d,U,hd,a7,hA,hB⟩
 .obtain ⟨l,T⟩:=qhT U
  obtain⟨h1,h2,h3,h4⟩:=a4 l;exact g7 s0 J hQ r _ h2 h3 h4 (fun i k x y a2 hx hy hc=>h1.bef l (T i k x y a2 hx hy hc)) h
 .unfold Xg at U
  rw[qD,qD,decide_eq_true_eq]at U;obtain⟨⟨l,ax⟩,T⟩:=U;obtain⟨h1,h2,h3,h4⟩:=a4 l;generalize Region.schedule C ops t=L at *
  simp only[q8,ye]at T;have ai:∀ j,m<=j->j<m+(ops.size-m)->∀ i,i<j->Bef L i j:=by
   intro j aj ay i hi;have:=T j zOm i hi;rw[if_pos aj]at this;exact h1.bef l this
  obtain⟨L1,hL,ak⟩:=g8 m (ops.size-m) L zOm (fun k I=>zW1 (h3 k I)) h4 ai;have ab:L1.Nodup:=by rw[hL]at h4;exact(Z2.1 h4).1
  have ad:∀ k,k∈L1->k<m:=by
   intro k I;have az:=h3 k (by rw[hL];simp[I]);refine un fun b0=>?_
   rw[hL]at h4;exact(Z2.1 h4).2.2 k I k (by simp[List.mem_range'];exact⟨k-m,zOm,zOm⟩) rfl
  rw[hL];refine V3 L1 _ a w ?_;obtain⟨a3,e0,hq,hs⟩:=Xc P pl ops (ops.toList.take m) st hA;have a1:(ops.toList.take m).toArray.size=m:=zSo;have R:∀ k,k<m->(ops.toList.take m).toArray[k]?=ops[k]?:=by
   intro k I;simp[I]
  have aa:∀(i:Nat)(o:wg),(ops.toList.take m).toArray[i]?=some o->j7 P pl ops (a3 i) o (a3 (i+1)):=fun i o ho=>hs i o (zUs ho)
  have key:=Xe (QQ:=Exit.then (wpOpsIn (WF ro) 0 P ops QQ (List.range' m (ops.size-m))) QQ) aa s0 (fun i=>i) (fun k I=>(R k zOm).symm) ?_ (fun a w G r=>?_) L1 [] a w G ?_ (by simpa[a1] using ak) (fun k I=>by rw[a1];exact ad k (zUs I)) (zUs ab) (by rw[Xf,e0];exact r)
  .simpa using key
  .rw [q8]at J⊢
   intro o ho;exact J o (List.mem_of_mem_take (zUs ho))
  .have al:awpS P pl false ops (ops.toList.drop m) Q Qp (a3 (ops.toList.take m).toArray.size):=by simpa using hq
   have ae:=VY s0 hQ ah (ops.toList.drop m) _ a w G r (by
    rw[q8]at J⊢;intro o ho;exact J o (List.mem_of_mem_drop ho)) al
   have e:wpOpsIn (WF ro) 0 P ops QQ (List.range' m (ops.size-m))=wpListIn (WF ro) 0 P ops QQ (ops.toList.drop m):=by
    have:=wpOpsIn_eq_wpListIn (F:=WF ro) (n:=0) (P:=P) (ops:=ops) (Q:=QQ) (ops.toList.drop m) m (fun j=>zSp);simpa using this
   show wpOpsIn (WF ro) 0 P ops QQ (List.range' m (ops.size-m)) a w;rw[e];exact ae
  .simp only[jk]
   intro i k x y a2 hx hy hc pre post e;have I:k<m:=by have:=(yA.1 hy).1;omega
   rw[R i zOm]at hx;rw[R k I]at hy;have a5:=T k zOm i a2;rw[zIn,hx,hy]at a5;simp only[hc,Bool.not_true,Bool.false_or]at a5;exact h1.bef l a5 pre (post++List.range' m (ops.size-m)) (by rw[hL,e];simp)
 .obtain ⟨l,T,af⟩:=qhU U
  obtain⟨h1,h2,h3,h4⟩:=a4 l;generalize Region.schedule C ops t=L at *
  have a8:∀ i,i<ops.size->i∈L:=by
   intro i hi;refine un fun h=>?_
   have h1:(i :: L).length<=(qs ops.size).length:=jm (jX.2 ⟨h,h4⟩) (fun k I=>by
    rcases qy.1 I with rfl|I
    .simpa using hi
    .simpa using (h3 k I))
   simp at h1;omega
  have ag:g+d<ops.size:=zUs a7;rcases s6 (a8 g zOm) (a8 (g+d) ag) zOm with hb|hb
  .refine g7 s0 J hQ r _ h2 h3 h4 (fun i k x y a2 hx hy hc=>?_) hA
   by_cases he:i=g/\k=g+d
   .rw [he.1,he.2];exact hb
   .exact h1.bef l (T i k x y a2 he hx hy hc)
  .obtain ⟨a3,e0,hq,hs⟩:=Xc P pl ops (jE g d ops.toList) st hB
   have R:∀ k:Nat,(jE g d ops.toList).toArray[k]?=ops[mvI g (g+d) k]?:=by
    intro k;have:=ng g d ops.toList k a7;simpa using this
   have a1:(jE g d ops.toList).toArray.size=ops.size:=by simp[Xh]
   have aa:∀(i:Nat)(o:wg),(jE g d ops.toList).toArray[i]?=some o->j7 P pl ops (a3 i) o (a3 (i+1)):=fun i o ho=>hs i o (zUs ho)
   have e1:∀ k,mvI g (g+d) (mvP g (g+d) k)=k:=qh9 zOm;have e2:∀ k,mvP g (g+d) (mvI g (g+d) k)=k:=qiA zOm;have an:∀ k,k<ops.size->mvP g (g+d) k<ops.size:=by
    intro k I;unfold mvP;split
    .exact I
    .split
     .exact ag
     .split<;>omega
   have key:=Xe (QQ:=QQ) aa s0 (mvI g (g+d)) (fun k _=>(R k).symm) ?_ (fun a w G r=>hQ _ a w G (zUs hq) r) (L.map (mvP g (g+d))) [] a w G ?_ (by simpa[Xh] using h2) ?_ ?_ (by rw[Xf,e0];exact r)
   .simpa [List.map_map,Function.comp_def,e1] using key
   .rw [q8]at J⊢
    intro o ho;obtain⟨k,I⟩:=List.mem_iff_getElem?.1 ho;have:ops[mvI g (g+d) k]?=some o:=by rw[<-R];simpa using I
    exact J o (by have:=Array.mem_of_getElem? this;simpa using this)
   .simp only[jk]
    intro i k x y a2 hx hy hc p q e;rw[R]at hx hy;have ao:Bef L (mvI g (g+d) i) (mvI g (g+d) k):=by
     by_cases I:k=g+d
     .have ek:mvI g (g+d) k=g:=by unfold mvI;rw[zIn,zIn,if_pos I]
      rw[ek]at hy⊢;by_cases hi:i<g
      .have ei:mvI g (g+d) i=i:=by unfold mvI;rw[if_pos hi]
       rw[ei]at hx⊢;exact h1.bef l (T i g x y hi zOm hx hy hc)
      .have ei:mvI g (g+d) i=i+1:=by unfold mvI;rw[if_neg hi,if_pos zOm]
       rw[ei]at hx⊢;by_cases aq:i+1=g+d
       .rw [aq];exact hb
       .rw [af (i+1) x y zOm zOm hx hy]at hc
        exact absurd hc zSp
     .by_cases hi:i=g+d
      .have ei:mvI g (g+d) i=g:=by unfold mvI;rw[zIn,zIn,if_pos hi]
       have ek:mvI g (g+d) k=k:=by unfold mvI;rw[zIn,zIn,if_neg I]
       rw[ei]at hx⊢;rw[ek]at hy⊢;exact h1.bef l (T g k x y zOm zOm hx hy hc)
      .have ar:mvI g (g+d) i<mvI g (g+d) k:=by
        unfold mvI;rw[if_neg I,if_neg hi];split<;>split<;>(try split)<;>(try split)<;>omega
       have au:mvI g (g+d) i≠g:=by
        unfold mvI;rw[if_neg hi];split
        .omega
        .split<;>omega
       exact h1.bef l (T _ _ x y ar (fun h=>au h.1) hx hy hc)
    have e':L=p.map (mvI g (g+d))++mvI g (g+d) k :: q.map (mvI g (g+d)):=by
     have:=congrArg (List.map (mvI g (g+d))) e;simpa[List.map_map,Function.comp_def,e1] using this
    have:=ao _ _ e';obtain⟨z,hz,av⟩:=qn.1 this;have:z=i:=by have:=congrArg (mvP g (g+d)) av;rwa[e2,e2]at this
    exact this ▸ hz
   .intro k I
    simp only[jk,qn]at I;obtain⟨z,hz,rfl⟩:=I;rw[a1];exact an z (h3 z hz)
   .simp only[jk]
    exact List.Pairwise.map _ (fun x y aw e=>aw (by have:=congrArg (mvI g (g+d)) e;rwa[e1,e1]at this)) h4
end
end Go.Ev
namespace Go.Ev
open Go Go.RowKit
theorem qF.congr{P pl det j op ev ev' mu K C}(h:qF P pl det j op ev mu K C)(g:∀ x,x∈op.operands->ev x=ev' x):qF P pl det j op ev' mu K C:=by
 cases op<;>simp only[qF,Op.operands]at h g⊢<;>try (exact h.elim)
 case move x=>grind
 case assign x=>grind
 case makeFunc f first I =>
  grind [Yd]
 case pick c x y=>grind
 case alloc=>exact h
 case box t x=>grind
 case build t J=>rw[<-V0 g];exact h
 case buildSlice t n J=>rw[<-V0 g];exact h
 case load t x=>grind
 case store t x y=>grind
 case nilCheck x=>grind
 case binOp op t x y yt=>grind
 case unOp op t x=>grind
 case convert s t x=>grind
 case makeInterface t x=>grind
 case makeSlice t x y=>grind
 case slice t x R T U =>
  rw[<-g x zSp,<-V1 (o:=R) (fun y p=>g y (by simp only[Array.mem_append];exact .inl (.inl (.inr p)))),
   <-V1 (o:=T) (fun y p=>g y (by simp only[Array.mem_append];exact .inl (.inr p))),<-V1 (o:=U) (fun y p=>g y (by simp only[Array.mem_append];exact .inr p))]
  exact h
 case fieldAddr t x f=>grind
 case field t x f=>grind
 case indexAddr t x i=>grind
 case index t x i=>grind
 case extract x i=>grind
 case typeAssert x xt t ok=>grind
 case makeMap=>exact h
 case lookup t m k ok=>grind
 case mapUpdate t m k v=>grind
 case insert t m k v=>grind
 case mapEntry t m k=>grind
 case entryStore t m k v=>grind
 case range t m=>grind
 case next i str=>grind
 case entry i=>grind
 case panic x=>grind
 case call c =>
  obtain⟨callee,args,a0⟩:=c;cases callee with
  |invoke r m=>exact h.elim
  |value f =>
   grind [Call.operands,Yd]
  |builtin b =>
   simp only[Call.operands]at g;simp only at h⊢;rw[<-Yd (l:=args) (fun x hx=>g x (zP1 hx))];exact h
def qiC(o:wg):Bool:=
 match o.op with
 | .call c=>match c.callee with | .builtin .len | .builtin .cap | .builtin .min | .builtin .max=>false|_=>true
 | .panic _ | .next .. => true
 |_=>false
def yc(ops:Array wg)(i:Nat):Option Tmp:=(ops[i]?).bind (·.dst)
def jF(ops:Array wg)(i:Nat)(t:Tmp):Bool:=match ops[i]? with|some o=>(wR ops o).contains t|none=>false
def Xi(ops:Array wg)(i:Nat):Bool:=match ops[i]? with|some o=>memR o|none=>false
def Ye(st:St)(d:Tmp)(mu:Mu):AV->Mu->Prop:=fun v m=>v=st.tm d/\m=mu
def noK:AV->Mu->Prop:=fun _ _=>False
end Go.Ev
namespace Go.Ev
open Go Go.RowKit
section
variable {a:Act}{ops:Array wg}{G:Gh}{O g:List Nat}{i:Nat}{o:wg}{pl:Pol}{P:qb}{st:St}{w:qf}
def Zz(o:wg):Bool:=match o.op with | .alloc _=>true|_=>false
def Jz(pl:Pol)(o:wg):Nat:=if Zz o then 2 else if memW pl o||qiC o then 1 else 0
def zN(pl:Pol)(ops:Array wg)(i:Nat):Nat:=match ops[i]? with|some o=>Jz pl o|none=>0
def pend(pl:Pol)(ops:Array wg)(pre:List Nat)(j:Nat):List Nat:=pre.filter fun p=>zN pl ops p == 0&&(Xi ops p&&!(yW ops j).testBit p)
def V4(pl:Pol)(ops:Array wg):List Nat->List Nat->Bool
 |_,[]=>true
 |pre,j :: O=>(!pre.contains j&&((qs ops.size).all fun i=>match yc ops i with|some d=>!jF ops j d||pre.contains i|none=>true)) &&
   ((zN pl ops j == 2||pre.all fun i=>zN pl ops i == 0||(yW ops j).testBit i)&&V4 pl ops (pre++[j]) O)
def V5(pl:Pol)(ops:Array wg)(O:List Nat):Bool:=
 (jv ops&&(ops.toList.all fun o=>!Zz o||o.guard.isNone))&&((O.all fun i=>decide (i<ops.size))&&((qs ops.size).all fun i=>O.contains i)) &&
 (((qs ops.size).all fun i=>match yc ops i with
  |some d=>(qs ops.size).all fun j=>(i == j||yc ops j != some d)&&(!jF ops j d||(yW ops j).testBit i)
  |none=>zN pl ops i == 1)&&V4 pl ops [] O)
structure uX (pl:Pol) (ops:Array wg) (O:List Nat):Prop where
 edges:jv ops=true
 guards:∀(i:Nat)(o:wg),ops[i]?=some o->Zz o=true->o.guard=none
 lt:∀ i,i∈O->i<ops.size
 all:∀ i,i<ops.size->i∈O
 du:∀ i j d,i<ops.size->j<ops.size->yc ops i=some d->(i≠j->yc ops j≠some d)/\(jF ops j d=true->(yW ops j).testBit i=true)
 dn:∀ i,i<ops.size->yc ops i=none->zN pl ops i=1
 ord:∀(PO lO:List Nat)(j:Nat),O=PO++j :: lO->j ∉ PO/\(∀ i d,i<ops.size->yc ops i=some d->jF ops j d=true->i∈PO)/\(zN pl ops j≠2->∀ i,i∈PO->zN pl ops i≠0->(yW ops j).testBit i=true)
theorem nj:∀ O pre,V4 pl ops pre O=true->∀ g l j,O=g++j :: l ->
  j ∉ pre++g/\(∀ i d,i<ops.size->yc ops i=some d->jF ops j d=true->i∈pre++g)/\(zN pl ops j≠2->∀ i,i∈pre++g->zN pl ops i≠0->(yW ops j).testBit i=true)
 | [],pre,h,g,l,j,e=>by cases g<;>simp at e
 |k :: O,pre,h,g,l,j,e=>by
  simp only[V4,qD]at h;obtain⟨⟨t,C⟩,I,o⟩:=h;cases g with
  |nil =>
   grind
  |cons p g =>
   simp only[yL,uc]at e;obtain⟨rfl,e⟩:=e;have:=nj O (pre++[k]) o g l j e;simpa using this
theorem qiD(h:V5 pl ops O=true):uX pl ops O:=by
 unfold V5 at h;simp only[qD]at h;obtain⟨⟨⟨C,l⟩,p,t⟩,I,J⟩:=h;simp only[q8,ye]at l p t I;refine⟨C,fun i o ho P=>?_,fun i g=>by simpa using p i g,fun i g=>by simpa using t i g,fun i j d g hj R=>?_,fun i g R=>?_,fun T U j e=>?_⟩
 .have:=l o (by grind)
  rw[P]at this;simpa using this
 .grind
 .grind
 .have:=nj O [] J T U j e
  simpa using this
def JA(P:qb)(pl:Pol)(o:wg)(st:St):Prop:=qF P pl true o.dst o.op st.ev st.mu (match o.dst with|some d=>Ye st d st.mu|none=>noK) noK
def ux(P:qb)(pl:Pol)(ops:Array wg):List Nat->St->Prop
 | [],_=>True
 |p :: l,U=>(match ops[p]? with|some o=>OptK (yB ops U o) fun b=>Br b (JA P pl o U) True|none=>True)/\ux P pl ops l U
theorem Xj:∀{l},ux P pl ops l st->∀{i o d},i∈l->ops[i]?=some o->o.dst=some d->yB ops st o=some true->DS P pl o st.ev st.mu (st.tm d) st.mu
 | [],_,i,_,_,p,_,_,_=>absurd p qK
 |j :: l,h,i,o,d,p,C,I,J=>by
  obtain⟨g,R⟩:=h;rcases qy.1 p with rfl|p
  .rw [C]at g
   obtain⟨b,t,g,_⟩:=g;rw[J]at t;have g:JA P pl o st:=g (by cases t;rfl);unfold JA at g;have e:(match o.dst with|some d=>Ye st d st.mu|none=>noK)=Ye st d st.mu:=by rw[I]
   rw[e]at g;exact g
  .exact Xj R p C I J
def plan(pl:Pol)(ops:Array wg):List Nat->List Nat->List (Nat×Nat×List Nat)
 |_,[]=>[]
 |pre,j :: O=>(j,zN pl ops j,if zN pl ops j=0 then [] else pend pl ops pre j) :: plan pl ops (pre++[j]) O
def wS(P:qb)(ops:Array wg):List (Nat×Nat×List Nat)->Prop
 | []=>True
 | (j,k,_) :: T=>(match k,ops[j]? with|2,some o=>(match o.op with | .alloc e=>OptK (qC P e) fun z=>z.cells.all AV.one=true|_=>False)|_,_=>True)/\wS P ops T
def awpT(P:qb)(pl:Pol)(ops:Array wg)(Q:St->Prop)(g:AV->St->Prop):List (Nat×Nat×List Nat)->St->Prop
 | [],U=>Q U
 | (j,k,r) :: T,U=>match ops[j]? with
  |none=>False
  |some o=>OptK (yB ops U o) fun b=>Br b (qF P pl (k != 1) o.dst o.op U.ev U.mu (fun v m=>ux P pl ops r (U.put o.dst v m)/\awpT P pl ops Q g T (U.put o.dst v m)) (fun v m=>k=1/\∀ i,g v ⟨i,m⟩)) (awpT P pl ops Q g T (U.put o.dst (.sc uk) U.mu))
def SegA(P:qb)(pl:Pol)(ops:Array wg)(Q:St->Prop)(g:AV->St->Prop)(st:St):Prop:=
 ∃ O,V5 pl ops O=true/\wS P ops (plan pl ops [] O)/\awpT P pl ops Q g (plan pl ops [] O) st
theorem s9{ro G0 a8 w0 n}(r:Rel ro G0 a8 w0 n G st a w){d:Tmp}{b e zv}(h1:(ofV zv).cells.all AV.one=true)
  (ht:a.tmps.getD d uk = .pointer (some ⟨b,0,none⟩)) (hb:w.heap[b]?=some (.cells zv.cells e)) (a2:w0.heap.size<=b) (hl:¬Live G st.mu b) (I:¬G.imm b) :
  Rel ro G0 a8 w0 n ⟨G.imm,G.blk++[(b,zv.cells.size)]⟩ (st.put (some d) (.ptr st.mu.length 0) (st.mu++[.arr (ofV zv).cells])) a w:=by
 have s:=r.stp.sim;have a1:=s.len;have J:G.le ⟨G.imm,G.blk++[(b,zv.cells.size)]⟩:=⟨fun b h=>h,fun i x h=>by
  grind⟩
 have he:=Ext.refl G w.heap;have o:∀{i:Nat}{c':Cell}{g C:Nat},i<st.mu.length->(G.blk++[(b,zv.cells.size)])[i]?=some (g,C)->G.blk[i]?=some (g,C):=fun {i c' g C} I hk=>by
  grind
 have new:∀{i g C:Nat},i=st.mu.length->(G.blk++[(b,zv.cells.size)])[i]?=some (g,C)->(g,C)=(b,zv.cells.size):=fun {i g C} I hk=>by
  grind
 have P:∀ x,Live ⟨G.imm,G.blk++[(b,zv.cells.size)]⟩ (st.mu++[.arr (ofV zv).cells]) x->Live G st.mu x\/x=b:=fun x ⟨i,c',t',hc,hd,hk⟩=>by
  rcases yk hc with ⟨I,l⟩|⟨I,l⟩
  .exact .inl ⟨i,c',t',l,hd,o (c':=c') I hk⟩
  grind
 have a3:ud G w.heap zv.cells.size (.cells zv.cells e) (.arr (ofV zv).cells):=by
  have hv:VRel G w.heap (ofV zv) zv:=VRel.ofV zv;obtain⟨ag,T,_⟩:=hv.cells (fun c hc=>by simpa using q8.1 h1 c hc);exact⟨zv.cells,e,rfl,rfl,zOm,fun j y hj=>⟨by grind,T j y hj⟩⟩
 have a9:Sim ⟨G.imm,G.blk++[(b,zv.cells.size)]⟩ (st.mu++[.arr (ofV zv).cells]) w.heap:=by
  refine⟨zP1 a1,s.imm,?_,?_,?_,s.tab⟩
  .intro i c' g R hc hd hk
   rcases yk hc with ⟨I,l⟩|⟨I,l⟩
   .obtain ⟨o',q1,q2⟩:=s.obj i c' g R l hd (o (c':=c') I hk)
    exact⟨o',q1,q2.mono J he⟩
   .obtain ⟨rfl,rfl⟩:=Prod.mk.inj (new I hk)
    subst l;exact⟨_,hb,a3.mono J he⟩
  .intro i c' g R hc hd hk aa
   rcases yk hc with ⟨I,l⟩|⟨ab,l⟩
   .exact s.live i c' g R l hd (o (c':=c') I hk) aa
   grind
  .intro i j ci cj x ti tj ab af ad ae a4 a5
   rcases yk ab with ⟨U,a6⟩|⟨U,a6⟩<;>rcases yk af with ⟨a0,a7⟩|⟨a0,a7⟩
   .exact s.inj i j ci cj x ti tj a6 a7 ad ae (o (c':=ci) U a4) (o (c':=cj) a0 a5)
   .have a:=o (c':=ci) U a4
    have c:=new a0 a5;obtain⟨rfl,_⟩:=Prod.mk.inj c;exact absurd ⟨i,ci,ti,a6,ad,a⟩ hl
   .have a:=o (c':=cj) a0 a5
    have c:=new U a4;obtain⟨rfl,_⟩:=Prod.mk.inj c;exact absurd ⟨j,cj,tj,a7,ae,a⟩ hl
   .omega
 refine⟨fun t=>?_,fun h=>?_,r.size,⟨r.stp.le.trans J,a9,r.stp.keep,r.stp.size,fun x hx=>?_,r.stp.inew,r.stp.tape,r.stp.os,r.stp.output,r.stp.drawn⟩,fun p hp=>(r.kp p hp).mono J he⟩
 .by_cases e:t=d
  .subst e
   have:(st.put (some t) (.ptr st.mu.length 0) (st.mu++[.arr (ofV zv).cells])).tm t = .ptr st.mu.length 0:=by simp[St.put]
   rw[this,ht];refine .ptr _ _ _ zv.cells.size ?_;show (G.blk++[_])[st.mu.length]?=_;rw[<-a1];simp
  .rw [jQ (fun h=>e (by cases h;rfl))]
   exact(r.tm t).mono J he
 .obtain ⟨Ds,q1,q2,q3⟩:=r.df h
  refine⟨Ds,q1,q2,fun D hD=>⟨(q3 D hD).1,(q3 D hD).2.obj,fun hx=>?_,(q3 D hD).2.nimm⟩⟩;rcases P D hx with hx|rfl
  .exact (q3 D hD).2.nlive hx
  .have:=(q3 D hD).2.obj
   rw[hb]at this;cases this
 .rcases P x hx with hx|rfl
  .exact r.stp.live x hx
  .exact .inr a2
def behind(pl:Pol)(ops:Array wg)(g j pre:List Nat)(t:Tmp):Prop:=(∃ i,i∈g/\i ∉ pre/\yc ops i=some t)\/∃ i,i∈j/\zN pl ops i=2/\yc ops i=some t
open Classical in
noncomputable def jw(pl:Pol)(ops:Array wg)(g i pre:List Nat)(st:St):St:=⟨fun t=>if behind pl ops g i pre t then .any else st.tm t,st.mu⟩
theorem vH{i pre t}(h:¬behind pl ops g i pre t):(jw pl ops g i pre st).tm t=st.tm t:=by
 unfold jw;simp only;rw[if_neg h]
theorem Yf{i pre t}(h:behind pl ops g i pre t):(jw pl ops g i pre st).tm t = .any:=by
 unfold jw;simp only;rw[if_pos h]
structure AlF (P:qb) (ops:Array wg) (G:Gh) (mu:Mu) (base:Nat) (a:Act) (w:qf) (i b:Nat):Prop where
 x:∃(o:wg) (e:qd) (d:Tmp) (zv:qq),ops[i]?=some o/\o.op = .alloc e/\o.dst=some d/\qC P e=some (ofV zv)/\a.tmps.getD d uk = .pointer (some ⟨b,0,none⟩)/\w.heap[b]?=some (.cells zv.cells e)
 base:base<=b
 nl:¬Live G mu b
 ni:¬G.imm b
theorem AlF.lt{mu base b}(h:AlF P ops G mu base a w i b):b<w.heap.size:=by
 obtain⟨o,e,d,g,_,_,_,_,_,j⟩:=h.x
 grind
theorem AlF.step{G' mu mu' base C w' b}(h:AlF P ops G mu base a w i b)(t:Stp G mu w G' mu' w')(ht:∀ d,yc ops i=some d->C.tmps.getD d uk=a.tmps.getD d uk):AlF P ops G' mu' base C w' i b:=by
 have l:=h.lt;obtain⟨o,e,d,I,J,p,R,T,hp,U⟩:=h.x;refine⟨⟨o,e,d,I,J,p,R,T,?_,?_⟩,h.base,fun j=>?_,fun g=>?_⟩
 .grind [yc]
 .rw [t.keep b l h.nl];exact U
 .rcases t.live b j with j|j
  .exact h.nl j
  .omega
 .rcases t.inew b g with g|g|g
  .exact h.ni g
  .exact h.nl g
  .omega
theorem Rel.weak{ro j i l n g}(r:Rel ro j i l n G st a w)(o:g.mu=st.mu)(p:∀ t,g.tm t = .any\/g.tm t=st.tm t):Rel ro j i l n G g a w:=by
 refine⟨fun t=>?_,fun h=>by rw[o];exact r.df h,r.size,by rw[o];exact r.stp,r.kp⟩;rcases p t with e|e
 .rw [e];exact .any _
 .rw [e];exact r.tm t
def DG(P:qb)(pl:Pol)(ops:Array wg)(o:wg)(st:St)(d:Tmp)(m:Mu):Prop:=∃ b,yB ops st o=some b/\(b=true->DS P pl o st.ev m (st.tm d) m)/\(b=false->st.tm d = .sc uk)
theorem DG.re{d m g}(h:DG P pl ops o st d m)(l:memW pl o=false)(p:memR o=true->yB ops st o=some true->DS P pl o st.ev g (st.tm d) g):DG P pl ops o st d g:=by
 obtain⟨b,i,t,C⟩:=h;refine⟨b,i,fun e=>?_,C⟩;subst e;cases j:memR o with
 |true=>exact p j i
 |false=>exact((t rfl).mem l).2 j g
theorem V6{g}(h:∀ t,(wR ops o).contains t=true->g.tm t=st.tm t):yB ops g o=yB ops st o:=by
 grind [yB,bind,wR]
theorem qiE(h:o.guard=none):yB ops st o=some true:=by
 unfold yB;rw[h]
structure SegI (P:qb) (pl:Pol) (ops:Array wg) (O:List Nat) (ro:Ro) (G0:Gh) (mu0:Mu) (w0:qf) (n:Nat) (Q:St->Prop) (Qp:AV->St->Prop) (pre:List Nat) (a:Act) (w:qf) (PO lO:List Nat) (st:St) (G:Gh) (B:Nat->Nat):Prop where
 split:O=PO++lO
 awp:awpT P pl ops Q Qp (plan pl ops PO lO) st
 s:∀ i,i∈PO->zN pl ops i≠0->i∈pre
 d:∀ i,i∈pre->zN pl ops i≠2->i∈PO
 p:∀ i o d,i∈PO->i ∉ pre->ops[i]?=some o->o.dst=some d->DG P pl ops o st d st.mu
 al:∀ i,i∈lO->i∈pre->AlF P ops G st.mu w0.heap.size a w i (B i)
 inj:∀ i j,i∈lO->j∈lO->i∈pre->j∈pre->i≠j->B i≠B j
 rel:Rel ro G0 mu0 w0 n G (jw pl ops PO lO pre st) a w
theorem V7{k}(g:ops[k]?=some o){t}(i:Operand.tmp t∈o.op.operands):jF ops k t=true:=by
 simp only[jF,g,List.contains_iff_mem,wR,Xa,qO,List.mem_filterMap];exact .inl ⟨.tmp t,zUs i,rfl⟩
theorem uX.disj{j}(K:uX pl ops O)(h:O=g++j){i}(l:i∈j):i ∉ g:=by
 obtain⟨s,t,rfl⟩:=List.append_of_mem l;have:=(K.ord (g++s) t i (by rw[h];simp)).1
 grind
theorem uX.rd{j}(K:uX pl ops O)(h:O=j++g){i e d}(o:i∈j)(l:e∈g)(p:yc ops e=some d):jF ops i d=false:=by
 cases C:jF ops i d with
 |false=>rfl
 |true =>
  obtain⟨s,t,rfl⟩:=List.append_of_mem o;have:=(K.ord s (t++g) i (by rw[h];simp)).2.1 e d (K.lt e (by rw[h];simp[l])) p C;exact absurd (y6 _ this) (K.disj h l)
theorem Xk(g:ops[i]?=some o)(h:zN pl ops i=0):memW pl o=false:=by
 unfold zN at h;rw[g]at h;simp only[Jz]at h
 grind
theorem qiF(g:ops[i]?=some o)(h:zN pl ops i=2):∃ e,o.op = .alloc e:=by
 grind [zN,Jz,Zz]
theorem nq(pl ops i):zN pl ops i=0\/zN pl ops i=1\/zN pl ops i=2:=by
 unfold zN;split
 .unfold Jz
  split
  .exact .inr (.inr rfl)
  grind
 .exact .inl rfl
section
variable {P:qb} {pl:Pol} {ops:Array wg} {O:List Nat} {ro:Ro} {G0:Gh} {mu0:Mu} {w0:qf} {n:Nat} {Q:St->Prop} {Qp:AV->St->Prop} {pre:List Nat} {a:Act} {w:qf}
theorem fS(K:uX pl ops O){PO lO e}(I:O=PO++e :: lO){st:St}{i o j}{d:Tmp}(R:i∈PO)(ho:ops[i]?=some o)(T:ops[e]?=some j)(hd:o.dst=some d){m J v}(h:DS P pl o st.ev m (st.tm d) m) :
  DS P pl o (st.put j.dst v J).ev m ((st.put j.dst v J).tm d) m:=by
 have l:e∈e :: lO:=qZ ..;have U:i≠e:=fun h=>K.disj I l (h ▸ R)
 have a0:i<ops.size:=K.lt i (by rw[I];simp[R]);have p:e<ops.size:=K.lt e (by rw[I];simp);have a1:yc ops i=some d:=by simp[yc,ho,hd]
 have C:yc ops e=j.dst:=by simp[yc,T]
 have e1:(st.put j.dst v J).tm d=st.tm d:=jQ (fun h=>(K.du i e d a0 p a1).1 U (by rw[C];exact h));rw[e1];refine h.congr fun x hx=>?_
 cases x with
 |tmp t =>
  show st.tm t=(st.put j.dst v J).tm t;refine(jQ fun h=>?_).symm;have h1:=K.rd I R l (by rw[C];exact h)
  grind [V7]
 |const v=>rfl
 |global g=>rfl
 |func f=>rfl
theorem fT(K:uX pl ops O){PO lO e}(g:O=PO++e :: lO){st i o J d}(R:i∈PO)(T:ops[i]?=some o)(j:ops[e]?=some J)(hd:o.dst=some d){m m' v}(h:DG P pl ops o st d m) :
  DG P pl ops o (st.put J.dst v m') d m:=by
 obtain⟨b,hb,l,h2⟩:=h;have p:e∈e :: lO:=qZ ..;have U:i≠e:=fun h=>K.disj g p (h ▸ R)
 have a0:i<ops.size:=K.lt i (by rw[g];simp[R]);have C:e<ops.size:=K.lt e (by rw[g];simp);have a1:yc ops i=some d:=by simp[yc,T,hd]
 have I:yc ops e=J.dst:=by simp[yc,j]
 have e1:(st.put J.dst v m').tm d=st.tm d:=jQ (fun h=>(K.du i e d a0 C a1).1 U (by rw[I];exact h));refine⟨b,?_,fun e=>fS K g R T j hd (l e),fun e=>by rw[e1];exact h2 e⟩;rw[V6 fun t ht=>?_]
 .exact hb
 .refine jQ fun h=>?_
  have l:=K.rd g R p (by rw[I];exact h);simp only[jF,T]at l;rw[ht]at l;cases l
theorem fK(K:uX pl ops O){PO U e st G B}(h:SegI P pl ops O ro G0 mu0 w0 n Q Qp pre a w PO (e :: U) st G B)(hk:zN pl ops e=0) :
  ∃ a5,SegI P pl ops O ro G0 mu0 w0 n Q Qp pre a w (PO++[e]) U a5 G B:=by
 have a6:e∈e :: U:=qZ ..;have T:=K.disj h.split a6;have a7:e ∉ pre:=fun h'=>T (h.d e h' zOm)
 have C:e<ops.size:=K.lt e (by rw[h.split];simp);have ho:ops[e]?=some ops[e]:=zP1 C;generalize ops[e]=o at ho;have hw:=h.awp;simp only[plan,hk,awpT,ho]at hw;obtain⟨b,hb,a8,ad⟩:=hw;have hw:∃ v,(b=true->DS P pl o st.ev st.mu v st.mu)/\(b=false->v = .sc uk)/\awpT P pl ops Q Qp (plan pl ops (PO++[e]) U) (st.put o.dst v st.mu):=by
  cases b with
  |false=>grind
  |true =>
   obtain⟨v,m,a0,a4⟩:=qF.det (o:=o) (h:=a8 rfl);obtain rfl:=(a0.mem (Xk ho hk)).1
   grind
 obtain⟨v,a0,a9,a4⟩:=hw;have I:yc ops e=o.dst:=by simp[yc,ho]
 cases hd:o.dst with
 |none=>have:=K.dn e C (by rw[I,hd]);omega
 |some d =>
  rw[hd]at I;have aa:O=(PO++[e])++U:=by rw[h.split];simp
  refine⟨st.put o.dst v st.mu,aa,a4,fun i l a1=>?_,fun i l a1=>?_,fun i o' d' l a2 J R=>?_,fun i l a2=>h.al i (qN _ l) a2,fun i j l hj=>h.inj i j (qN _ l) (qN _ hj),?_⟩
  .rcases qO.1 l with l|l
   .exact h.s i l a1
   grind
  .exact y6 _ (h.d i l a1)
  .show DG P pl ops o' (st.put o.dst v st.mu) d' st.mu
   rcases qO.1 l with l|l
   .exact fT K h.split l J ho R (h.p i o' d' l a2 J R)
   .rw [qS]at l;subst l
    rw[ho]at J;cases J;rw[hd]at R;cases R;have e1:(st.put o.dst v st.mu).tm d=v:=by simp[St.put,hd]
    have ab:∀ t,jF ops i t=true->(st.put o.dst v st.mu).tm t=st.tm t:=fun t ht=>by
     refine jQ fun h'=>?_
     have a3:t=d:=by rw[hd]at h';cases h';rfl
     subst a3;exact T ((K.ord PO U i h.split).2.1 i t C I ht)
    refine⟨b,by grind [V6,jF],fun e=>?_,fun e=>by rw[e1];exact a9 e⟩;rw[e1];refine(a0 e).congr fun x hx=>?_
    cases x with
    |tmp t =>
     show st.tm t=(st.put o.dst v st.mu).tm t;exact(ab t (V7 ho hx)).symm
    |const v=>rfl
    |global g=>rfl
    |func f=>rfl
  .refine h.rel.weak rfl fun t=>?_
   by_cases hb:behind pl ops (PO++[e]) U pre t
   .exact .inl (Yf hb)
   .right
    rw[vH hb];have a3:o.dst≠some t:=fun h'=>hb (.inl ⟨e,zSp,a7,by rw[I];rw[hd]at h';exact h'⟩)
    rw[jQ a3,vH];rintro (⟨i,h1,h2,h3⟩|⟨i,h1,h2,h3⟩)
    .exact hb (.inl ⟨i,y6 _ h1,h2,h3⟩)
    .rcases qy.1 h1 with rfl|h1
     .omega
     .exact hb (.inr ⟨i,h1,h2,h3⟩)
theorem fA(K:uX pl ops O)(ag:∀ i k,(yW ops k).testBit i=true->k∈pre->i∈pre){PO lO e st G B}(h:SegI P pl ops O ro G0 mu0 w0 n Q Qp pre a w PO (e :: lO) st G B)(hk:zN pl ops e=2)(a3:e∈pre) :
  ∃ a8 G',SegI P pl ops O ro G0 mu0 w0 n Q Qp pre a w (PO++[e]) lO a8 G' B:=by
 have a1:e∈e :: lO:=qZ ..;have ah:=K.disj h.split a1;have ai:e<ops.size:=K.lt e (by rw[h.split];simp);have I:=h.al e a1 a3;obtain⟨o,ty,d,zv,ho,a4,hd,hz,hp,hb⟩:=I.x;have a9:yc ops e=some d:=by simp[yc,ho,hd]
 have J:=h.awp;simp only[plan,hk,awpT,ho]at J;rw[qiE (K.guards e o ho (by simp[Zz,a4]))]at J;obtain⟨b,aa,J,_⟩:=J;have J:=J (by cases aa;rfl);simp only[a4]at J;simp only[qF]at J;obtain⟨z,aj,h1,ab,ad⟩:=J;have:z=ofV zv:=by
  grind
 subst this;have a5:O=(PO++[e])++lO:=by rw[h.split];simp
 have a6:=s9 (st:=jw pl ops PO (e :: lO) pre st) h.rel h1 hp hb I.base I.nl I.ni;refine⟨st.put o.dst (.ptr st.mu.length 0) (st.mu++[.arr (ofV zv).cells]),⟨G.imm,G.blk++[(B e,zv.cells.size)]⟩,a5,ad,fun i g l=>?_,fun i g l=>?_,fun i o' d' g C R a2=>?_,fun i g C=>?_,fun i j g hj=>h.inj i j (qN _ g) (qN _ hj),?_⟩
 .rcases qO.1 g with g|g
  .exact h.s i g l
  grind
 .exact y6 _ (h.d i g l)
 .have g:i∈PO:=by
   grind
  have l:zN pl ops i=0:=by
   by_cases hh:zN pl ops i=0
   .exact hh
   .exact absurd (h.s i g hh) C
  refine(fT K h.split g R ho a2 (h.p i o' d' g C R a2)).re (Xk R l) fun hm hb=>?_
  refine Xj ab (i:=i) ?_ R a2 hb;rw[zIn];refine y5.2 ⟨g,?_⟩
  grind [yW,absurd,Xi]
 .have ae:i≠e:=fun hh=>by
   subst hh;exact K.disj a5 g zSp
  have T:=h.al i (qN _ g) C;refine⟨T.x,T.base,fun hl=>?_,T.ni⟩;obtain⟨j,c,t,hc,af,a7⟩:=hl;have a0:=h.rel.stp.sim.len;have a0:G.blk.length=st.mu.length:=a0;rcases yk hc with ⟨q1,q2⟩|⟨q1,q2⟩
  .rcases yk a7 with ⟨_,q3⟩|⟨q3,_⟩
   .exact T.nl ⟨j,c,t,q2,af,q3⟩
   .omega
  .rcases yk a7 with ⟨q3,_⟩|⟨_,q3⟩
   .omega
   .exact h.inj i e (qN _ g) a1 C a3 ae (Prod.mk.inj q3).1
 .refine a6.weak rfl fun t=>?_
  by_cases hb:behind pl ops (PO++[e]) lO pre t
  .exact .inl (Yf hb)
  .right
   rw[vH hb,hd];by_cases U:t=d
   .subst U;simp[St.put];rfl
   .rw [jQ (fun h'=>U (by cases h';rfl)),jQ (fun h'=>U (by cases h';rfl)),vH]
    rintro (⟨i,h1,h2,h3⟩|⟨i,h1,h2,h3⟩)
    .exact hb (.inl ⟨i,y6 _ h1,h2,h3⟩)
    .rcases qy.1 h1 with rfl|h1
     .rw [a9]at h3;cases h3;exact U rfl
     .exact hb (.inr ⟨i,h1,h2,h3⟩)
theorem fC(K:uX pl ops O)(g:∀ i k,(yW ops k).testBit i=true->k∈pre->i∈pre){B}:∀ es j l st G,SegI P pl ops O ro G0 mu0 w0 n Q Qp pre a w j (es++l) st G B->(∀ i,i∈es->zN pl ops i≠1/\(zN pl ops i=2->i∈pre)) ->
  ∃ p G',SegI P pl ops O ro G0 mu0 w0 n Q Qp pre a w (j++es) l p G' B
 | [],j,l,st,G,h,_=>⟨st,G,zUs h⟩
 |e :: es,j,l,st,G,h,t=>by
  obtain⟨c1,c2⟩:=t e (qZ ..);rcases nq pl ops e with o|o|o
  .obtain ⟨st1,C⟩:=fK K h o
   obtain⟨st2,J,R⟩:=fC K g es (j++[e]) l st1 G C fun i I=>t i (qN _ I)
   grind
  .exact absurd o c1
  .obtain ⟨st1,T,C⟩:=fA K g h o (c2 o)
   obtain⟨st2,J,R⟩:=fC K g es (j++[e]) l st1 T C fun i I=>t i (qN _ I)
   grind
end
end
section
variable {ops:Array wg}{P:qb}
theorem fP{G mu w}(s:Sim G mu w.heap)(o):Stp G mu w G mu (w.alloc o):=by
 have g:=WC s o;refine⟨.refl G,⟨s.len,fun b j=>Zo (s.imm b j) g.size,?_,s.live,s.inj,s.tab.mono (fun _ h=>h) g.keep⟩,fun b j _=>Zs w o b j,g.size,fun b h => .inl h,fun b h => .inl h,rfl,rfl,rfl,qj _⟩;intro i c l p t C I;obtain⟨J,R,P⟩:=s.obj i c l p t C I;exact⟨J,by grind [Zs,yA],P.mono (.refl G) g⟩
theorem qiG{ro}{o:wg}{e}(g:o.op = .alloc e){z}(j:qC P e=some z){a w next Q}
  (h:∀ zv,z=ofV zv->next (a.put o.dst (.pointer (some ⟨w.heap.size,0,none⟩))) (w.alloc (.cells zv.cells e))):o.wpIn (WF ro) 0 P a w next Q:=by
 obtain⟨l,op,t,pos,after,guard⟩:=o;simp only at g h;subst g;refine⟨fun _ _=>trivial,?_⟩;rw[show (WF ro).round=ro.rd from rfl,Oper.semAt_eq _ _ _ (fun c e=>by cases e)];obtain⟨zv,i,p⟩:=Zu j w;refine gK ?_;have C:(newVar e zv).run P w = .ok ⟨w.heap.size,0,none⟩ (w.alloc (.cells zv.cells e)):=rfl;simp_all[execOp,Instr.alloc,qP,qR,Oper.upon]
theorem qiH{pl ro G0 a9 w0 n}(s0:Sim G0 a9 w0.heap)(b7:(ops.toList.all fun o=>dOk n o.dst)=true)
  {Q} {Qp} {QQ} (hQ:∀ st a w G,Q st->Rel ro G0 a9 w0 n G st a w->QQ .normal a w)
  (bj:∀ v st a w G u,Qp v st->Rel ro G0 a9 w0 n G st a w->VRel G w.heap v u->QQ (.panic [{ v:=u,recovered:=false }]) a w) {st} {a} {w} {G} (r:Rel ro G0 a9 w0 n G st a w)
  (h:SegA P pl ops Q Qp st) (aa) (t):wpOpsIn (WF ro) 0 P ops QQ (Region.schedule aa ops t) a w:=by
 obtain⟨O,bk,b8,h⟩:=h;have K:=qiD bk;obtain⟨h1,h2⟩:=gQ K.edges aa t;obtain⟨h3,h4⟩:=s8 K.edges _ _ rfl h1;have h3:=fun k hk=>(h3 k hk).1
 generalize Region.schedule aa ops t=L at *
 have b9:∀ i,i<ops.size->i∈L:=by
  intro i l;refine un fun hn=>?_
  have bl:(i :: L).length<=(qs ops.size).length:=jm (jX.2 ⟨hn,h4⟩) (fun k hk=>by
   grind)
  simp at bl;omega
 have ax:∀(i:Nat)(o:wg)(e:qd),ops[i]?=some o->o.op = .alloc e->∃ z,qC P e=some z:=by
  have gen:∀(O pre:List Nat),wS P ops (plan pl ops pre O)->∀ i,i∈O->∀(o:wg)(e:qd),ops[i]?=some o->o.op = .alloc e->∃ z,qC P e=some z:=by
   intro O;induction O with
   |nil=>grind
   |cons j O ih =>
    intro pre hn i l o e ho a8;simp only[plan,wS]at hn;rcases qy.1 l with rfl|l
    .have hk:zN pl ops i=2:=by
      unfold zN;rw[ho];simp[Jz,Zz,a8]
     have hn:=hn.1;rw[hk,ho]at hn;simp only[a8]at hn;obtain⟨z,hz,_⟩:=hn;exact⟨z,hz⟩
    grind
  exact fun i o e ho a8=>gen O [] b8 i (K.all i (yA.1 ho).1) o e ho a8
 have key:∀(post pre:List Nat)(a:Act)(w:qf)(G:Gh)(PO lO:List Nat)(ab:St)(B:Nat->Nat),L=pre++post->SegI P pl ops O ro G0 a9 w0 n Q Qp pre a w PO lO ab G B->wpOpsIn (WF ro) 0 P ops QQ post a w:=by
  intro post;induction post with
  |nil =>
   intro pre a w G PO lO ab B hL I;rw[yg]at hL;subst hL;have ay:∀ i,i<ops.size->i∈L:=b9;obtain⟨st2,G2,I2⟩:=fC K (fun i k hb hk=>h3 k hk |> fun _=>by
    have:=h1.bef K.edges hb;obtain⟨s,t,e⟩:=List.append_of_mem hk;have:=this s t e
    grind) lO PO [] ab G (by simpa using I) (fun i l=>by
    have bb:=K.lt i (by rw[I.split];simp[l]);refine⟨fun hk=>K.disj I.split l (I.d i (ay i bb) zOm),fun _=>ay i bb⟩)
   simp only[wpOpsIn];have hw:=I2.awp;simp only[plan,awpT]at hw;refine hQ st2 a w G2 hw (I2.rel.weak rfl fun t => .inr ?_);refine(vH ?_).symm;rintro (⟨i,q1,q2,q3⟩|⟨i,q1,_⟩)
   .exact q2 (ay i (K.lt i (by rw[I2.split];simp;simpa using q1)))
   grind
  |cons k post ih =>
   intro pre a w G PO lO ab B hL I;have hk:k<ops.size:=h3 k (by rw[hL];simp);have cb:(pre++k :: post).Nodup:=by rw[<-hL];exact h4
   have az:k ∉ pre:=fun hh=>by
    grind
   have ho:ops[k]?=some ops[k]:=zP1 hk;generalize bw:ops[k]=o at ho;have ai:dOk n o.dst=true:=q8.1 b7 o (by grind);have bef:∀ i,(yW ops k).testBit i=true->i∈pre:=fun i l=>h1.bef K.edges l pre post hL
   have bc:∀ i j,(yW ops j).testBit i=true->j∈pre->i∈pre:=fun i j hb hj=>by
    obtain⟨s,t,e⟩:=List.append_of_mem hj;have:=h1.bef K.edges hb s (t++k :: post) (by rw[hL,e];simp);rw[e];exact y6 _ this
   have b0:L=(pre++[k])++post:=by rw[hL];simp
   have ad:yc ops k=o.dst:=by simp[yc,ho]
   have aj:∀(i:Nat)(d:Tmp),i<ops.size->i≠k->yc ops i=some d->∀ u,(a.put o.dst u).tmps.getD d uk=a.tmps.getD d uk:=fun i d l R hd u=>by
    cases bm:o.dst with
    |none=>rfl
    |some x =>
     have bn:x≠d:=fun e=>(K.du i k d l hk hd).1 R (by rw[ad,bm,e])
     simp only[Act.put,qV];rw[Array.getElem?_setIfInBounds_ne bn]
   have ar:∀(C U:List Nat),lO=C++U->(∀ i,i∈C->zN pl ops i≠0->(yW ops k).testBit i=true)->∃ b1 G',SegI P pl ops O ro G0 a9 w0 n Q Qp pre a w (PO++C) U b1 G' B:=fun C U e hm=>by
    subst e;refine fC K bc C PO U ab G I fun i l=>⟨fun T=>?_,fun T=>bef i (hm i l zOm)⟩
    have:=I.d i (bef i (hm i l zOm)) zOm;exact K.disj I.split (y6 _ l) this
   have au:∀(PO lO:List Nat)(G:Gh)(st:St),SegI P pl ops O ro G0 a9 w0 n Q Qp pre a w PO lO st G B->(∀ i d,i<ops.size->yc ops i=some d->jF ops k d=true->i∈PO)->∀ t,jF ops k t=true->(jw pl ops PO lO pre st).tm t=st.tm t:=by
    intro PO lO G st I av t ht;refine vH ?_;rintro (⟨i,q1,q2,q3⟩|⟨i,q1,q2,q3⟩)
    .exact q2 (bef i ((K.du i k t (K.lt i (by rw[I.split];simp[q1])) hk q3).2 ht))
    .exact K.disj I.split q1 (av i t (K.lt i (by rw[I.split];simp[q1])) q3 ht)
   rcases nq pl ops k with ae|ae|ae
   ·
    have:∃ PO lO st G,k∈PO/\SegI P pl ops O ro G0 a9 w0 n Q Qp pre a w PO lO st G B:=by
     by_cases a4:k∈PO
     .exact ⟨PO,lO,ab,G,a4,I⟩
     .have ak:k∈lO:=by
       have:=K.all k hk;rw[I.split]at this;exact(qO.1 this).resolve_left a4
      obtain⟨C,U,rfl⟩:=List.append_of_mem ak;have be:=(K.ord (PO++C) U k (by rw[I.split];simp)).2.2 zOm;obtain⟨b1,G',I'⟩:=ar (C++[k]) U zSp fun i l T=>by
       rcases qO.1 l with l|l
       .exact be i (List.mem_append_right _ l) T
       .rw [qS]at l;subst l;exact absurd ae T
      exact⟨_,_,b1,G',zSp,I'⟩
    clear I ar;obtain⟨PO,lO,st,G,a4,I⟩:=this;cases hd:o.dst with
    |none=>have:=K.dn k hk (by rw[ad,hd]);omega
    |some d =>
    have av:∀ i d,i<ops.size->yc ops i=some d->jF ops k d=true->i∈PO:=fun i d l bo hr=>by
     obtain⟨s,t,hs⟩:=List.append_of_mem a4;have:=(K.ord s (t++lO) k (by rw[I.split,hs];simp)).2.1 i d l bo hr;rw[hs];exact y6 _ this
    obtain⟨b,hb,hT,hF⟩:=I.p k o d a4 az ho hd;have b2:yB ops (jw pl ops PO lO pre st) o=some b:=by
     rw[V6 fun t ht=>au PO lO G st I av t (by simp only[jF,ho];exact ht)];exact hb
    have a6:=VX I.rel b2;have an:∀(G':Gh)(w':qf)(u:qq),Stp G (jw pl ops PO lO pre st).mu w G' (jw pl ops PO lO pre st).mu w'->VRel G' w'.heap (st.tm d) u->wpOpsIn (WF ro) 0 P ops QQ post (a.put o.dst u) w':=by
     intro G' w' u a0 hv;refine ih (pre++[k]) _ _ G' PO lO st B b0 ?_;have ao:=I.rel.put s0 a0 hv ai;refine⟨I.split,I.awp,fun i l T=>y6 _ (I.s i l T),fun i l T=>?_,fun i o' d' l J=>I.p i o' d' l (fun hh=>J (y6 _ hh)),fun i l J=>?_,fun i j l hj J ah=>?_,?_⟩
     .rcases qO.1 l with l|l
      .exact I.d i l T
      .rw [qS]at l;subst l;exact a4
     .have R:i≠k:=fun e=>K.disj I.split l (e ▸ a4)
      have a3:i∈pre:=by
       rcases qO.1 J with h|h
       .exact h
       .rw [qS]at h;exact absurd h R
      exact(I.al i l a3).step a0 fun d' a2=>aj i d' (K.lt i (by rw[I.split];simp[l])) R a2 u
     .have R:∀ i,i∈lO->i∈pre++[k]->i∈pre:=fun i l J=>by
       rcases qO.1 J with h|h
       .exact h
       .rw [qS]at h
        subst h;exact absurd a4 (K.disj I.split l)
      exact I.inj i j l hj (R i l J) (R j hj ah)
     .refine ao.weak rfl fun t=>?_
      by_cases hb:behind pl ops PO lO (pre++[k]) t
      .exact .inl (Yf hb)
      .right
       rw[vH hb];by_cases a5:o.dst=some t
       .rw [hd]at a5;cases a5
        simp[St.put,hd]
       .rw [jQ a5,vH]
        rintro (⟨i,q1,q2,q3⟩|q)
        .refine hb (.inl ⟨i,q1,fun hh=>?_,q3⟩)
         rcases qO.1 hh with hh|hh
         .exact q2 hh
         .rw [qS]at hh;subst hh;exact a5 (by rw[<-ad];exact q3)
        .exact hb (.inr q)
    simp only[wpOpsIn,ho,a6];cases b with
    |false =>
     rw[if_neg zSp];exact⟨fun _ _=>trivial,an G w uk (Stp.refl I.rel.stp.sim) (by rw[hF rfl];exact .sc _ rfl)⟩
    |true =>
    have bq:=hT rfl;rw[if_pos rfl];have bg:DS P pl o (jw pl ops PO lO pre st).ev (jw pl ops PO lO pre st).mu (st.tm d) (jw pl ops PO lO pre st).mu:=bq.congr fun x hx=>by
     cases x with
     |tmp t =>
      show st.tm t=(jw pl ops PO lO pre st).tm t;exact(au PO lO G st I av t (V7 ho hx)).symm
     |const v=>rfl
     |global g=>rfl
     |func f=>rfl
    refine VW I.rel.stp.sim I.rel.ev bg ?_ ?_
    .rintro v' cc G' w' u ⟨rfl,rfl⟩ a0 hv
     exact an G' w' u a0 hv
    .intro _ _ _ _ _ hh;exact hh.elim
   ·
    have a4:k ∉ PO:=fun hh=>az (I.s k hh zOm)
    have ak:k∈lO:=by
     have:=K.all k hk;rw[I.split]at this;exact(qO.1 this).resolve_left a4
    obtain⟨C,U,rfl⟩:=List.append_of_mem ak;have af:=K.ord (PO++C) U k (by rw[I.split];simp);obtain⟨st,G,I⟩:=ar C (k :: U) rfl fun i l T=>af.2.2 zOm i (List.mem_append_right _ l) T
    clear ar;generalize cd:PO++C=a1 at *
    have hw:=I.awp;simp only[plan,ae,awpT,ho]at hw;obtain⟨b,hb,hw,br⟩:=hw;have b2:yB ops (jw pl ops a1 (k :: U) pre st) o=some b:=by
     rw[V6 fun t ht=>au a1 (k :: U) G st I af.2.1 t (by simp only[jF,ho];exact ht)];exact hb
    have a6:=VX I.rel b2;have an:∀(v:AV)(m:Mu)(G':Gh)(w':qf)(u:qq),awpT P pl ops Q Qp (plan pl ops (a1++[k]) U) (st.put o.dst v m)->(∀ i o' d',i∈a1->i ∉ pre->zN pl ops i=0->ops[i]?=some o'->o'.dst=some d'->DG P pl ops o' (st.put o.dst v m) d' m) ->
      Stp G st.mu w G' m w'->VRel G' w'.heap v u->wpOpsIn (WF ro) 0 P ops QQ post (a.put o.dst u) w':=by
     intro v m G' w' u b3 bs a0 hv;refine ih (pre++[k]) _ _ G' (a1++[k]) U (st.put o.dst v m) B b0 ?_;have ao:=I.rel.put s0 a0 hv ai;have b4:O=(a1++[k])++U:=by rw[I.split];simp
     refine⟨b4,b3,fun i l T=>?_,fun i l T=>?_,fun i o' d' l J a7 a2=>?_,fun i l J=>?_,fun i j l hj J ah=>?_,?_⟩
     .rcases qO.1 l with l|l
      .exact y6 _ (I.s i l T)
      .exact List.mem_append_right _ l
     .rcases qO.1 l with l|l
      .exact y6 _ (I.d i l T)
      .exact List.mem_append_right _ l
     .have a3:i ∉ pre:=fun hh=>J (y6 _ hh)
      have bh:i∈a1:=by
       rcases qO.1 l with l|l
       .exact l
       .exact absurd (List.mem_append_right _ l) J
      have T:zN pl ops i=0:=by
       by_cases hh:zN pl ops i=0
       .exact hh
       .exact absurd (I.s i bh hh) a3
      exact bs i o' d' bh a3 T a7 a2
     .have R:i≠k:=fun e=>by
       subst e;exact K.disj b4 l zSp
      have a3:i∈pre:=by
       rcases qO.1 J with h|h
       .exact h
       .rw [qS]at h;exact absurd h R
      exact(I.al i (qN _ l) a3).step a0 fun d' a2=>aj i d' (K.lt i (by rw[I.split];simp[l])) R a2 u
     .have R:∀ i,i∈U->i∈pre++[k]->i∈pre:=fun i l J=>by
       rcases qO.1 J with h|h
       .exact h
       .rw [qS]at h
        subst h;exact absurd (show i∈a1++[i] by simp) (K.disj b4 l)
      exact I.inj i j (qN _ l) (qN _ hj) (R i l J) (R j hj ah)
     .refine ao.weak rfl fun t=>?_
      by_cases hb:behind pl ops (a1++[k]) U (pre++[k]) t
      .exact .inl (Yf hb)
      .right
       rw[vH hb];by_cases a5:o.dst=some t
       .simp [St.put,a5]
       .rw [jQ a5,jQ a5,vH]
        rintro (⟨i,q1,q2,q3⟩|⟨i,q1,q2,q3⟩)
        .refine hb (.inl ⟨i,y6 _ q1,fun hh=>?_,q3⟩)
         rcases qO.1 hh with hh|hh
         .exact q2 hh
         .rw [qS]at hh;subst hh;exact a5 (by rw[<-ad];exact q3)
        .rcases qy.1 q1 with rfl|q1
         .omega
         .exact hb (.inr ⟨i,q1,q2,q3⟩)
    simp only[wpOpsIn,ho,a6];cases b with
    |false =>
     rw[if_neg zSp];exact⟨fun _ _=>trivial,an (.sc uk) st.mu G w uk (br rfl) (fun i o' d' l J T a7 a2=>fT K I.split l a7 ho a2 (I.p i o' d' l J a7 a2)) (Stp.refl I.rel.stp.sim) (.sc _ rfl)⟩
    |true =>
    rw[if_pos rfl];have hw:qF P pl false o.dst o.op st.ev st.mu (fun v m=>ux P pl ops (if 1=0 then [] else pend pl ops a1 k) (st.put o.dst v m)/\awpT P pl ops Q Qp (plan pl ops (a1++[k]) U) (st.put o.dst v m)) (fun v m=>True/\∀ tm,Qp v ⟨tm,m⟩):=hw rfl;have bt:=hw.congr (ev':=(jw pl ops a1 (k :: U) pre st).ev) (fun x hx=>by
     cases x with
     |tmp t=>exact(au a1 (k :: U) G st I af.2.1 t (V7 ho hx)).symm
     |const v=>rfl
     |global g=>rfl
     |func f=>rfl)
    have ca:k∈k :: U:=qZ ..;refine VW (mu:=(jw pl ops a1 (k :: U) pre st).mu) I.rel.stp.sim I.rel.ev bt ?_ ?_
    .rintro v m G' w' u ⟨bi,b3⟩ a0 hv
     rw[if_neg zDe]at bi;refine an v m G' w' u b3 (fun i o' d' l J T a7 a2=>?_) a0 hv;refine(fT K I.split l a7 ho a2 (I.p i o' d' l J a7 a2)).re (Xk a7 T) fun hm hb=>?_
     refine Xj bi (i:=i) (y5.2 ⟨l,?_⟩) a7 a2 hb;have b5:(yW ops k).testBit i=false:=by
      cases hq:(yW ops k).testBit i with
      |false=>rfl
      |true=>exact absurd (bef i hq) J
     simp[T,Xi,a7,hm,b5]
    .rintro v m G' w' u ⟨_,hp⟩ a0 hv
     refine bj v ⟨(jw pl ops a1 (k :: U) pre st).tm,m⟩ a w' G' u (hp _) ?_ hv;exact I.rel.put (d:=none) s0 a0 (.any uk) rfl
   ·
    have a4:k ∉ PO:=fun hh=>az (I.s k hh zOm)
    have ak:k∈lO:=by
     have:=K.all k hk;rw[I.split]at this;exact(qO.1 this).resolve_left a4
    obtain⟨ty,a8⟩:=qiF ho ae;obtain⟨z,hz⟩:=ax k o ty ho a8;cases hd:o.dst with
    |none=>have:=K.dn k hk (by rw[ad,hd]);omega
    |some d =>
    have a6:Region.wanted o (yielded ops a.tmps)=true:=by unfold Region.wanted;rw[K.guards k o ho (by simp[Zz,a8])]
    simp only[wpOpsIn,ho,a6,if_true];refine qiG a8 hz fun zv bu=>?_
    subst bu;have a0:=fP I.rel.stp.sim (.cells zv.cells ty);have ao:=I.rel.put (v := .any) (u := .pointer (some ⟨w.heap.size,0,none⟩)) (d:=o.dst) s0 a0 (.any _) ai;refine ih (pre++[k]) _ _ G PO lO ab (fun i=>if i=k then w.heap.size else B i) b0 ?_;refine⟨I.split,I.awp,fun i l T=>y6 _ (I.s i l T),fun i l T=>?_,fun i o' d' l J=>I.p i o' d' l (fun hh=>J (y6 _ hh)),fun i l J=>?_,fun i j l hj J ah b6=>?_,?_⟩
    .rcases qO.1 l with l|l
     .exact I.d i l T
     .rw [qS]at l;subst l;exact absurd ae T
    .by_cases R:i=k
     .subst R
      rw[if_pos rfl];refine⟨⟨o,ty,d,zv,ho,a8,hd,hz,?_,VA w _⟩,I.rel.stp.size,fun hl=>?_,fun l=>?_⟩
      .rw [hd]
       have bv:d<n:=by rw[hd]at ai;simpa[dOk] using ai
       have:d<a.tmps.size:=by rw[I.rel.size];exact bv
       simp[Act.put,qV,this]
      .have:=I.rel.stp.sim.livesize hl;omega
      .have:=I.rel.stp.sim.imm _ l;omega
     .rw [if_neg R]
      have a3:i∈pre:=by
       rcases qO.1 J with h|h
       .exact h
       .rw [qS]at h;exact absurd h R
      exact(I.al i l a3).step a0 fun d' a2=>aj i d' (K.lt i (by rw[I.split];simp[l])) R a2 _
    .have ag:∀ i,i∈pre++[k]->i≠k->i∈pre:=fun i J R=>by
      rcases qO.1 J with h|h
      .exact h
      .rw [qS]at h;exact absurd h R
     by_cases R:i=k
     .rw [if_pos R,if_neg (fun e=>b6 (R.trans e.symm))]
      have aq:j≠k:=fun e=>b6 (R.trans e.symm)
      have:=(I.al j hj (ag j ah aq)).lt;omega
     .rw [if_neg R]
      by_cases aq:j=k
      .rw [if_pos aq]
       have:=(I.al i l (ag i J R)).lt;omega
      .rw [if_neg aq]
       exact I.inj i j l hj (ag i J R) (ag j ah aq) b6
    .refine ao.weak rfl fun t=>?_
     by_cases hb:behind pl ops PO lO (pre++[k]) t
     .exact .inl (Yf hb)
     .right
      rw[vH hb];have a5:o.dst≠some t:=fun e=>hb (.inr ⟨k,ak,ae,by rw[ad];exact e⟩)
      rw[jQ a5,vH];rintro (⟨i,q1,q2,q3⟩|q)
      .refine hb (.inl ⟨i,q1,fun hh=>?_,q3⟩)
       rcases qO.1 hh with hh|hh
       .exact q2 hh
       .rw [qS]at hh;subst hh;exact a5 (by rw[<-ad];exact q3)
      .exact hb (.inr q)
 refine key L [] a w G [] O st (fun _=>0) zSp ⟨rfl,h,fun i l=>absurd l qK,fun i l=>absurd l qK,fun i o d l=>absurd l qK,fun i _ l=>absurd l qK,fun i j _ _ l=>absurd l qK,?_⟩;refine r.weak rfl fun t=>?_
 grind [behind,Yf,vH]
def Xl(P:qb)(pl:Pol)(ops:Array wg)(Q:St->Prop)(g:AV->St->Prop)(st:St):Prop:=nh P pl ops Q g st\/SegA P pl ops Q g st
theorem qiI{pl ro C i I n}(J:Sim C i I.heap)(j:(ops.toList.all fun o=>dOk n o.dst)=true)
  {Q} {R} {QQ} (T:∀ st a w G,Q st->Rel ro C i I n G st a w->QQ .normal a w)
  (p:∀ v st a w G u,R v st->Rel ro C i I n G st a w->VRel G w.heap v u->QQ (.panic [{ v:=u,recovered:=false }]) a w) {st} {a} {w} {G} (r:Rel ro C i I n G st a w)
  (h:Xl P pl ops Q R st) (g) (t):wpOpsIn (WF ro) 0 P ops QQ (Region.schedule g ops t) a w:=by
 rcases h with h|h
 .exact qiB J j T p r h g t
 .exact qiH J j T p r h g t
end
end Go.Ev
namespace Go.Ev
open Go Go.RowKit
section
variable {c:Code}
inductive qX where
 |normal
 |exit (id:Nat)
 |ret
 |pan (v:AV)
def seqQ(n:St->Prop)(Q:qX->St->Prop):qX->St->Prop
 | .normal,U=>n U
 |e,U=>Q e U
def vI(id:Nat)(Q:qX->St->Prop):qX->St->Prop
 | .exit i,U=>if i=id then Q .normal U else Q (.exit i) U
 |e,U=>Q e U
def uY(I:Nat->St->Prop)(n:Nat)(Q:qX->St->Prop):qX->St->Prop
 | .normal,U=>∃ m,m<n/\I m U
 |e,U=>Q e U
def Frz(st g:St):Prop:=∃ give,g.mu=cutM (fun i=>!give i) st.mu 0/\∀ i,Gv st.mu give (st.tm i) (g.tm i)
inductive Fz:St->St->Prop where
 |refl (st:St):Fz st st
 |step {a b c:St} (f:Frz a b) (k:Fz b c):Fz a c
def FzQ(Q:qX->St->Prop)(e:qX)(st:St):Prop:=∃ g,Frz st g/\(match e with | .pan _=>g=st|_=>True)/\Q e g
def fzQ:Bool->(qX->St->Prop)->qX->St->Prop
 |true,Q=>FzQ Q
 |false,Q=>Q
def Stb(I:Mu->Prop):Prop:=∀ g,I g->I (g++[.dead])
def Yld(P:qb)(i:Nat)(rows:List (List AV))(I:Nat->Mu->Prop)(j:Mu->Prop):Prop:=
 ∀ k x g,rows[k]?=some x->I k g->VS P i x g fun b o=>(b=true/\I (k+1) o)\/(b=false/\j o)
def vJ(P:qb)(f:zZ)(caps:List AV)(rows:List (List AV)):Prop:=yN P f /\
 ∀(i:Nat)(I:Nat->Mu->Prop)(g:Mu->Prop),(∀ k,Stb (I k))->Stb g->Yld P i rows I g->∀ j,I 0 j ->
  qv P f (.yl i :: caps) j fun e o=>∃ r,e = .ret r/\(I rows.length o\/g o)
def IterX(P:qb)(f:zZ)(caps:List AV)(rows:List (List AV)):Prop:=yN P f /\
 ∀(i:Nat)(I:Nat->Mu->Prop)(g:Mu->Prop),Yld P i rows I g->∀ j,I 0 j ->
  qv P f (.yl i :: caps) j fun e o=>∃ r,e = .ret r/\(I rows.length o\/g o)
def nr(P:qb)(f:zZ)(caps:List AV)(rows:List (List AV))(I:Nat->Mu->Prop)(g:qX->Mu->Prop):Prop:=(vJ P f caps rows/\(∀ k,Stb (I k))/\∀ e,Stb (g e))\/IterX P f caps rows
def uy(g:Nat->AV):List Tmp->List AV->(Nat->AV)
 |t :: T,x :: p=>uy (fun i=>if i=t then x else g i) T p
 |_,_=>g
def asQ(n:St->Prop):qX->St->Prop
 | .normal,U=>n U
 |_,_=>False
def rndQ(I:Nat->Mu->Prop)(g:qX->Mu->Prop)(k:Nat):qX->St->Prop
 | .normal,U=>I (k+1) U.mu
 | .pan _,_=>False
 |e,U=>g e U.mu
def awp(P:qb)(pl:Pol):Code->(qX->St->Prop)->St->Prop
 | .skip,Q,U=>Q .normal U
 | .label _,Q,U=>Q .normal U
 | .region _ R l,Q,U=>(l=false/\awpS P pl false R R.toList (Q .normal) (fun v U=>Q (.pan v) U) U)\/(l=true/\∃ j,Fz U j/\Xl P pl R (Q .normal) (fun v U=>Q (.pan v) U) j)
 | .seq a b,Q,U=>awp P pl a (seqQ (awp P pl b Q) Q) U
 | .cond c a b,Q,U=>∃ t,U.ev c = .sc (.bool t)/\Br t (awp P pl a Q U) (awp P pl b Q U)
 | .block id i,Q,U=>awp P pl i (vI id Q) U
 | .loop i,Q,U=>∃(z:Bool) (I:Nat->St->Prop) (n:Nat) (j:St),Fz U j/\I n j/\∀ n U,I n U->awp P pl i (uY I n (fzQ z Q)) U
 | .exit id,Q,U=>Q (.exit id) U
 | .ret,Q,U=>Q .ret U
 | .scope i,Q,U=>awp P pl i Q U
 | .rangeFunc g T C i,Q,U=>∃(z:Bool) (gf:zZ) (o:List AV) (rows:List (List AV)) (I:Nat->Mu->Prop) (J:qX->Mu->Prop),
   U.ev g = .fn (.func gf) [] o/\nr P gf o rows I J/\I 0 (U.mu++[.dead]) /\
   (∀ k x p,rows[k]?=some x->I k p->x.length=T.size/\awp P pl C (asQ (fun U=>awp P pl i (rndQ I J k) U)) ⟨uy U.tm T.toList x,p⟩) /\
   (∀ p,I rows.length p->fzQ z Q .normal ⟨U.tm,p⟩)/\(∀ e p,J e p->fzQ z Q e ⟨U.tm,p⟩)
 |_,_,_=>False
def noRF:Code->Bool
 | .seq a b=>noRF a&&noRF b
 | .cond _ a b=>noRF a&&noRF b
 | .block _ b=>noRF b
 | .loop b=>noRF b
 | .scope b=>noRF b
 | .rangeFunc .. => false
 |_=>true
def dOkC(n:Nat):Code->Bool
 | .region _ R _=>R.toList.all fun o=>dOk n o.dst
 | .seq a b=>dOkC n a&&dOkC n b
 | .cond _ a b=>dOkC n a&&dOkC n b
 | .block _ b=>dOkC n b
 | .loop b=>dOkC n b
 | .scope b=>dOkC n b
 | .rangeFunc _ i g b=>(i.toList.all fun t=>decide (t<n))&&dOkC n g&&dOkC n b&&noRF g&&noRF b
 |_=>true
def ERel(G:Gh)(w:qf):qX->Exit->Prop
 | .normal,.normal=>True
 | .exit i,.exit j=>i=j
 | .ret,.ret=>True
 | .pan x,.panic chain=>∃ v,chain=[{ v,recovered:=false }]/\VRel G w.heap x v
 |_,_=>False
def Fit(ro:Ro)(j:Gh)(g:Mu)(l:qf)(n:Nat)(Q:qX->St->Prop)(QQ:Exit->Act->qf->Prop):Prop:=
 ∀ i e U a w G,Q i U->Rel ro j g l n G U a w->ERel G w i e->QQ e a w
theorem Rel.frz{ro l g o n G st j a w}(C:Sim l g o.heap)(r:Rel ro l g o n G st a w)(f:Frz st j):∃ G',Rel ro l g o n G' j a w:=by
 obtain⟨give,t,I⟩:=f;refine⟨Go.Ev.frz G give st.mu,fun i=>(I i).sound r.stp.sim (r.tm i),?_,r.size,?_,fun p J=>(wM r.stp.sim give).vrel r.stp.sim (r.kp p J)⟩
 .intro h
  have:=(r.df h).step (wM r.stp.sim give);rw[t];exact this
 rw[t];exact r.stp.trans C (wM r.stp.sim give)
theorem Rel.fz{ro j g l n G st i a w}(o:Sim j g l.heap)(r:Rel ro j g l n G st a w)(f:Fz st i):∃ G',Rel ro j g l n G' i a w:=by
 induction f generalizing G with
 |refl st=>exact⟨G,r⟩
 |step f k p =>
  obtain⟨C,t⟩:=r.frz o f;exact p t
theorem Fit.fz{ro t g C n Q QQ}(I:Sim t g C.heap)(h:Fit ro t g C n Q QQ)(z):Fit ro t g C n (fzQ z Q) QQ:=by
 cases z with
 |false=>exact h
 |true =>
  intro P e U a w G j r p;obtain⟨R,f,J,j⟩:=j;cases P with
  |pan v =>
   simp only at J;subst J;exact h _ e _ a w G j r p
  |normal =>
   obtain⟨l,o⟩:=r.frz I f;exact h _ e _ a w l j o (by cases e<;>exact p)
  |ret =>
   obtain⟨l,o⟩:=r.frz I f;exact h _ e _ a w l j o (by cases e<;>exact p)
  |exit i =>
   obtain⟨l,o⟩:=r.frz I f;exact h _ e _ a w l j o (by cases e<;>exact p)
section
variable {F:Fence} {rm:Nat} {P:qb} {b:Frame} {a:Act} {k:List Item} {cs:List Frame} {w:qf} {Q:Exit->Act->qf->Prop}
theorem Yg:step P (lone (b.atR a (.code (.scope c) :: k)) cs w) = .next (lone (b.atR a (.code c :: .inScope c :: k)) cs w):=
 step_lone_go (by simp[stepG,stepG.exec,Frame.atR])
theorem qiJ:step P (lone (b.atR a (.inScope c :: k)) cs w) = .next (lone (b.atR a k) cs w):=
 step_lone_go (by simp[stepG,stepG.exec,Frame.atR])
theorem nt(h:c.wpIn F rm P (Exit.noGoto Q) a w):(Code.scope c).wpIn F rm P Q a w:=by
 intro b k cs C I J;have o:(lone (b.atR a (.code (.scope c) :: k)) cs w).fenced P F:=fenced_calm I J rfl;obtain⟨e,i,j,p,g⟩:=h b (.inScope c :: k) cs C I J;cases e with
 |normal=>exact⟨.normal,i,j,p,.head o Yg (StepsIn.trans g (.one (fenced_calm I J rfl) qiJ))⟩
 |exit id=>exact⟨.exit id,i,j,p,fun U R => .head o Yg (g.1 U (by simp[exitTo,R])),
   fun T R=>let ⟨t,h1,h2⟩:=g.2 T (by simp[exitTo,R]);⟨t,h1,.head o Yg h2⟩⟩
 |goto l=>exact p.elim
 |ret=>exact⟨_,i,j,p,.of_steps (.one o Yg) g⟩
 |panic ch=>exact⟨_,i,j,p,.of_steps (.one o Yg) g⟩
 |outgrown=>exact⟨_,i,j,p,.of_steps (.one o Yg) g⟩
end
end
section
variable {R:AEnd->Mu->Prop}{a:Act}{c:Code}{f:zZ}{G:Gh}{args:List AV}{mu:Mu}{pl:Pol}{P:qb}{st:St}{w:qf}
def Xm(P:qb)(pl:Pol)(n:Nat)(c:Code):Prop:=∀{ro:Ro}{i:Gh}{g:Mu}{j:qf}(_:Sim i g j.heap)(Q:qX->St->Prop)(l:Exit->Act->qf->Prop)(U:St)(a:Act)(w:qf)(G:Gh),
  Fit ro i g j n Q l->Rel ro i g j n G U a w->dOkC n c=true->((ro.rd=none/\ro.mks=true)\/noRF c=true)->awp P pl c Q U->c.wpIn (WF ro) 0 P l a w
def JB:qX->Option Code
 | .ret=>some .ret
 | .exit id=>some (.exit id)
 |_=>none
def JJ(n:Nat)(ps:Array Tmp)(j body:Code)(p:Nat->AV)(o:Nat)(I:Nat->Mu->Prop)(k:Nat)(M:Mu):Prop:=
 ∃ fn tmps d,M[o]?=some (.lp { state := .ready,pending:=none,fn,tmps,params:=ps,assign:=j,body,defers:=d } p)/\tmps.size=n/\I k (M.set o .dead)
def JX(ps:Array Tmp)(j body:Code)(p:Nat->AV)(o:Nat)(t:qX->Mu->Prop)(M:Mu):Prop:=
 ∃ fn tmps d e c,M[o]?=some (.lp { state := .done,pending:=some c,fn,tmps,params:=ps,assign:=j,body,defers:=d } p)/\JB e=some c/\t e (M.set o .dead)
theorem nu{h}:∀(ts:List Tmp)(xs j o)(g:Array qq),xs.length=ts.length->j.length=ts.length ->
  (∀(k) x,xs[k]?=some x->VRel G h x (j.getD k uk))->(∀ i,VRel G h (o i) (g.getD i uk))->(∀ t,t∈ts->t<g.size) ->
  (∀ i,VRel G h (uy o ts xs i) (((ts.zip j).foldl (fun g (x:Tmp×qq)=>g.setIfInBounds x.1 x.2) g).getD i uk))/\((ts.zip j).foldl (fun g (x:Tmp×qq)=>g.setIfInBounds x.1 x.2) g).size=g.size
 | [],xs,j,o,g,_,_,_,p,_=>by
  refine⟨?_,rfl⟩;cases xs<;>exact p
 |t :: ts,x :: xs,v :: j,o,g,C,l,I,p,J=>by
  have hv:VRel G h x v:=by simpa using I 0 x rfl
  obtain⟨P,R⟩:=nu ts xs j (fun i=>if i=t then x else o i) (g.setIfInBounds t v) (zUs C) (zUs l) (fun k y T=>by simpa using I (k+1) y (zUs T)) (fun i=>by
   by_cases U:i=t
   .simp_all
   .rw [if_neg U]
    have:(g.setIfInBounds t v).getD i uk=g.getD i uk:=by
     simp only[qV]
     grind
    rw[this];exact p i) (fun s hs=>by simpa using J s (zP1 hs))
  exact⟨P,zUs R⟩
 |_ :: _,[],_,_,_,C,_,_,_,_=>by simp at C
 |_ :: _,_ :: _,[],_,_,_,l,_,_,_=>by simp at l
theorem nv{n}{ps:Array Tmp}{J body rows I Ix tm U}
  (h1:Xm P pl n J) (h2:Xm P pl n body) (an:dOkC n J=true) (ao:dOkC n body=true) (aq:noRF J=true) (ar:noRF body=true) (au:∀ t,t∈ps.toList->t<n)
  (a4:∀ k x mu,rows[k]?=some x->I k mu->x.length=ps.size/\awp P pl J (asQ (fun st=>awp P pl body (rndQ I Ix k) st)) ⟨uy tm ps.toList x,mu⟩) :
  Yld P U rows (JJ n ps J body tm U I) (JX ps J body tm U Ix):=by
 rintro k x M hx ⟨fn,tmps,d,hM,ag,hI⟩ G w vs s ra l a3 hb;obtain⟨o,ho,av⟩:=s.obj U _ l a3 hM zSp hb;obtain⟨rfl,ab⟩:=av;obtain⟨a9,ah⟩:=a4 k x _ hx hI;have ai:vs.size=ps.size:=by rw[ra.1,a9]
 refine⟨_,_,_,_,run_yield ho ai,?_⟩;refine roundIn_of_wpIn (F:=Fence.wide) trivial ?_;simp only;have aw:(ps.zip vs).foldl (fun tmps (x:Tmp×qq)=>tmps.setIfInBounds x.1 x.2) tmps=(ps.toList.zip vs.toList).foldl (fun tmps (x:Tmp×qq)=>tmps.setIfInBounds x.1 x.2) tmps:=by
  rw[<-Array.foldl_toList,Array.toList_zip]
 have b5:=nu (G:=G) (h:=w.heap) ps.toList x vs.toList tm tmps (zUs a9) (zUs ai) (fun k y hy=>by simpa[qV,zT] using ra.2 k y hy) ab (fun t ht=>by rw[ag];exact au t ht);refine h1 (ro:=Ro.round l) (s.hid U) _ _ ⟨uy tm ps.toList x,M.set U .dead⟩ _ w G ?_ ⟨?_,fun h=>absurd h (by simp[Ro.round]),?_,Stp.refl (s.hid U),fun p hp=>by simp[Ro.round]at hp⟩ an (.inr aq) ah
 rotate_left
 .grind
 .grind
 intro ae e st1 a1 w1 G1 hq r1 he;cases ae with
 |normal =>
  cases e<;>simp only[ERel]at he
  obtain⟨ax,ay,T1⟩:=r1.stp.unhid s hM zSp hb;have aj:w1.heap[l]?=some (.loop { state := .ready,pending:=none,fn,tmps,params:=ps,assign:=J,body,defers:=d }):=by rw[ay];exact ho
  refine⟨_,run_beginRound aj rfl,?_⟩;simp only;have ak:U<st1.mu.length:=(qh.1 ax).1;have ad:G1.blk[U]?=some (l,a3):=r1.stp.le.blk _ _ hb;have al:l<w1.heap.size:=(yA.1 aj).1;have W1:=sW (w:=w1) (w':=w1.putObj l (.loop { state := .busy,pending:=none,fn,tmps,params:=ps,assign:=J,body,defers:=d })) T1.sim U _
   (.lp { state := .busy,pending:=none,fn,tmps,params:=ps,assign:=J,body,defers:=d } tm) l a3 _ (qz ak) zSp zSp ad zSp (World.putObj_heap_same al)
   (fun b af=>uS af) rfl rfl rfl ⟨rfl,fun i=>((ab i).mono r1.stp.le (r1.stp.ext (s.hid U)))⟩
  simp only[List.set_set]at W1;have aa:∀ c:Cell,(st1.mu.set U c).set U .dead=st1.mu:=by
   intro c;rw[List.set_set];apply jZ
   grind
  have s1:=W1.sim.hid U;rw[aa]at s1;refine h2 (ro:=Ro.round l) s1 _ _ st1 a1 _ G1 ?_ ⟨fun i=>(r1.tm i).mono (.refl G1) (W1.ext T1.sim),fun h=>absurd h (by simp[Ro.round]),r1.size,Stp.refl s1,fun p hp=>by simp[Ro.round]at hp⟩ ao (.inr ar) hq;intro az e2 st2 a2 w2 G2 a5 r2 a6;have b0:Stp G1 ((st1.mu.set U (.lp { state := .busy,pending:=none,fn,tmps,params:=ps,assign:=J,body,defers:=d } tm)).set U .dead) (w1.putObj l (.loop { state := .busy,pending:=none,fn,tmps,params:=ps,assign:=J,body,defers:=d })) G2 st2.mu w2:=by
   rw[aa];exact r2.stp
  obtain⟨b1,b2,T2⟩:=b0.unhid W1.sim (qz ak) zSp ad;have a7:w2.heap[l]?=some (.loop { state := .busy,pending:=none,fn,tmps,params:=ps,assign:=J,body,defers:=d }):=by rw[b2];exact World.putObj_heap_same al
  have a8:U<st2.mu.length:=(qh.1 b1).1;have b3:G2.blk[U]?=some (l,a3):=T2.le.blk _ _ ad;have b4:l<w2.heap.size:=(yA.1 a7).1;have T:Stp G M w G2 (st2.mu.set U (.lp { state := .busy,pending:=none,fn,tmps,params:=ps,assign:=J,body,defers:=d } tm)) w2:=(T1.trans s W1).trans s T2;have a0:∀ c:Cell,(st2.mu.set U c).set U .dead=st2.mu:=by
   intro c;rw[List.set_set];apply jZ
   grind
  have fin:∀(R:Option Code),Stp G M w G2 (st2.mu.set U (.lp { state:=if R.isNone then .ready else .done,pending:=R,fn,tmps,params:=ps,assign:=J,body,defers:=d } tm))
    (w2.putObj l (.loop { state:=if R.isNone then .ready else .done,pending:=R,fn,tmps,params:=ps,assign:=J,body,defers:=d })):=by
   intro R;have W2:=sW (w:=w2) (w':=w2.putObj l (.loop { state:=if R.isNone then .ready else .done,pending:=R,fn,tmps,params:=ps,assign:=J,body,defers:=d })) T2.sim U _
    (.lp { state:=if R.isNone then .ready else .done,pending:=R,fn,tmps,params:=ps,assign:=J,body,defers:=d } tm) l a3 _ (qz a8) zSp zSp b3 zSp (World.putObj_heap_same b4)
    (fun b af=>uS af) rfl rfl rfl ⟨rfl,fun i=>((ab i).mono T.le (T.ext s))⟩
   simp only[List.set_set]at W2;exact T.trans s W2
  cases az with
  |normal =>
   cases e2<;>simp only[ERel]at a6
   refine⟨_,_,run_endRound none a7,true,G2,_,rfl,fin none,.inl ⟨rfl,fn,tmps,d,qz a8,ag,?_⟩⟩;rw[a0];exact a5
  |ret =>
   cases e2<;>simp only[ERel]at a6
   refine⟨_,_,run_endRound (some .ret) a7,false,G2,_,rfl,fin (some .ret),.inr ⟨rfl,fn,tmps,d,.ret,.ret,qz a8,rfl,?_⟩⟩;rw[a0];exact a5
  |exit id =>
   cases e2<;>simp only[ERel]at a6
   subst a6;refine⟨_,_,run_endRound (some (.exit id)) a7,false,G2,_,rfl,fin (some (.exit id)),.inr ⟨rfl,fn,tmps,d,.exit id,.exit id,qz a8,rfl,?_⟩⟩;rw[a0];exact a5
  |pan v=>exact a5.elim
 |ret=>exact hq.elim
 |exit id=>exact hq.elim
 |pan v=>exact hq.elim
theorem V8{n}:∀ c,Xm P pl n c:=by
  intro c;induction c with
  |skip=>intro ro G0 a0 w0 s0 Q QQ U a w G hf r _ _ h;exact wpIn_skip (hf .normal .normal U a w G h r trivial)
  |label l=>intro ro G0 a0 w0 s0 Q QQ U a w G hf r _ _ h;exact wpIn_label (hf .normal .normal U a w G h r trivial)
  |exit id=>intro ro G0 a0 w0 s0 Q QQ U a w G hf r _ _ h;exact wpIn_exit (hf (.exit id) (.exit id) U a w G h r rfl)
  |ret=>intro ro G0 a0 w0 s0 Q QQ U a w G hf r _ _ h;exact wpIn_ret (hf .ret .ret U a w G h r trivial)
  |region id R cv =>
    intro ro G0 a0 w0 s0 Q QQ U a w G hf r hd hn h;rcases h with ⟨rfl,h2⟩|⟨rfl,h2⟩
    · refine wpIn_region_list (VY s0 (fun U a w G hq r=>hf .normal .normal U a w G hq r trivial) (fun v U a w G u hq r hv=>hf (.pan v) (.panic _) U a w G hq r ⟨u,rfl,hv⟩) _ U a w G r hd h2)
    · obtain⟨st1,ay,h2⟩:=h2
      obtain⟨G1,r1⟩:=r.fz s0 ay;refine wpIn_region_draw fun t=>?_
      exact qiI s0 hd (fun U a w G hq r=>hf .normal .normal U a w G hq r trivial) (fun v U a w G u hq r hv=>hf (.pan v) (.panic _) U a w G hq r ⟨u,rfl,hv⟩) (r1.drew s0) h2 _ t
  |seq x y az b0 =>
    intro ro G0 a0 w0 s0 Q QQ U a w G hf r hd hn h;simp only[dOkC,qD]at hd;simp only[noRF,qD]at hn;refine wpIn_seq (az s0 _ _ U a w G ?_ r hd.1 (hn.imp id And.left) h);intro ae e T a' w' G' hq r' he;cases ae<;>cases e<;>simp only[ERel]at he
    · exact b0 s0 Q QQ T a' w' G' hf r' hd.2 (hn.imp id And.right) hq
    · exact hf (.exit _) (.exit _) T a' w' G' hq r' he
    · exact hf .ret .ret T a' w' G' hq r' trivial
    · exact hf (.pan _) (.panic _) T a' w' G' hq r' he
  |cond b1 x y az b0 =>
    intro ro G0 a0 w0 s0 Q QQ U a w G hf r hd hn h;simp only[dOkC,qD]at hd;simp only[noRF,qD]at hn;obtain⟨t,ht,h1,h2⟩:=h;have rc:=r.ev b1;rw[ht]at rc;have ec:a.eval b1 = .bool t:=by generalize a.eval b1=v at rc;cases rc;rfl
    refine wpIn_cond_split ec (fun e=>az s0 Q QQ U a w G hf r hd.1 (hn.imp id And.left) (h1 e)) (fun e=>b0 s0 Q QQ U a w G hf r hd.2 (hn.imp id And.right) (h2 e))
  |block id J ih =>
    intro ro G0 a0 w0 s0 Q QQ U a w G hf r hd hn h;refine wpIn_block (ih s0 _ _ U a w G ?_ r hd hn h);intro ae e T a' w' G' hq r' he;cases ae<;>cases e<;>simp only[ERel]at he
    · exact hf .normal .normal T a' w' G' hq r' trivial
    · subst he
      simp only[vI]at hq;simp only[Exit.inBlock];split at hq
      · rename_i hid;rw[if_pos hid];exact hf .normal .normal T a' w' G' hq r' trivial
      · rename_i hid;rw[if_neg hid];exact hf (.exit _) (.exit _) T a' w' G' hq r' rfl
    · exact hf .ret .ret T a' w' G' hq r' trivial
    · exact hf (.pan _) (.panic _) T a' w' G' hq r' he
  |loop J ih =>
    intro ro G0 a0 w0 s0 Q QQ U a w G hf r hd hn h;obtain⟨z,I,n0,st1,ay,hI,a3⟩:=h;obtain⟨G1,r1⟩:=r.fz s0 ay;have hf:=hf.fz s0 z;refine wpIn_loop_ghost (fun k a w=>∃ U G,I k U/\Rel ro G0 a0 w0 n G U a w) n0 ⟨st1,G1,hI,r1⟩ ?_;intro k a' w' ⟨T,G',bv,r'⟩;refine ih s0 _ _ T a' w' G' ?_ r' hd hn (a3 k T bv);intro ae e st2 a2 w2 G2 hq r2 he;cases ae<;>cases e<;>simp only[ERel]at he
    · obtain⟨m,hm,bw⟩:=hq
      exact⟨m,hm,st2,G2,bw,r2⟩
    · exact hf (.exit _) (.exit _) st2 a2 w2 G2 hq r2 he
    · exact hf .ret .ret st2 a2 w2 G2 hq r2 trivial
    · exact hf (.pan _) (.panic _) st2 a2 w2 G2 hq r2 he
  |scope J ih =>
    intro ro G0 a0 w0 s0 Q QQ U a w G hf r hd hn h;refine nt (ih s0 Q _ U a w G ?_ r hd hn h);intro ae e T a' w' G' hq r' he;cases ae<;>cases e<;>simp only[ERel]at he
    · exact hf .normal .normal T a' w' G' hq r' trivial
    · exact hf (.exit _) (.exit _) T a' w' G' hq r' he
    · exact hf .ret .ret T a' w' G' hq r' trivial
    · exact hf (.pan _) (.panic _) T a' w' G' hq r' he
  |rangeFunc g ps a7 J b9 bb =>
    intro ro G0 a0 w0 s0 Q QQ U a w G hf r hd hn h;have b2:ro.rd=none/\ro.mks=true:=by
      rcases hn with hn|hn
      · exact hn
      · simp[noRF]at hn
    simp only[dOkC,qD,q8,decide_eq_true_eq]at hd;obtain⟨⟨⟨⟨bc,be⟩,bg⟩,bh⟩,bi⟩:=hd;obtain⟨z,gf,aw,rows,I,Ix,hg,ag,h0,a3,bj,ai⟩:=h;have hf:=hf.fz s0 z;refine wpIn_rangeFunc fun fn _=>?_
    have eg:=r.ev g;rw[hg]at eg;generalize hq:a.eval g=gv at eg;cases eg with
    |fn _ _ _ ca ah cb hm hv hw =>
    have e0:ca=#[]:=Array.eq_empty_of_size_eq_zero (zUs cb);subst e0;have bk:yN P gf:=by rcases ag with h|h;exact h.1.1;exact h.1
    generalize aj:(Loop.mk .ready none fn a.tmps ps a7 J w.heap.size)=C;have a4:∃ w1,w1=(w.alloc (.deferred (some []))).alloc (.loop C):=⟨_,rfl⟩;obtain⟨w1,a4⟩:=a4;have cw:w1.heap.size=w.heap.size+2:=by rw[a4];simp
    have ak:∀ b,b<w.heap.size->w1.heap[b]?=w.heap[b]?:=by
      intro b hb;rw[a4,Below.heap_alloc _ _ b zSo,Below.heap_alloc _ _ b hb]
    have cc:w1.heap[w.heap.size]?=some (.deferred (some [])):=by
      rw[a4,Below.heap_alloc _ _ _ zSp];exact World.alloc_heap_new w _
    have cd:w1.heap[w.heap.size+1]?=some (.loop C):=by
      rw[a4];have:=World.alloc_heap_new (w.alloc (.deferred (some []))) (.loop C);simpa using this
    have sG:=r.stp.sim;have a8:∀ b,Live G U.mu b->b<w.heap.size:=fun b hb=>sG.livesize hb
    have a5:∃ G1:Gh,G1=⟨G.imm,G.blk++[(w.heap.size+1,0)]⟩:=⟨_,rfl⟩;obtain⟨G1,a5⟩:=a5;have al:G.le G1:=by
      rw[a5];exact⟨fun _ h=>h,fun i x hx=>by simp only;rw[qG (qh.1 hx).1];exact hx⟩
    have ad:Ext G w.heap w1.heap:=⟨zOm,fun b hb=>ak b (sG.imm b hb)⟩;have a9:G1.blk[U.mu.length]?=some (w.heap.size+1,0):=by rw[a5,<-sG.len];simp
    have a1:∀(j:Nat)(c:Cell)(bt:Nat×Nat),(U.mu++[Cell.lp C U.tm])[j]?=some c->G1.blk[j]?=some bt->(U.mu[j]?=some c/\G.blk[j]?=some bt)\/(j=U.mu.length/\c = .lp C U.tm/\bt=(w.heap.size+1,0)):=by
      intro j c bt hj aa;by_cases bl:j<U.mu.length
      · rw[qG bl]at hj
        rw[a5]at aa;simp only at aa;rw[qG (by rw[sG.len];exact bl)]at aa;exact .inl ⟨hj,aa⟩
      · have cf:=(qh.1 hj).1
        simp at cf;have:j=U.mu.length:=zOm;subst this;rw[a9]at aa;simp at hj aa;exact .inr ⟨rfl,hj.symm,aa.symm⟩
    have s1:Sim G1 (U.mu++[Cell.lp C U.tm]) w1.heap:=by
      refine⟨by rw[a5];simp[sG.len],fun b hb=>?_,?_,?_,?_,sG.tab.mono al.imm ad.keep⟩
      · rw[a5]at hb;have:=sG.imm b hb;omega
      · intro j c b3 an g1 g2 g3
        rcases a1 j c _ g1 g3 with ⟨q1,q2⟩|⟨rfl,rfl,q⟩
        · obtain⟨o,k1,k2⟩:=sG.obj j c b3 an q1 g2 q2
          exact⟨o,by rw[ak _ (yA.1 k1).1];exact k1,k2.mono al ad⟩
        · obtain⟨rfl,rfl⟩:=Prod.mk.inj q
          refine⟨_,cd,rfl,fun i=>?_⟩;rw[<-aj];exact(r.tm i).mono al ad
      · intro j c b3 an g1 g2 g3
        rcases a1 j c _ g1 g3 with ⟨q1,q2⟩|⟨rfl,rfl,q⟩
        · have:=sG.live j c b3 an q1 g2 q2
          rw[a5];exact this
        · obtain⟨rfl,rfl⟩:=Prod.mk.inj q
          rw[a5];intro bm;have:=sG.imm _ bm;omega
      · intro i j ci cj b ti tj g1 g2 g3 g4 g5 g6
        rcases a1 i ci _ g1 g5 with ⟨q1,q2⟩|⟨rfl,rfl,q⟩<;>rcases a1 j cj _ g2 g6 with ⟨p1,p2⟩|⟨rfl,rfl,p⟩
        · exact sG.inj i j ci cj b ti tj q1 p1 g3 g4 q2 p2
        · obtain⟨rfl,rfl⟩:=Prod.mk.inj p
          have:=a8 _ ⟨i,ci,ti,q1,g3,q2⟩;omega
        · obtain⟨rfl,rfl⟩:=Prod.mk.inj q
          have:=a8 _ ⟨j,cj,tj,p1,g4,p2⟩;omega
        · rfl
    have af:∀ b,Live G1 (U.mu++[Cell.lp C U.tm]) b->Live G U.mu b\/b=w.heap.size+1:=by
      rintro b ⟨j,c,an,g1,g2,g3⟩;rcases a1 j c _ g1 g3 with ⟨q1,q2⟩|⟨rfl,rfl,q⟩
      · exact .inl ⟨j,c,an,q1,g2,q2⟩
      · exact .inr (Prod.mk.inj q).1
    have t1:Stp G U.mu w G1 (U.mu++[Cell.lp C U.tm]) w1:=by
      refine⟨al,s1,fun b hb _=>ak b hb,zOm,fun b hb=>?_,fun b hb=>?_,by rw[a4];rfl,by rw[a4];rfl,by rw[a4];rfl,by rw[a4];exact qj _⟩
      · rcases af b hb with h|h
        · exact .inl h
        · exact .inr zOm
      · rw[a5]at hb;exact .inl hb
    have cg:Mk G1 (U.mu++[Cell.lp C U.tm]) w1.heap w.heap.size:=by
      refine⟨cc,fun hb=>?_,fun hb=>?_⟩
      · rcases af _ hb with h|h
        · have:=a8 _ h;omega
        · omega
      · rw[a5]at hb;have:=sG.imm _ hb;omega
    have bn:JJ n ps a7 J U.tm U.mu.length I 0 (U.mu++[Cell.lp C U.tm]):=by
      refine⟨fn,a.tmps,w.heap.size,by rw[aj];simp,r.size,?_⟩;have:(U.mu++[Cell.lp C U.tm]).set U.mu.length .dead=U.mu++[.dead]:=zSp;rw[this];exact h0
    have bo:∀(X:Mu->Prop)(M:Mu)(c:Cell),Stb X->M[U.mu.length]?=some c->X (M.set U.mu.length .dead)->X ((M++[Cell.dead]).set U.mu.length Cell.dead):=by
      intro X M c hX hM hx;rw[List.set_append_left _ _ (qh.1 hM).1];exact hX _ hx
    have ch:qv P gf (.yl U.mu.length :: aw) (U.mu++[Cell.lp C U.tm]) fun e bq=>∃ r,e = .ret r/\(JJ n ps a7 J U.tm U.mu.length I rows.length bq\/JX ps a7 J U.tm U.mu.length Ix bq):=by
      rcases ag with ⟨ag,hS,ck⟩|ag
      rotate_left
      · exact ag.2 U.mu.length _ _ (nv b9 bb be bg bh bi bc a3) _ bn
      exact ag.2 U.mu.length (JJ n ps a7 J U.tm U.mu.length I) (JX ps a7 J U.tm U.mu.length Ix)
       (fun k M ⟨f',t',d',q1,q2,q3⟩=>⟨f',t',d',by rw[qG (qh.1 q1).1];exact q1,q2,bo _ M _ (hS k) q1 q3⟩)
       (fun M ⟨f',t',d',e',c',q1,q2,q3⟩=>⟨f',t',d',e',c',by rw[qG (qh.1 q1).1];exact q1,q2,bo _ M _ (ck e') q1 q3⟩)
       (nv b9 bb be bg bh bi bc a3) _ bn
    have b4:zV G1 w1.heap (.yl U.mu.length :: aw) (#[Value.func (.yield (w.heap.size+1)) #[] #[]]++ah):=by
      refine⟨by simp[hm];omega,fun k x hx=>?_⟩;cases k with
      |zero =>
        simp at hx;subst hx;have e:(#[Value.func (.yield (w.heap.size+1)) #[] #[]]++ah).getD 0 uk=Value.func (.yield (w.heap.size+1)) #[] #[]:=by
          simp only[qV];rw[Array.getElem?_append_left zSp];simp
        rw[e];exact VRel.yl _ _ 0 a9
      |succ k =>
        have:=(hw k x (zUs hx)).mono al ad;have e:(#[Value.func (.yield (w.heap.size+1)) #[] #[]]++ah).getD (k+1) uk=ah.getD k uk:=by
          simp only[qV];rw[Array.getElem?_append_right zSp];simp
        rw[e];exact this
    refine⟨w.heap.size+1,[mkOf w.heap.size],w1,⟨.fn (.func gf) ah,#[Value.func (.yield (w.heap.size+1)) #[] #[]]⟩,w1,gf,#[Value.func (.yield (w.heap.size+1)) #[] #[]]++ah,w1,?_,?_,fun _ _=>trivial,?_,fun h=>by simp[WF,Fence.wide]at h,?_⟩
    · rw[a4,<-aj,show (WF ro).round=none from b2.1];exact run_enterLoop_outer fn a.tmps ps a7 J
    · simp only[resolve,zF,hq,Deferred.ofValue]
      simp[Act.eval]
    · simp only[invoke]
      exact bk _ w1
    · have ar:=ch.2 G1 w1 _ s1 b4
      have:=(callsIn_wide (n:=0)).2 (ar.mono (R':=rangePost (WF ro) 0 P (w.heap.size+1) QQ { a with defers:=mkOf w.heap.size :: a.defers }) ?_)
      · exact this
      rintro e w3 ⟨G3,a6,t3,br⟩;have hR:(∃ v,e = .returned v)/\(JJ n ps a7 J U.tm U.mu.length I rows.length a6\/JX ps a7 J U.tm U.mu.length Ix a6):=by
        rcases br with ⟨rv,v,⟨cl,he,hR⟩,rfl,cx⟩|⟨rv,v,⟨cl,he,_⟩,_⟩
        · exact⟨⟨v,rfl⟩,hR⟩
        · exact absurd he zSp
      clear br;obtain⟨⟨v,rfl⟩,hR⟩:=hR;have tt:Stp G U.mu w G3 a6 w3:=t1.trans sG t3;have cm:Stp G0 a0 w0 G3 a6 w3:=r.stp.trans s0 tt;have b5:G3.blk[U.mu.length]?=some (w.heap.size+1,0):=t3.le.blk _ _ a9
      have fin:∀(rc:Loop)(e:qX)(ee:Exit),a6[U.mu.length]?=some (.lp rc U.tm)->fzQ z Q e ⟨U.tm,a6.set U.mu.length .dead⟩->(∀ G w,ERel G w e ee)->QQ ee { a with defers:=mkOf w.heap.size :: a.defers } (w3.putObj (w.heap.size+1) (.loop { rc with state := .exhausted })):=by
        intro rc e ee av cn cp;have cq:=t3.sim.hid_not av zSp b5;have bs:=t3.sim.live _ _ _ _ av zSp b5;have td:Stp G0 a0 w0 G3 (a6.set U.mu.length .dead) w3:=cm.trans s0 (Stp.drop t3.sim U.mu.length);have b6:w0.heap.size<=w.heap.size:=r.stp.size;have tp:Stp G0 a0 w0 G3 (a6.set U.mu.length .dead) (w3.putObj (w.heap.size+1) (.loop { rc with state := .exhausted })):=by
          refine⟨td.le,td.sim.putOther cq bs,fun b b7 hl=>?_,by simpa using td.size,td.live,td.inew,td.tape,td.os,td.output,td.drawn⟩;rw[uS zOm];exact td.keep b b7 hl
        have ao:Ext G3 w3.heap (w3.putObj (w.heap.size+1) (.loop { rc with state := .exhausted })).heap:=
          ⟨zSp,fun b b7=>uS (fun (e:b=_)=>bs (e ▸ b7))⟩
        have bu:∀ D,Mk G1 (U.mu++[Cell.lp C U.tm]) w1.heap D->D≠w.heap.size+1->Mk G3 (a6.set U.mu.length .dead) (w3.putObj (w.heap.size+1) (.loop { rc with state := .exhausted })).heap D:=by
          intro D m cr;have m3:=m.step t3;exact⟨by rw[uS cr];exact m3.obj,fun h=>m3.nlive h.hid,m3.nimm⟩
        refine hf e ee ⟨U.tm,a6.set U.mu.length .dead⟩ _ _ G3 cn ⟨fun i=>?_,fun _=>?_,r.size,tp,fun p hp=>(tt.vrel sG (r.kp p hp)).mono (.refl G3) ao⟩ (cp _ _)
        · exact(tt.vrel sG (r.tm i)).mono (.refl G3) ao
        · obtain⟨Ds,⟨cs,_⟩,ct,b8⟩:=r.df b2.1
          have ax:∀ D,D∈Ds->D<w.heap.size:=fun D hD=>(yA.1 (b8 D hD).2.obj).1
          refine⟨w.heap.size :: Ds,⟨zP1 cs,fun h=>by rw[b2.2]at h;cases h⟩,jX.2 ⟨fun h=>absurd (ax _ h) zOm,ct⟩,fun D hD=>?_⟩;rcases qy.1 hD with rfl|hD
          · exact⟨b6,bu _ cg zOm⟩
          · exact⟨(b8 D hD).1,bu _ ((b8 D hD).2.step t1) (zW1 (ax D hD))⟩
      have aq:∀(rc:Loop),a6[U.mu.length]?=some (.lp rc U.tm)->w3.heap[w.heap.size+1]?=some (.loop rc):=by
        intro rc av;obtain⟨o,ho,cu⟩:=t3.sim.obj _ _ _ _ av zSp b5;obtain⟨rfl,_⟩:=cu;exact ho
      rcases hR with ⟨f',t',d',q1,q2,q3⟩|⟨f',t',d',e',c',q1,q2,q3⟩
      · refine⟨_,_,run_endLoop (aq _ q1) zSp,?_⟩
        exact fin _ .normal .normal q1 (bj _ q3) (fun _ _=>trivial)
      · refine⟨_,_,run_endLoop (aq _ q1) zSp,?_⟩
        cases e' with
        |ret =>
          simp only[JB,qo]at q2;subst q2;exact wpIn_ret (fin _ .ret .ret q1 (ai _ _ q3) (fun _ _=>trivial))
        |exit id =>
          simp only[JB,qo]at q2;subst q2;exact wpIn_exit (fin _ (.exit id) (.exit id) q1 (ai _ _ q3) (fun _ _=>rfl))
        |normal=>simp[JB]at q2
        |pan v=>simp[JB]at q2
  |goto l=>intro ro G0 a0 w0 s0 Q QQ U a w G hf r hd hn h;exact h.elim
  |refuse cy=>intro ro G0 a0 w0 s0 Q QQ U a w G hf r hd hn h;exact h.elim
def resV(P:qb)(st:St):ResultVar->Option AV
 | .tmp t=>some (st.tm t)
 | .cell a t=>wK P st.mu t (st.tm a)
def resL(P:qb)(st:St):List ResultVar->Option (List AV)
 | []=>some []
 |r :: g=>match resV P st r,resL P st g with|some x,some p=>some (x :: p)|_,_=>none
def jR(P:qb)(st:St):List ResultVar->Option AV
 | [r]=>resV P st r
 |g=>(resL P st g).map .tup
def JC(g:Array qq):ResultVar->Sem qq
 | .tmp t=>pure (g.getD t uk)
 | .cell a t=>do loadVar t (<-asAddr (g.getD a uk))
theorem ny{ro i g j n}(r:Rel ro i g j n G st a w){x z}(h:resV P st x=some z) :
  ∃ u,(JC a.tmps x).run P w = .ok u w/\VRel G w.heap z u:=by
 cases x with
 |tmp t=>simp only[resV,qo]at h;subst h;exact⟨_,rfl,r.tm t⟩
 |cell l t =>
  obtain⟨b,u,o,p,C⟩:=pI (P:=P) r.stp.sim (r.tm l) h
  grind [JC,asAddr,qP,zF,qR]
theorem qiK{ro o i p n}(r:Rel ro o i p n G st a w):∀ l zs,resL P st l=some zs ->
  ∃ g,(l.mapM (JC a.tmps)).run P w = .ok g w/\g.length=zs.length/\g.length=l.length/\∀(k:Nat) z,zs[k]?=some z->∃ u,g[k]?=some u/\VRel G w.heap z u:=by
 intro l;induction l with
 |nil=>intro zs h;simp only[resL,qo]at h;simp_all
 |cons x l t =>
  intro zs h;simp only[resL]at h;split at h
  .rename_i z j C I
   simp only[qo]at h;subst h;obtain⟨u,g1,U⟩:=ny r C;obtain⟨g,J,R,T,k4⟩:=t j I;refine⟨u :: g,by simp[List.mapM_cons,g1,J],zP1 R,zP1 T,fun k z' hz=>?_⟩
   grind
  grind
theorem ZA{fn ro C j I n}(r:Rel ro C j I n G st a w){z}(h:jR P st fn.results.toList=some z) :
  ∃ u,(results fn a.tmps).run P w = .ok u w/\VRel G w.heap z u:=by
 have i:∀ g:List qq,(fn.results.toList.mapM (JC a.tmps)).run P w = .ok g w->(results fn a.tmps).run P w = .ok (if h:g.toArray.size=1 then g.toArray[0] else .tuple g.toArray) w:=by
  intro g l;have e:results fn a.tmps=(do let o <-fn.results.mapM (JC a.tmps);pure (if h:o.size=1 then o[0] else .tuple o)):=rfl;rw[e];simp only[Array.mapM_eq_mapM_toList,qP,Sem.run_map,l,qR,zF]
 unfold jR at h;split at h
 .rename_i x hx
  obtain⟨u,h1,h2⟩:=ny r h;simp_all
 .rename_i rs J
  cases p:resL P st fn.results.toList with
  |none=>simp[p]at h
  |some zs =>
   simp only[p,zd,qo]at h;subst h;obtain⟨g,R,T,k3,U⟩:=qiK r _ _ p;have t:g.toArray.size≠1:=by
    grind [List.size_toArray,List.length_eq_one_iff]
   refine⟨_,i g R,?_⟩;rw[dif_neg t];refine .tup _ _ (zP1 T) (fun k z hz=>?_);obtain⟨u,hu,hv⟩:=U k z hz;have:g.toArray.getD k uk=u:=by simp[qV,hu]
   rw[this];exact hv
def st0(args:List AV)(mu:Mu):St:=⟨fun i=>(args[i]?).getD (.sc uk),mu⟩
def uZ(P:qb)(g:List ResultVar)(R:AEnd->Mu->Prop):qX->St->Prop
 | .normal,U | .ret,U=>OptK (jR P U g) fun r=>R (.ret r) U.mu
 | .pan v,U=>R (.pan v) U.mu
 | .exit _,_=>False
theorem Rel.left{ro}(o:ro.rd=none){C j I n G st a w}(r:Rel ro C j I n G st a w):∃(g:List Nat),a.defers=g.map mkOf++ro.dl/\g.Nodup/\(∀ D,D∈g->w.heap[D]?=some (.deferred (some []))) /\
  Rel ro C j I n G st { a with defers:=ro.dl } (uW g w)/\∀ x v,VRel G w.heap x v->VRel G (uW g w).heap x v:=by
 obtain⟨g,⟨R,_⟩,J,P⟩:=r.df o;obtain⟨T,t⟩:=gU g w J P r.stp;exact⟨g,R,J,fun D U=>(P D U).2.obj,⟨fun i=>(r.tm i).mono (.refl G) t,fun _=>Dfs.nil _ _ _ _ _ _,r.size,T,fun p hp=>(r.kp p hp).mono (.refl G) t⟩,fun x v h=>h.mono (.refl G) t⟩
theorem fM{ro}{fn:Func}{g}(s:Sim G mu w.heap)(l:zV G w.heap args g)(P:args.length<=fn.ntmps)(o:ro.dl=[]:=by rfl)(t:ro.kp=[]:=by rfl) :
  Rel ro G mu w fn.ntmps G (st0 args mu) { tmps:=g++Array.replicate (fn.ntmps-g.size) uk,defers:=[] } w:=by
 have R:g.size<=fn.ntmps:=by rw[l.1];exact P
 refine⟨fun i=>?_,fun _=>⟨[],⟨zP1 o,fun _=>rfl⟩,List.nodup_nil,zSp⟩,zSo,Stp.refl s,fun p I=>by rw[t]at I;simp at I⟩;simp only[st0];by_cases T:i<args.length
 .have J:args[i]?=some args[i]:=by simp[T]
  have e:(g++Array.replicate (fn.ntmps-g.size) uk).getD i uk=g.getD i uk:=by
   simp only[qV]
   grind
  rw[J,e];exact l.2 i _ J
 .rw [List.getElem?_eq_none zOm]
  have e:(g++Array.replicate (fn.ntmps-g.size) uk).getD i uk=uk:=by
   simp only[qV];rw[Array.getElem?_append_right (by rw[l.1];omega),Array.getElem?_replicate];split<;>rfl
  rw[e];exact .sc _ rfl
theorem qv.of_awp{fn}(g:yN P f)(hf:P.funcs[f]?=some fn)(hb:fn.body=some c)
  (hn:args.length<=fn.ntmps) (hd:dOkC fn.ntmps c=true) (h:awp P pl c (uZ P fn.results.toList R) (st0 args mu)):qv P f args mu R:=by
 refine⟨g,fun G w vs s ra=>?_⟩;refine(callsIn_wide (n:=0)).1 (callsIn_of_wp_marks hf hb trivial ?_);refine V8 (n:=fn.ntmps) c (ro:=Ro.fn) s _ _ (st0 args mu) _ w G ?_ ?_ hd (.inl ⟨rfl,rfl⟩) h
 .intro ae e U a l o j r T
  obtain⟨Ds,g1,g2,g3,i,p⟩:=r.left rfl;have key:∀(u:FrameMode)(R:Ending->qf->Prop),u ≠ .run->LeavesIn Fence.wide 0 P fn a.tmps R [] u (uW Ds l)->LeavesInM Fence.wide 0 P fn a.tmps R a.defers u l:=by
   intro u R hu hl;rw[g1];exact W9 hu Ds l g2 g3 hl
  cases ae<;>cases e<;>simp only[ERel]at T
  .obtain ⟨z,t,C⟩:=j
   obtain⟨u,I,J⟩:=ZA i t;exact key .returning _ zSp ⟨u,I,o,U.mu,i.stp,.inl ⟨z,u,C,rfl,J⟩⟩
  .exact j.elim
  .obtain ⟨z,t,C⟩:=j
   obtain⟨u,I,J⟩:=ZA i t;exact key .returning _ zSp ⟨u,I,o,U.mu,i.stp,.inl ⟨z,u,C,rfl,J⟩⟩
  .obtain ⟨v,rfl,hv⟩:=T
   exact key (.panicking _) _ zSp ⟨o,U.mu,i.stp,.inr ⟨_,v,j,rfl,p _ _ hv⟩⟩
 .exact fM s ra hn
theorem Sim.empty{g h}(l:∀ b,g b->b<h.size)(o:Zr g h):Sim ⟨g,[]⟩ [] h:=
 ⟨rfl,l,fun i c b t h=>by simp at h,fun i c b t h=>by simp at h,fun i j ci p b t C h=>by simp at h,o⟩
theorem qg.of_sound{r}(h:qv P f args [] fun e mu'=>∃ p,e = .ret p/\Rd mu' p r):qg P f args r:=by
 obtain⟨l,h⟩:=h;refine⟨l,fun o w T hi ra=>?_⟩;refine(h ⟨o,[]⟩ w T hi ra).mono fun e w' ⟨J,mu',U,hR⟩=>?_
 have g:∀ b,¬Live ⟨o,[]⟩ [] b:=fun b ⟨i,c,t,hc,_⟩=>by simp at hc
 rcases hR with ⟨p,v,⟨C,R,I⟩,rfl,hv⟩|⟨p,v,⟨C,R,_⟩,_⟩
 .cases R
  refine⟨fun b=>J.imm b\/Live J mu' b,v,rfl,fun b j => .inl (U.le.imm b j),fun b j=>?_,⟨⟨U.os,U.tape,U.output,U.size,fun k hk=>U.keep k hk (g k)⟩,U.drawn⟩,I.sound U.sim hv⟩;rcases j with j|j
  .refine ⟨U.sim.imm b j,?_⟩
   rcases U.inew b j with h|h|h
   .exact .inl h
   .exact absurd h (g b)
   .exact .inr h
  .refine ⟨U.sim.livesize j,?_⟩
   rcases U.live b j with h|h
   .exact absurd h (g b)
   .exact .inr h
 grind
theorem qSW{fn}(g:yN P f)(hf:P.funcs[f]?=some fn)(i:fn.body=some c)(pl)(h:awp P pl c (uZ P fn.results.toList R) (st0 args mu))(j:Nat.ble args.length fn.ntmps=true:=by kernel_rfl)(l:dOkC fn.ntmps c=true:=by kernel_rfl):qv P f args mu R:=qv.of_awp g hf i (vX j) l h
theorem qSQ{fn r}(g:yN P f)(hf:P.funcs[f]?=some fn)(j:fn.body=some c)(pl)(h:awp P pl c (uZ P fn.results.toList fun e mu'=>∃ i,e = .ret i/\Rd mu' i r) (st0 args []))(l:Nat.ble args.length fn.ntmps=true:=by kernel_rfl)(o:dOkC fn.ntmps c=true:=by kernel_rfl):qg P f args r:=qg.of_sound (qSW g hf j pl h l o)
theorem qSV{fn r}(g:yN P f)(hf:P.funcs[f]?=some fn)(j:fn.body=some c)(h:awp P {} c (uZ P fn.results.toList fun e mu'=>∃ i,e = .ret i/\Rd mu' i r) (st0 args []))(l:Nat.ble args.length fn.ntmps=true:=by kernel_rfl)(o:dOkC fn.ntmps c=true:=by kernel_rfl):qg P f args r:=qg.of_sound (qSW g hf j {} h l o)
theorem qSU{fn r Q}(g:yN P f)(hf:P.funcs[f]?=some fn)(j:fn.body=some c)(k:Q)(e:awp P {} c (uZ P fn.results.toList fun e mu'=>∃ i,e = .ret i/\Rd mu' i r) (st0 args [])=Q:=by simp[go_sem];rfl)(l:Nat.ble args.length fn.ntmps=true:=by kernel_rfl)(o:dOkC fn.ntmps c=true:=by kernel_rfl):qg P f args r:=qSV g hf j (e.mpr k) l o
def RdN(mu:Mu)(x y:AV):Prop:=∀(G:Gh)(h:Array Obj)(v:qq),Sim G mu h->VRel G h x v->VRel ⟨Live G mu,[]⟩ h y v
theorem uT.of_sound{r}(h:qv P f args [] fun e mu'=>∃ o,e = .ret o/\RdN mu' o r):uT P f args r:=by
 obtain⟨j,h⟩:=h;refine⟨j,fun l w T hi ra=>?_⟩;refine(h ⟨l,[]⟩ w T hi ra).mono fun e w' ⟨I,mu',U,hR⟩=>?_
 have g:∀ b,¬Live ⟨l,[]⟩ [] b:=fun b ⟨i,c,t,hc,_⟩=>by simp at hc
 rcases hR with ⟨o,v,⟨p,J,C⟩,rfl,hv⟩|⟨o,v,⟨p,J,_⟩,_⟩
 .cases J
  refine⟨Live I mu',v,rfl,fun b R=>⟨?_,U.sim.livesize R⟩,⟨⟨U.os,U.tape,U.output,U.size,fun k hk=>U.keep k hk (g k)⟩,U.drawn⟩,C I w'.heap v U.sim hv⟩;rcases U.live b R with h|h
  .exact absurd h (g b)
  .exact h
 grind
theorem RdN.nil{full g}(h:full=true\/g=false):RdN mu (.lst full []) (.lst g []):=by
 intro G j v s r;have key:∀ cap:Nat,(full=true->cap=0)->(g=true->cap=0):=by
  grind
 cases r with
 |nil=>exact .nil _
 |emp _ a cap i=>exact .emp _ a cap (key cap i)
 |lst _ _ sz a cap l e o rd p t C i I J P R=>exact .emp _ a cap (key cap i)
theorem RdN.sl{b sz off len cells ys}(t:mu[b]?=some (.arr cells))(hl:off+len*sz<=cells.length)(J:ys.length=len)(C:ja sz ys)
  (hf:∀(k:Nat) y,ys.flatten[k]?=some y->FL y) (h:∀(k) x y,cells[off+k]?=some x->ys.flatten[k]?=some y->x=y):RdN mu (.sl b sz off len) (.lst false ys):=by
 intro G hp v s r;subst J;cases r with
 |sl _ _ _ _ i j cap I ht l =>
 obtain⟨arr,e,P,h2,h3,R⟩:=s.arr b cells i j t I;by_cases T:ys=[]
 .subst T;exact .emp false _ cap zSp
 .have U:=ym C
  have g:∀(k:Nat) y,ys.flatten[k]?=some y->∃ x,cells[off+k]?=some x:=by
   grind
  refine .lst false ys sz ⟨i,off,none⟩ cap arr e (0,0) (fun k=>arr.getD (off+k) uk) P rfl l zSp ⟨b,_,j,t,zSp,I⟩ C ?_ ?_
  .intro k y o
   obtain⟨x,p⟩:=g k y o;have:off+k<arr.size:=by grind
   simp_all
  .intro k y o
   obtain⟨x,p⟩:=g k y o;have:=h k x y p o;subst this;exact hf k x o _ _ _ _ _ (R _ x p).2
end
end Go.Ev
namespace Go.Ev
open Go Go.RowKit
section
variable {g:AV->St->Prop}{body:Code}{l:List wg}
theorem eqS{J}{a b:J}(h:a=b):a=b:=h
abbrev aI(n:Int):AV := .sc (.int .i64 n)
abbrev aB(b:Bool):AV := .sc (.bool b)
def panQ(Q:qX->St->Prop):AV->St->Prop:=fun v U=>Q (.pan v) U
def retK(R:AEnd->Mu->Prop)(m:Mu):AV->Prop:=fun r=>R (.ret r) m
def qi(P:qb)(pl:Pol)(l:List wg)(Q:St->Prop)(i:AV->St->Prop)(st:St):Prop:=∃ g,Fz st g/\Xl P pl l.toArray Q i g
theorem tR{P pl Q st}(h:Jy pl l.toArray=true)(k:awpS P pl true l.toArray l Q g st):qi P pl l Q g st:=⟨st,.refl st,.inl (.inl ⟨h,k⟩)⟩
theorem fD{P pl Q st R}(k:R)(h:Jy pl l.toArray=true:=by kernel_rfl)(e:awpS P pl true l.toArray l Q g st=R:=by simp[go_sem];rfl):qi P pl l Q g st:=tR h (e.mpr k)
theorem qi.move{P pl Q st}(a d)(h:VZ pl l.toArray a (a+d)=true)(i:(Nat.blt 0 d&&Nat.blt (a+d) l.length)=true)(k:awpS P pl true l.toArray l Q g st)(j:awpS P pl true l.toArray (jE a d l) Q g st):qi P pl l Q g st:=by
 rw[qD]at i;exact⟨st,.refl st,.inl (.inr (.inr ⟨a,d,h,vX i.1,vX i.2,k,j⟩))⟩
theorem qi.tail{P pl Q st}(n)(h:Xg pl l.toArray n=true)(k:awpS P pl true l.toArray (l.take n) (fun st=>awpS P pl false l.toArray (l.drop n) Q g st) g st):qi P pl l Q g st:=
 ⟨st,.refl st,.inl (.inr (.inl ⟨n,h,k⟩))⟩
@[go_sem ↓] theorem sameK_eq(st d mu v m):Ye st d mu v m=(v=st.tm d/\m=mu):=eqS rfl
theorem qi.fz{P pl Q st}(h:FzQ (fun _ st=>qi P pl l Q g st) (.exit 0) st):qi P pl l Q g st:=by
 obtain⟨i,f,_,st2,f2,j⟩:=h;exact⟨st2,.step f f2,j⟩
def panT(g:AV->St->Prop):AV->Mu->Prop:=fun v m=>∀ i,g v ⟨i,m⟩
@[go_sem ↓] theorem panT_eq(g v m):panT g v m=∀ i,g v ⟨i,m⟩:=eqS rfl
theorem fG{P pl Q st}(O T)(h:V5 pl l.toArray O=true)(i:plan pl l.toArray [] O=T)(j:wS P l.toArray T)(k:awpT P pl l.toArray Q g T st):qi P pl l Q g st:=by
 subst i;exact⟨st,.refl st,.inr ⟨O,h,j,k⟩⟩
def newO(P:qb):Nat->Option wg->Prop
 | 2,some o=>(match o.op with | .alloc e=>OptK (qC P e) fun z=>z.cells.all AV.one=true|_=>False)
 |_,_=>True
@[go_sem ↓] theorem newOk_nil(P ops):wS P ops []=True:=eqS rfl
@[go_sem ↓] theorem qtG(P)(l:List wg)(j k r T):wS P l.toArray ((j,k,r) :: T)=(newO P k l[j]?/\wS P l.toArray T):=by
 show ((match k,l.toArray[j]? with|2,some o=>(match o.op with | .alloc e=>OptK (qC P e) fun z=>z.cells.all AV.one=true|_=>False)|_,_=>True)/\wS P l.toArray T)=_;rw[wJ];congr 1
@[go_sem ↓] theorem newO_0:(∀ P o,newO P 0 o=True)/\(∀ P o,newO P 1 o=True):=by and_intros<;>intros<;>exact eqS rfl
@[go_sem ↓] theorem newO_2(P i e ty pos after g):newO P 2 (some ⟨i,.alloc e,ty,pos,after,g⟩)=OptK (qC P e) (fun z=>z.cells.all AV.one=true):=eqS rfl
def segK(P:qb)(pl:Pol)(l:List wg)(Q:St->Prop)(i:AV->St->Prop)(r:List Nat)(T:List (Nat×Nat×List Nat))(g:Option Tmp)(st:St):AV->Mu->Prop:=fun v m=>ux P pl l.toArray r (st.put g v m)/\awpT P pl l.toArray Q i T (st.put g v m)
def segP(g:AV->St->Prop)(k:Nat):AV->Mu->Prop:=fun v m=>k=1/\∀ i,g v ⟨i,m⟩
def segO(P:qb)(pl:Pol)(l:List wg)(Q:St->Prop)(g:AV->St->Prop)(k:Nat)(r:List Nat)(T:List (Nat×Nat×List Nat))(st:St):Option wg->Prop
 |none=>False
 |some o=>OptK (yB l.toArray st o) fun b=>Br b (qF P pl (k != 1) o.dst o.op st.ev st.mu (segK P pl l Q g r T o.dst st) (segP g k)) (awpT P pl l.toArray Q g T (st.put o.dst (.sc uk) st.mu))
@[go_sem ↓] theorem awpT_nil(P pl ops Q g st):awpT P pl ops Q g [] st=Q st:=eqS rfl
@[go_sem ↓] theorem awpT_cons(P pl l Q g j k r T st):awpT P pl l.toArray Q g ((j,k,r) :: T) st=segO P pl l Q g k r T st l[j]?:=by
 show (match l.toArray[j]? with|none=>False|some o=>OptK (yB l.toArray st o) fun b=>Br b (qF P pl (k != 1) o.dst o.op st.ev st.mu (fun v m=>ux P pl l.toArray r (st.put o.dst v m)/\awpT P pl l.toArray Q g T (st.put o.dst v m)) (fun v m=>k=1/\∀ i,g v ⟨i,m⟩)) (awpT P pl l.toArray Q g T (st.put o.dst (.sc uk) st.mu)))=_;rw[wJ];cases l[j]?<;>rfl
@[go_sem ↓] theorem segO_0(P pl l Q i r T st g op ty pos after) :
  segO P pl l Q i 0 r T st (some ⟨g,op,ty,pos,after,none⟩)=qF P pl true g op st.ev st.mu (segK P pl l Q i r T g st) noK:=by
 have:segP i 0=noK:=by funext v m;simp[segP,noK]
 show OptK (some true) (fun b=>Br b (qF P pl true g op st.ev st.mu (segK P pl l Q i r T g st) (segP i 0)) _)=_;rw[this];simp[OptK,Br]
@[go_sem ↓] theorem segO_1(P pl l Q i r T st g op ty pos after) :
  segO P pl l Q i 1 r T st (some ⟨g,op,ty,pos,after,none⟩)=qF P pl false g op st.ev st.mu (segK P pl l Q i r T g st) (panT i):=by
 have:segP i 1=panT i:=by funext v m;simp[segP,panT]
 show OptK (some true) (fun b=>Br b (qF P pl false g op st.ev st.mu (segK P pl l Q i r T g st) (segP i 1)) _)=_;rw[this];simp[OptK,Br]
@[go_sem ↓] theorem segO_2(P pl l Q i r T st g op ty pos after) :
  segO P pl l Q i 2 r T st (some ⟨g,op,ty,pos,after,none⟩)=qF P pl true g op st.ev st.mu (segK P pl l Q i r T g st) noK:=by
 have:segP i 2=noK:=by funext v m;simp[segP,noK]
 show OptK (some true) (fun b=>Br b (qF P pl true g op st.ev st.mu (segK P pl l Q i r T g st) (segP i 2)) _)=_;rw[this];simp[OptK,Br]
@[go_sem ↓] theorem segK_eq(P pl l Q i r T g st v m):segK P pl l Q i r T g st v m=(ux P pl l.toArray r (st.put g v m)/\awpT P pl l.toArray Q i T (st.put g v m)):=eqS rfl
@[go_sem ↓] theorem qtH(P pl ops st):ux P pl ops [] st=True:=eqS rfl
def nA(P:qb)(pl:Pol)(l:List wg)(st:St):Option wg->Prop
 |some o=>OptK (yB l.toArray st o) fun b=>Br b (JA P pl o st) True
 |none=>True
@[go_sem ↓] theorem qtI(P pl l p r st):ux P pl l.toArray (p :: r) st=(nA P pl l st l[p]?/\ux P pl l.toArray r st):=by
 show ((match l.toArray[p]? with|some o=>OptK (yB l.toArray st o) (fun b=>Br b (JA P pl o st) True)|none=>True)/\ux P pl l.toArray r st)=_;rw[wJ];cases l[p]?<;>rfl
@[go_sem ↓] theorem qtJ(P pl l st d op ty pos after):nA P pl l st (some ⟨some d,op,ty,pos,after,none⟩)=qF P pl true (some d) op st.ev st.mu (Ye st d st.mu) noK:=by
 show OptK (some true) (fun b=>Br b (qF P pl true (some d) op st.ev st.mu (Ye st d st.mu) noK) True)=_;simp[OptK,Br]
def qk(P:qb)(pl:Pol)(body:Code)(Q:qX->St->Prop)(st:St):Prop:=∃(z:Bool) (I:Nat->St->Prop) (n:Nat) (g:St),Fz st g/\I n g/\∀ n st,I n st->awp P pl body (uY I n (fzQ z Q)) st
theorem tW{P pl Q st}(I n)(h:I n st)(k:∀ n st,I n st->awp P pl body (uY I n Q) st):qk P pl body Q st:=⟨false,I,n,st,.refl st,h,k⟩
theorem fB{P pl Q st}(I n)(h:I n st)(k:∀ n st,I n st->awp P pl body (uY I n (FzQ Q)) st):qk P pl body Q st:=⟨true,I,n,st,.refl st,h,k⟩
def wU(P:qb)(pl:Pol)(g:AV)(ps:Array Tmp)(l body:Code)(Q:qX->St->Prop)(st:St):Prop:=
 ∃(z:Bool) (p:zZ) (i:List AV) (rows:List (List AV)) (I:Nat->Mu->Prop) (o:qX->Mu->Prop),
   g = .fn (.func p) [] i/\nr P p i rows I o/\I 0 (st.mu++[.dead]) /\
   (∀ k x j,rows[k]?=some x->I k j->x.length=ps.size/\awp P pl l (asQ (fun st=>awp P pl body (rndQ I o k) st)) ⟨uy st.tm ps.toList x,j⟩) /\
   (∀ j,I rows.length j->fzQ z Q .normal ⟨st.tm,j⟩)/\(∀ e j,o e j->fzQ z Q e ⟨st.tm,j⟩)
theorem tX{P pl j caps ps g Q st rows}(l:vJ P j caps rows)(I i)
  (o:I 0 (st.mu++[.dead])) (p:∀ k mu,I k mu->I k (mu++[.dead])) (t:∀ e mu,i e mu->i e (mu++[.dead]))
  (C:∀ k x mu,rows[k]?=some x->I k mu->x.length=ps.size/\awp P pl g (asQ (fun st=>awp P pl body (rndQ I i k) st)) ⟨uy st.tm ps.toList x,mu⟩)
  (J:∀ mu,I rows.length mu->Q .normal ⟨st.tm,mu⟩) (R:∀ e mu,i e mu->Q e ⟨st.tm,mu⟩):wU P pl (.fn (.func j) [] caps) ps g body Q st:=
 ⟨false,j,caps,rows,I,i,rfl,.inl ⟨l,p,t⟩,o,C,J,R⟩
@[go_sem] theorem setPs_nil(g xs):uy g [] xs=g:=eqS (by cases xs<;>rfl)
@[go_sem] theorem qtK(g t ts x xs):uy g (t :: ts) (x :: xs)=uy (fun i=>if i=t then x else g i) ts xs:=eqS rfl
@[go_sem] theorem qtL(n st):asQ n .normal st=n st:=eqS rfl
@[go_sem] theorem qtM:(∀ I g k st,rndQ I g k .normal st=I (k+1) st.mu)/\(∀ I g k st,rndQ I g k .ret st=g .ret st.mu):=by and_intros<;>intros<;>exact eqS rfl
section
variable (P:qb) (pl:Pol) (Q:qX->St->Prop) (st:St)
@[go_sem ↓] theorem awp_skip:awp P pl .skip Q st=Q .normal st:=eqS rfl
@[go_sem ↓] theorem awp_label(l):awp P pl (.label l) Q st=Q .normal st:=eqS rfl
@[go_sem ↓] theorem awp_exit:(∀ id,awp P pl (.exit id) Q st=Q (.exit id) st)/\(awp P pl .ret Q st=Q .ret st):=by and_intros<;>intros<;>exact eqS rfl
@[go_sem ↓] theorem qiL(a b):awp P pl (.seq a b) Q st=awp P pl a (seqQ (awp P pl b Q) Q) st:=eqS rfl
@[go_sem ↓] theorem awp_block:(∀ id b,awp P pl (.block id b) Q st=awp P pl b (vI id Q) st)/\(∀ b,awp P pl (.loop b) Q st=qk P pl b Q st):=by and_intros<;>intros<;>exact eqS rfl
@[go_sem ↓] theorem qtN(g ps i body):awp P pl (.rangeFunc g ps i body) Q st=wU P pl (st.ev g) ps i body Q st:=eqS rfl
@[go_sem ↓] theorem qtO(id l):awp P pl (.region id l.toArray false) Q st=awpS P pl false l.toArray l (Q .normal) (panQ Q) st:=
 propext ⟨fun h=>by rcases h with ⟨_,h⟩|⟨e,_⟩;exact h;exact absurd e zSp,fun h => .inl ⟨rfl,h⟩⟩
@[go_sem ↓] theorem qiM(id l):awp P pl (.region id l.toArray true) Q st=qi P pl l (Q .normal) (panQ Q) st:=
 propext ⟨fun h=>by rcases h with ⟨e,_⟩|⟨_,h⟩;exact absurd e zSp;exact h,fun h => .inr ⟨rfl,h⟩⟩
def BrS(b:Bool)(p q:St->Prop)(st:St):Prop:=Br b (p st) (q st)
@[go_sem ↓] theorem BrS_true(p q):BrS true p q st=p st:=by simp[BrS,Br]
@[go_sem ↓] theorem BrS_false(p q):BrS false p q st=q st:=by simp[BrS,Br]
@[go_sem] theorem BrS_true'(p q):BrS true p q st=p st:=by simp[BrS,Br]
@[go_sem] theorem qtP(p q):BrS false p q st=q st:=by simp[BrS,Br]
theorem tY{b p q st}(g:b=true->p st)(i:b=false->q st):BrS b p q st:=⟨g,i⟩
def Xn(v:AV)(p q:St->Prop)(st:St):Prop:=∃ t,v = .sc (.bool t)/\Br t (p st) (q st)
@[go_sem ↓] theorem awp_cond(c a b):awp P pl (.cond c a b) Q st=Xn (st.ev c) (awp P pl a Q) (awp P pl b Q) st:=eqS rfl
@[go_sem] theorem qtQ(t p q):Xn (.sc (.bool t)) p q st=BrS t p q st:=by
 simp[Xn,BrS]
@[go_sem ↓] theorem qtR:(∀ n,seqQ n Q .normal st=n st)/\(∀ n i,seqQ n Q (.exit i) st=Q (.exit i) st)/\(∀ n,seqQ n Q .ret st=Q .ret st)/\(∀ n v,seqQ n Q (.pan v) st=Q (.pan v) st)/\(∀ i,vI i Q .normal st=Q .normal st)/\(∀ i j,vI j Q (.exit i) st=if i=j then Q .normal st else Q (.exit i) st)/\(∀ i,vI i Q .ret st=Q .ret st)/\(∀ i v,vI i Q (.pan v) st=Q (.pan v) st)/\(∀ I n,uY I n Q .normal st=∃ m,m<n/\I m st)/\(∀ I n i,uY I n Q (.exit i) st=Q (.exit i) st):=by and_intros<;>intros<;>exact eqS rfl
@[go_sem ↓] theorem loopQ_ret:(∀ I n,uY I n Q .ret st=Q .ret st)/\(∀ I n v,uY I n Q (.pan v) st=Q (.pan v) st)/\(∀ v,panQ Q v st=Q (.pan v) st):=by and_intros<;>intros<;>exact eqS rfl
@[go_sem ↓] theorem qtY:(∀ g R,uZ P g R .normal st=OptK (jR P st g) (retK R st.mu))/\(∀ g R,uZ P g R .ret st=OptK (jR P st g) (retK R st.mu))/\(∀ g R v,uZ P g R (.pan v) st=R (.pan v) st.mu):=by and_intros<;>intros<;>exact eqS rfl
@[go_sem ↓] theorem retK_eq(R m r):retK R m r=R (.ret r) m:=eqS rfl
@[go_sem] theorem qtZ:(∀ r,jR P st [r]=resV P st r)/\(jR P st []=some (.tup [])):=by and_intros<;>intros<;>exact eqS rfl
@[go_sem] theorem qt1(r s):jR P st [r,s]=(match resV P st r,resV P st s with|some x,some y=>some (.tup [x,y])|_,_=>none):=by
 grind [jR,resL,resV]
@[go_sem] theorem qt2(r s t):jR P st [r,s,t]=(match resV P st r,resV P st s,resV P st t with|some x,some y,some z=>some (.tup [x,y,z])|_,_,_=>none):=by
 simp only[jR,resL]
 grind
@[go_sem] theorem resV_tmp:(∀ t,resV P st (.tmp t)=some (st.tm t))/\(∀ a t,resV P st (.cell a t)=wK P st.mu t (st.tm a)):=by and_intros<;>intros<;>exact eqS rfl
end
end
section
variable {α:Type}
@[go_sem] theorem OptK_some(v)(k:α->Prop):OptK (some v) k=k v:=by simp[OptK]
theorem tH{o k}(v:α)(h:o=some v)(g:k v):OptK o k:=⟨v,h,g⟩
end
section
variable (P:qb) (pl:Pol) (det:Bool) (ops:Array wg) (Q:St->Prop) (Qp:AV->St->Prop) (st:St)
def V9(P:qb)(pl:Pol)(det:Bool)(ops:Array wg)(l:List wg)(Q:St->Prop)(Qp:AV->St->Prop)(st:St)(g:Option Tmp):AV->Mu->Prop:=fun v m=>awpS P pl det ops l Q Qp (st.put g v m)
def panS(Qp:AV->St->Prop)(st:St):AV->Mu->Prop:=fun v m=>Qp v ⟨st.tm,m⟩
@[go_sem ↓] theorem contK_eq(l g v m):V9 P pl det ops l Q Qp st g v m=awpS P pl det ops l Q Qp (st.put g v m):=eqS rfl
@[go_sem ↓] theorem panS_eq(v m):panS Qp st v m=Qp v ⟨st.tm,m⟩:=eqS rfl
@[go_sem ↓] theorem awpS_nil:awpS P pl det ops [] Q Qp st=Q st:=eqS rfl
@[go_sem ↓] theorem qt3(g op ty pos after l):awpS P pl det ops (⟨g,op,ty,pos,after,none⟩ :: l) Q Qp st =
  qF P pl det g op st.ev st.mu (V9 P pl det ops l Q Qp st g) (panS Qp st):=by
 simp[awpS,yB,OptK,Br];rfl
def runK(P:qb)(pl:Pol)(det:Bool)(ops:Array wg)(g:Option Tmp)(op:Op)(l:List wg)(Q:St->Prop)(Qp:AV->St->Prop):St->Prop:=fun st=>qF P pl det g op st.ev st.mu (V9 P pl det ops l Q Qp st g) (panS Qp st)
def nB(P:qb)(pl:Pol)(det:Bool)(ops:Array wg)(g:Option Tmp)(l:List wg)(Q:St->Prop)(Qp:AV->St->Prop):St->Prop:=fun st=>awpS P pl det ops l Q Qp (st.put g (.sc uk) st.mu)
@[go_sem ↓] theorem runK_eq:(∀ g op l,runK P pl det ops g op l Q Qp st=qF P pl det g op st.ev st.mu (V9 P pl det ops l Q Qp st g) (panS Qp st))/\(∀ g l,nB P pl det ops g l Q Qp st=awpS P pl det ops l Q Qp (st.put g (.sc uk) st.mu)):=by and_intros<;>intros<;>exact eqS rfl
def brK(p q:St->Prop)(st:St):Bool->Prop:=fun b=>BrS b p q st
@[go_sem ↓] theorem brK_eq(p q b):brK p q st b=BrS b p q st:=eqS rfl
def JD(d:Option Tmp)(st:St)(g:Bool)(p q:St->Prop):Prop:=OptK (match d with|none=>some false|some d=>Yc (st.tm d) g) (brK p q st)
@[go_sem ↓] theorem qt4(i op ty pos after l j g)(ol:List wg) :
  awpS P pl det ol.toArray (⟨i,op,ty,pos,after,some (j,g)⟩ :: l) Q Qp st=JD ((ol[j]?).bind (·.dst)) st g (runK P pl det ol.toArray i op l Q Qp) (nB P pl det ol.toArray i l Q Qp):=by
 simp only[awpS,yB,JD,wJ];rfl
@[go_sem] theorem qt5(d g p q):JD (some d) st g p q=OptK (Yc (st.tm d) g) (brK p q st):=eqS rfl
@[go_sem] theorem qt6:(∀ b g,Yc (.sc (.bool b)) g=some (b == g))/\(∀ g,Yc (.sc uk) g=some false):=by and_intros<;>intros<;>exact eqS rfl
end
def plc(l:List (Nat×Nat)):Nat->Option (Nat×Nat):=fun i=>l.toArray[i]?
def plA(s:Nat):Nat->Option (Nat×Nat):=fun i=>some (i*s,s)
@[go_sem] theorem plc_zero(p l):plc (p :: l) 0=some p:=by simp[plc]
@[go_sem] theorem plc_succ(p l i):plc (p :: l) (i+1)=plc l i:=by simp[plc]
@[go_sem] theorem plA_eq(s i):plA s i=some (i*s,s):=eqS rfl
section
variable (st:St) (v:AV) (m:Mu)
@[go_sem] theorem qiN(d i:Tmp):(st.put (some d) v m).tm i=if i=d then v else st.tm i:=eqS rfl
@[go_sem] theorem qt8(i:Tmp):(st.put none v m).tm i=st.tm i:=eqS rfl
@[go_sem] theorem qI(d):(st.put d v m).mu=m:=eqS rfl
@[go_sem] theorem st0_tm:(∀(args)(i:Tmp),(st0 args m).tm i=(args[i]?).getD (.sc uk))/\(∀ args,(st0 args m).mu=m):=by and_intros<;>intros<;>exact eqS rfl
@[go_sem] theorem ev_tmp:(∀ t,st.ev (.tmp t)=st.tm t)/\(∀ c,st.ev (.const c)=ofV c)/\(∀ f,st.ev (.func f) = .fn (.func f) [] []):=by and_intros<;>intros<;>exact eqS rfl
@[go_sem] theorem ofV_int:(∀ k n,ofV (.int k n) = .sc (.int k n))/\(∀ b,ofV (.bool b) = .sc (.bool b))/\(∀(s:tZ),ofV (.string s) = .sc (.string s))/\(ofV (.slice none 0 0) = .lst true [])/\(ofV .nilIface = .sc .nilIface)/\(ofV .nilFunc = .sc .nilFunc):=by and_intros<;>intros<;>exact eqS rfl
end
section
variable (P:qb) (pl:Pol) (det:Bool) (dst:Option Tmp) (ev:zK->AV) (mu:Mu) (K Kp:AV->Mu->Prop)
def km(K:AV->Mu->Prop)(mu:Mu):AV->Prop:=fun z=>K z mu
def ks(K:AV->Mu->Prop):Mu->Prop:=fun m=>K (.sc uk) m
def kp(K:AV->Mu->Prop):AV×Mu->Prop:=fun z=>K z.1 z.2
def nD(K:AV->Mu->Prop)(mu:Mu):AV->Prop:=fun z=>z.cells.all AV.one=true/\K (.ptr mu.length 0) (mu++[.arr z.cells])
@[go_sem ↓] theorem km_eq(z):km K mu z=K z mu:=eqS rfl
@[go_sem ↓] theorem ks_eq:(∀ m,ks K m=K (.sc uk) m)/\(∀ z m,kp K (z,m)=K z m):=by and_intros<;>intros<;>exact eqS rfl
@[go_sem ↓] theorem allocK_eq(z):nD K mu z=(z.cells.all AV.one=true/\K (.ptr mu.length 0) (mu++[.arr z.cells])):=eqS rfl
@[go_sem ↓] theorem quD:(∀ x,qF P pl det dst (.move x) ev mu K Kp=K (ev x) mu)/\(∀ x,qF P pl det dst (.assign x) ev mu K Kp=K (ev x) mu):=by and_intros<;>intros<;>exact eqS rfl
def Xo(v a b:AV)(k:AV->Prop):Prop:=∃ t,v = .sc (.bool t)/\k (if t then a else b)
@[go_sem ↓] theorem quF(c a b):qF P pl det dst (.pick c a b) ev mu K Kp=Xo (ev c) (ev a) (ev b) (km K mu):=eqS rfl
@[go_sem] theorem quG(t a b k):Xo (.sc (.bool t)) a b k=k (if t then a else b):=by simp[Xo]
@[go_sem ↓] theorem quH:(∀ e,qF P pl det dst (.alloc e) ev mu K Kp=OptK (qC P e) (nD K mu))/\(∀ e x,qF P pl det dst (.box e x) ev mu K Kp=((ev x).cells.all AV.one=true/\(if (dst.any pl.mt.contains)=true then K (.ptr mu.length 0) (mu++[.arr (ev x).cells]) else K (.ip (ev x).cells) mu)))/\(∀(t)(ps:List (Nat×zK)),qF P pl det dst (.build t ps.toArray) ev mu K Kp=(yn P t=true/\OptK (VK P t (ps.map fun p=>(p.1,ev p.2))) (km K mu)))/\(∀(t n)(ps:List (Nat×zK)),qF P pl det dst (.buildSlice t n ps.toArray) ev mu K Kp=OptK (VL P t n (ps.map fun p=>(p.1,ev p.2))) (km K mu))/\(∀ t x,qF P pl det dst (.load t x) ev mu K Kp=OptK (wK P mu t (ev x)) (km K mu))/\(∀ t a x,qF P pl det dst (.store t a x) ev mu K Kp=OptK (VC P mu t (ev a) (ev x)) (ks K))/\(∀ x,qF P pl det dst (.nilCheck x) ev mu K Kp=OptK (VT (ev x)) (km K mu)):=by and_intros<;>intros<;>exact eqS rfl
def vK(P:qb)(det:Bool)(op:BinOp)(t:qd)(x y:zK)(ev:zK->AV)(mu:Mu)(K:AV->Mu->Prop):Prop:=if uV y=true then jP P det op t (ev x) (km K mu) else OptK (wO P op t (ev x) (ev y)) (km K mu)
@[go_sem ↓] theorem quN(op t g x y):qF P pl det dst (.binOp op t x y g) ev mu K Kp=vK P det op t x y ev mu K:=eqS rfl
@[go_sem ↓] theorem BinGo_tmp(op t x u):vK P det op t x (.tmp u) ev mu K=OptK (wO P op t (ev x) (ev (.tmp u))) (km K mu):=by simp[vK,uV]
@[go_sem ↓] theorem BinGo_int(op t x k n):vK P det op t x (.const (.int k n)) ev mu K=OptK (wO P op t (ev x) (ev (.const (.int k n)))) (km K mu):=by simp[vK,uV]
@[go_sem ↓] theorem quO(op t x)(s:tZ):vK P det op t x (.const (.string s)) ev mu K=OptK (wO P op t (ev x) (ev (.const (.string s)))) (km K mu):=by simp[vK,uV]
@[go_sem ↓] theorem quP(op t x):vK P det op t x (.const .nilIface) ev mu K=OptK (wO P op t (ev x) (ev (.const .nilIface))) (km K mu):=by simp[vK,uV]
@[go_sem ↓] theorem quQ(op t x):vK P det op t x (.const (.pointer none)) ev mu K=OptK (wO P op t (ev x) (ev (.const (.pointer none)))) (km K mu):=by simp[vK,uV]
@[go_sem ↓] theorem BinGo_nil(op t x):vK P det op t x (.const (.slice none 0 0)) ev mu K=jP P det op t (ev x) (km K mu):=by simp[vK,uV]
@[go_sem] theorem quR:(∀ op t f r xs k,jP P det op t (.lst f (r :: xs)) k=((qH P t).isSome=true/\(op = .eql\/op = .neq)/\k (.sc (.bool (decide (op = .neq))))))/\(∀ op t f k,jP P det op t (.lst f []) k=((qH P t).isSome=true/\(op = .eql\/op = .neq)/\det=false/\k (.sc (.bool true))/\k (.sc (.bool false)))):=by and_intros<;>intros<;>exact eqS rfl
@[go_sem ↓] theorem quS:(∀ op t x,qF P pl det dst (.unOp op t x) ev mu K Kp=OptK (aUn op (ev x)) (km K mu))/\(∀ s t x,qF P pl det dst (.convert s t x) ev mu K Kp=((P.underlying s).isSome=true/\OptK (VD P s t (ev x)) (km K mu)))/\(∀ t x,qF P pl det dst (.makeInterface t x) ev mu K Kp=(Zy P t=true/\K (.ifc t (ev x)) mu))/\(∀ f a b,qF P pl det dst (.makeFunc f a.toArray b.toArray) ev mu K Kp=K (.fn f (evs ev a) (evs ev b)) mu)/\(∀ t l c,qF P pl det dst (.makeSlice t l c) ev mu K Kp=OptK (Js P mu t (ev l) (ev c)) (kp K))/\(∀ t x lo g mx,qF P pl det dst (.slice t x lo g mx) ev mu K Kp=(gE P t (ev x)/\OptK (VJ P t (ev x) (lo.map ev) (g.map ev) (mx.map ev)) (km K mu)))/\(∀ t x f,qF P pl det dst (.fieldAddr t x f) ev mu K Kp=OptK (VE P t f (ev x)) (km K mu))/\(∀ t x f,qF P pl det dst (.field t x f) ev mu K Kp=OptK (VH P t f (ev x)) (km K mu))/\(∀ t x i,qF P pl det dst (.indexAddr t x i) ev mu K Kp=OptK (VF P t (ev x) (ev i)) (km K mu))/\(∀ t x i,qF P pl det dst (.index t x i) ev mu K Kp=OptK (VI P t (ev x) (ev i)) (km K mu)):=by and_intros<;>intros<;>exact eqS rfl
@[go_sem ↓] theorem qu2:(∀ x i,qF P pl det dst (.extract x i) ev mu K Kp=OptK (W3 i (ev x)) (km K mu))/\(∀ x g t ok,qF P pl det dst (.typeAssert x g t ok) ev mu K Kp=OptK (VU P t ok (ev x)) (km K mu)):=by and_intros<;>intros<;>exact eqS rfl
@[go_sem ↓] theorem qu4(t):qF P pl det dst (.makeMap t none) ev mu K Kp=K (.mp mu.length) (mu++[.mp []]):=by
 simp only[qF,true_and]
@[go_sem ↓] theorem qu5:(∀ t m k ok,qF P pl det dst (.lookup t m k ok) ev mu K Kp=OptK (yj P mu t (ev m) (ev k) ok) (km K mu))/\(∀ t m k v,qF P pl det dst (.mapUpdate t m k v) ev mu K Kp=OptK (ju P mu t (ev m) (ev k) (ev v)) (ks K))/\(∀ t m k v,qF P pl det dst (.insert t m k v) ev mu K Kp=OptK (ju P mu t (ev m) (ev k) (ev v)) (ks K))/\(∀ t m,qF P pl det dst (.range t m) ev mu K Kp=OptK (VR P mu t (ev m)) (kp K)):=by and_intros<;>intros<;>exact eqS rfl
@[go_sem ↓] theorem qu9(i):qF P pl false dst (.next i false) ev mu K Kp=WZ mu (ev i) K:=by
 simp only[qF,true_and]
@[go_sem ↓] theorem qvA:(∀ i,qF P pl det dst (.entry i) ev mu K Kp=OptK (Zx mu (ev i)) (km K mu))/\(∀ x,qF P pl det dst (.panic x) ev mu K Kp=(det=false/\∃ t v,ev x = .ifc t v/\Kp (.ifc t v) mu))/\(∀ f g i,qF P pl det dst (.call ⟨.value f,g.toArray,i⟩) ev mu K Kp=qe P det mu (ev f) (evs ev g) K Kp):=by and_intros<;>intros<;>exact eqS rfl
def nE(P:qb)(mu:Mu)(g:Array qd)(l:List AV)(K:AV->Mu->Prop):Prop:=∃ s x,l=[s,x]/\qw P mu g s x K
@[go_sem ↓] theorem qvD(g i):qF P pl det dst (.call ⟨.builtin .append,g.toArray,i⟩) ev mu K Kp=nE P mu i (evs ev g) K:=eqS rfl
@[go_sem] theorem AppGo_eq(g s x):nE P mu g [s,x] K=qw P mu g s x K:=
 propext ⟨fun⟨_,_,e,h⟩=>by cases e;exact h,fun h=>⟨s,x,rfl,h⟩⟩
@[go_sem ↓] theorem qvE:(∀ g i,qF P pl det dst (.call ⟨.builtin .copy,g.toArray,i⟩) ev mu K Kp=uu P mu .copy i (evs ev g) K)/\(∀ g i,qF P pl det dst (.call ⟨.builtin .delete,g.toArray,i⟩) ev mu K Kp=uu P mu .delete i (evs ev g) K):=by and_intros<;>intros<;>exact eqS rfl
theorem qiO{P mu K t i g et b es k r}(j:mapT P t=some (g,et))(l:mu[b]?=some (.mp es))(o:jb P g k=true)(hf:zn P g k es 0=some r)
  (p:K (.tup []) (mu.set b (.md (delE es r)))):uu P mu .delete #[t,i] [.mp b,k] K:=⟨_,_,.delete j l o hf,p⟩
theorem Xp{P mu K t l sz g b off len cells ys x}(i : (qH P t).map (fun x => x.2.1) = some sz)(o : mu[b]? = some (.arr cells))(p : off + len * sz<=cells.length)
      (C:qA mu x=some ys) (I:qW sz ys) (k:K (.sc (.int .i64 ((min ys.length len:Nat):Int))) (mu.set b (.arr (putCells cells off (ys.take len).flatten)))):uu P mu .copy #[t,l] [.sl b g off len,x] K:=by
  cases j:qH P t with
  |none=>simp[j]at i
  |some q =>
    obtain⟨e,J,R⟩:=q;simp only[j,zd,qo]at i;subst i;exact⟨_,_,.copy j o p C I,k⟩
@[go_sem ↓] theorem SStep_len:(∀ g i,qF P pl det dst (.call ⟨.builtin .len,g.toArray,i⟩) ev mu K Kp=OptK (ur P mu .len i (evs ev g)) (km K mu))/\(∀ g i,qF P pl det dst (.call ⟨.builtin .cap,g.toArray,i⟩) ev mu K Kp=OptK (ur P mu .cap i (evs ev g)) (km K mu))/\(∀ g i,qF P pl det dst (.call ⟨.builtin .min,g.toArray,i⟩) ev mu K Kp=OptK (ur P mu .min i (evs ev g)) (km K mu))/\(∀ g i,qF P pl det dst (.call ⟨.builtin .max,g.toArray,i⟩) ev mu K Kp=OptK (ur P mu .max i (evs ev g)) (km K mu)):=by and_intros<;>intros<;>exact eqS rfl
@[go_sem] theorem evs_nil:(evs ev []=[])/\(∀ x l,evs ev (x :: l)=ev x :: evs ev l):=by and_intros<;>intros<;>exact eqS rfl
end
@[go_sem] theorem cells_agg:(∀ cs,(AV.agg cs).cells=cs)/\(∀ v,(AV.sc v).cells=[.sc v])/\(∀ f xs,(AV.lst f xs).cells=[.lst f xs])/\(∀ cs,(AV.ip cs).cells=[.ip cs])/\(∀ b o,(AV.ptr b o).cells=[.ptr b o])/\(∀ b,(AV.mp b).cells=[.mp b])/\(∀ k n,(AV.sc (.int k n)).one=true)/\(∀ b,(AV.sc (.bool b)).one=true)/\(∀(s:tZ),(AV.sc (.string s)).one=true)/\((AV.sc (.pointer none)).one=true):=by and_intros<;>intros<;>exact eqS rfl
@[go_sem] theorem qvI:((AV.sc (.map none)).one=true)/\(∀ f xs,(AV.lst f xs).one=true)/\(∀ cs,(AV.ip cs).one=true)/\(∀ b o,(AV.ptr b o).one=true)/\(∀ b,(AV.mp b).one=true)/\(∀ es,(AV.ims es).one=true):=by and_intros<;>intros<;>exact eqS rfl
@[go_sem] theorem qvJ(x l):j8 0 x l=x :: l:=eqS (by cases l<;>rfl)
@[go_sem] theorem qvK:(∀ d x y l,j8 (d+1) x (y :: l)=y :: j8 d x l)/\(∀ d x l,jE 0 d (x :: l)=j8 d x l)/\(∀ n d x l,jE (n+1) d (x :: l)=x :: jE n d l):=by and_intros<;>intros<;>exact eqS rfl
end Go.Ev
