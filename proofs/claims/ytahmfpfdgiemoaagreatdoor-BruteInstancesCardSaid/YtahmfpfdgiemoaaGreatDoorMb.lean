/-
  Own library, part 2: an abstract reading of values and a calculus over it; contracts of functions; plain lemmas.
-/
import Derived.TacticsIn
import Derived.Deep.LoopGhost
import Derived.Scope
import Derived.Sort.LoopGhostIn
import Derived.Test.YtahmfpfdgiemoaaGreatDoorMa
set_option linter.unusedVariables false
set_option linter.unusedSimpArgs false
set_option maxRecDepth 100000
open Go renaming Program->qf,TypeId->j1,World->j2,Value->j3,Operand->uk,undef->va,Oper->wg,Code->vn,FuncId->us
open List renaming getElem?_eq_some_iff->qe,mem_map->qk,range->qo,mem_cons->qu,getElem?_eq_getElem->qv,mem_append->qC,not_mem_nil->qD,getElem?_append_left->qI,all_eq_true->qJ,mem_cons_of_mem->qK,mem_singleton->qN,mem_cons_self->qR,getElem?_append_right->qT,getD_eq_getElem?_getD->q8,append_assoc->zc,getElem?_set_self->zo,append_nil->zL,mem_range->yj,mem_append_left->yA,cons_append->yD,getElem?_set_ne->yP,mem_filter->jg,nodup_cons->jw,ext_getElem?->jx,getElem?_cons_succ->vb,mem_iff_getElem->vB,eq_nil_of_length_eq_zero->vE,nil_append->um,nodup_append->YP
open Option.some renaming injEq->qj
open Nat renaming le_refl->qn,lt_of_lt_of_le->VQ
open Bool renaming and_eq_true->qq,or_eq_true->vF
open Array renaming getD_eq_getD_getElem?->qB,getElem?_eq_some_iff->zM
open Go.Sem renaming run_bind->qE,run_pure->zh
open Go.Result renaming andThen_ok->qG
open Option renaming map_some->qS
open List.Nodup renaming length_le_of_subset->jR
open Classical renaming byContradiction->vD
open Go.World renaming putObj_heap_other->vJ
open List.cons renaming injEq->YQ
namespace Go.Ev
open Go Go.RowKit
section
variable {x:AV}{K:AV->Prop}{h:Array Obj}{g:Array j3}{G:Gh}{xs:List (List AV)}{mu:Mu}{P:qf}{t:j1}{w:j2}
@[go_sem] def uu(P:qf)(op:BinOp)(t:j1)(x y:AV):Option AV:=
 match x,y with
 | .agg g,.agg j=>match YY P t with
  |some n=>if g.length=n then (match op with
   | .eql=>(aEqs g j).map fun b => .sc (.bool b)
   | .neq=>(aEqs g j).map fun b => .sc (.bool !b)
   |_=>none) else none
  |none=>none
 |x,y=>aBin P op t x y
theorem qbM{n:Nat}(h:YY P t=some n):P.eqGuardType P.depth t=false/\((∃ e q,P.underlying t=some (.array n e)/\P.underlying e=some (.int q)/\szOf P e=some 1) \/
  ∃ fs,P.underlying t=some (.struct fs)/\Qh P fs.toList 0=true/\P.stoodInHeld t=false/\fs.size=n):=by
 unfold YY at h;split at h
 .rename_i fs g
  split at h
  .rename_i hf
   simp only[qj]at h;subst h;exact⟨hf.2.2,.inr ⟨fs,g,hf.1,hf.2.1,rfl⟩⟩
  .exact absurd h zSp
 .rename_i o e g
  split at h
  .rename_i q i j
   split at h
   .rename_i l
    simp only[qj]at h;subst h;exact⟨l,.inl ⟨e,q,g,i,j⟩⟩
   .exact absurd h zSp
  .exact absurd h zSp
 .exact absurd h zSp
theorem qbN{op:BinOp}{y z:AV}{ox oy:uk}{u v:j3}(p:VRel G w.heap x u)(C:VRel G w.heap y v)(h:uu P op t x y=some z) :
    ∃ r,(do eqGuard op t ox oy u v;binOp op t u v:Sem j3).run P w = .ok r w/\VRel G w.heap z r:=by
  unfold uu at h;split at h
  · rename_i g j
    split at h
    · rename_i n I
      obtain⟨hg,I⟩:=qbM I;split at h
      · rename_i hl
        have l:=p;have o:=C;cases p with
        |agg _ J hn hv =>
        cases C with
        |agg _ R hm hw =>
        have T:(eqGuard op t ox oy (.agg J) (.agg R)).run P w = .ok () w:=run_eqGuard_agg w op t ox oy J R hg;simp only[qE,T,qG];have heq:∀ b,aEqs g j=some b->(Op.equal t (.agg J) (.agg R)).run P w = .ok b w:=fun b i=>by
          rcases I with ⟨e,q,U,he,hs⟩|⟨fs,U,hf,hp,a0⟩
          · exact X9 (G:=G) 9998 U he hs hl l o i
          · exact qaW (G:=G) 9998 U hf hp zOm l o i
        cases op<;>simp only at h<;>first
          | (simp at h;done)
          | (cases i:aEqs g j with
             |none=>simp[i]at h
             |some b =>
               simp only[i,qS,qj]at h;subst h;refine⟨_,?_,.sc _ rfl⟩;simp[binOp,heq b i];done)
      · exact absurd h zSp
    · exact absurd h zSp
  · exact qaA p C h
def uw:uk->Bool
 | .const (.slice none 0 0)=>true
 |_=>false
def jJ(P:qf)(det:Bool)(op:BinOp)(t:j1)(x:AV)(K:AV->Prop):Prop:=
 (qz P t).isSome=true/\(op = .eql\/op = .neq) /\
 match x with
 | .lst _ []=>det=false/\K (.sc (.bool true))/\K (.sc (.bool false))
 | .lst _ (_ :: _) | .sl .. => K (.sc (.bool (decide (op = .neq))))
 |_=>False
theorem qbO(d:Nat){t e:j1}(g:P.underlying t=some (.slice e))(b:Option Addr)(len cap:Nat) :
  (Op.equalIn (d+1) t (.slice b len cap) (.slice none 0 0)).run P w = .ok b.isNone w:=by
 cases b<;>simp[Op.equalIn,run_underlying g]
theorem jJ.sound{det:Bool}{op:BinOp}{ox oy:uk}{u:j3}(U:VRel G w.heap x u)(h:jJ P det op t x K) :
  ∃ z r,K z/\(do eqGuard op t ox oy u (.slice none 0 0);binOp op t u (.slice none 0 0):Sem j3).run P w = .ok r w/\VRel G w.heap z r:=by
 obtain⟨hs,ho,h⟩:=h;obtain⟨e,hu⟩:∃ e,P.underlying t=some (.slice e):=by
  cases I:qz P t with
  |none=>simp[I]at hs
  |some q=>obtain⟨J,a0,a1⟩:=q;obtain⟨i',l,_⟩:=jT I;exact⟨J,l⟩
 have key:∀(b:Option Addr) (len cap:Nat),u = .slice b len cap->(do eqGuard op t ox oy u (.slice none 0 0);binOp op t u (.slice none 0 0):Sem j3).run P w = .ok (.bool (if op = .neq then b.isSome else b.isNone)) w:=by
  intro b len cap C;subst C;have R:(eqGuard op t ox oy (.slice b len cap) (.slice none 0 0)).run P w = .ok () w:=by
   unfold eqGuard;cases op<;>rfl
  have T:(Op.equal t (.slice b len cap) (.slice none 0 0)).run P w = .ok b.isNone w:=qbO 9999 hu b len cap;rcases ho with rfl|rfl
  .simp [R,binOp,T]
  .cases b<;>simp[R,binOp,T]
 have fin:∀(b:Bool),K (.sc (.bool b))->∀(c:Option Addr) (len cap:Nat),u = .slice c len cap->(if op = .neq then c.isSome else c.isNone)=b ->
   ∃ z r,K z/\(do eqGuard op t ox oy u (.slice none 0 0);binOp op t u (.slice none 0 0):Sem j3).run P w = .ok r w/\VRel G w.heap z r:=
  fun b hk c len cap C e2=>⟨_,_,hk,key c len cap C,by rw[e2];exact .sc _ rfl⟩
 cases U with
 |nil full =>
  obtain⟨_,l,o⟩:=h;by_cases i:op = .neq
  .exact fin false o none 0 0 rfl (by rw[if_pos i];rfl)
  .exact fin true l none 0 0 rfl (by rw[if_neg i];rfl)
 |emp full a cap hc =>
  obtain⟨_,l,o⟩:=h;by_cases i:op = .neq
  .exact fin true l (some a) 0 cap rfl (by rw[if_pos i];rfl)
  .exact fin false o (some a) 0 cap rfl (by rw[if_neg i];rfl)
 |lst full g p a cap cs J fr rd hb a2 hl hc hi hz hr hv =>
  cases g with
  |nil =>
   obtain⟨_,l,o⟩:=h;by_cases i:op = .neq
   .exact fin true l (some a) _ cap rfl (by rw[if_pos i];rfl)
   .exact fin false o (some a) _ cap rfl (by rw[if_neg i];rfl)
  |cons y j =>
   refine fin _ h (some a) _ cap rfl ?_;by_cases i:op = .neq
   .rw [if_pos i];simp[i]
   .rw [if_neg i];simp[i]
 |sl b p off len a3 a4 cap hb ht hl =>
  refine fin _ h (some _) _ cap rfl ?_;by_cases i:op = .neq
  .rw [if_pos i];simp[i]
  .rw [if_neg i];simp[i]
 |_=>exact h.elim
theorem jJ.det{op:BinOp}(h:jJ P true op t x K):∃ z,K z/\∀ i:AV->Prop,i z->jJ P true op t x i:=by
 obtain⟨l,g,h⟩:=h;unfold jJ;split at h
 .exact absurd h.1 zSp
 .exact ⟨_,h,fun i j=>⟨l,g,j⟩⟩
 .exact ⟨_,h,fun i j=>⟨l,g,j⟩⟩
 .exact h.elim
theorem jJ.mono{det:Bool}{op:BinOp}{j:AV->Prop}(h:jJ P det op t x K)(g:∀ z,K z->j z):jJ P det op t x j:=by
 obtain⟨l,i,h⟩:=h;unfold jJ;refine⟨l,i,?_⟩;split at h
 .exact ⟨h.1,g _ h.2.1,g _ h.2.2⟩
 .exact g _ h
 .exact g _ h
 .exact h.elim
theorem qbP{y:uk}(h:uw y=true):y = .const (.slice none 0 0):=by
 unfold uw at h;split at h
 .rfl
 .exact absurd h zSp
def WK(x y:AV):Prop:=∀(G:Gh) (h:Array Obj) (v:j3),VRel G h x v->VRel ⟨G.imm,[]⟩ h y v
theorem WK.hf(h:HF x):WK x x:=h
theorem VRel.ro{full:Bool}{v:j3}(r:VRel G h (.lst full xs) v):VRel G h (.lst false xs) v:=by
 cases r with
 |nil=>exact .nil _
 |emp _ a cap g=>exact .emp _ a cap zSp
 |lst _ _ p a cap i e j rd l o t g C I J P=>exact .lst _ _ p a cap i e j rd l o t zSp C I J P
theorem WK.lst{full:Bool}(h:∀ r,r∈xs->∀ c,c∈r->HF c):WK (.lst full xs) (.lst false xs):=fun G g v r=>VRel.ro (HF.lst h G g v r)
theorem WK.agg{xs ys:List AV}(o:ys.length=xs.length)(h:∀(k:Nat) x y,xs[k]?=some x->ys[k]?=some y->WK x y):WK (.agg xs) (.agg ys):=fun G j v r=>by
 cases r with
 |agg _ p t l =>
  refine .agg _ _ zOm (fun k y g=>?_);have C:k<ys.length:=(qe.1 g).1;have i:xs[k]?=some (xs[k]' zOm):=by simp[show k<xs.length by omega]
  exact h k _ y i g G j _ (l k _ i)
def WKs:List AV->List AV->Prop
 | [],[]=>True
 |x :: g,y :: j=>WK x y/\WKs g j
 |_,_=>False
theorem WKs.get:∀{xs ys:List AV},WKs xs ys->ys.length=xs.length/\∀(k:Nat) x y,xs[k]?=some x->ys[k]?=some y->WK x y
 | [],[],_=>⟨rfl,zSp⟩
 |x :: xs,y :: ys,⟨h,t⟩=>by
  obtain⟨j,l⟩:=WKs.get t;refine⟨zP1 j,fun k a b g i=>?_⟩;cases k with
  |zero=>simp at g i;subst g;subst i;exact h
  |succ k=>exact l k a b (zUs g) (zUs i)
 | [],_ :: _,h=>h.elim
 |_ :: _,[],h=>h.elim
theorem WK.aggs{xs ys:List AV}(h:WKs xs ys):WK (.agg xs) (.agg ys) := .agg h.get.1 h.get.2
def Rds(mu:Mu):List AV->List AV->Prop
 | [],[]=>True
 |x :: g,y :: j=>Rd mu x y/\Rds mu g j
 |_,_=>False
theorem Rds.get:∀{xs ys:List AV},Rds mu xs ys->ys.length=xs.length/\∀(k:Nat) x y,xs[k]?=some x->ys[k]?=some y->Rd mu x y
 | [],[],_=>⟨rfl,zSp⟩
 |x :: xs,y :: ys,⟨h,t⟩=>by
  obtain⟨j,l⟩:=Rds.get t;refine⟨zP1 j,fun k a b g i=>?_⟩;cases k with
  |zero=>simp at g i;subst g;subst i;exact h
  |succ k=>exact l k a b (zUs g) (zUs i)
 | [],_ :: _,h=>h.elim
 |_ :: _,[],h=>h.elim
def MuLe(mu l:Mu):Prop:=∀(b:Nat) c,mu[b]?=some c->l[b]?=some c
theorem MuLe.push(mu:Mu)(c:Cell):MuLe mu (mu++[c]):=fun b x h=>by rw[qI (qe.1 h).1];exact h
theorem MuLe.trans{a b c:Mu}(g:MuLe a b)(j:MuLe b c):MuLe a c:=fun i x h=>j i x (g i x h)
def ZN(P:qf)(mu:Mu)(f:AV)(args:List AV)(v:AV):Prop:=
 (∃ g first j i,f = .fn (.func g) first j/\qd P g i v/\(WKs (first++args++j) i\/(Rds mu (first++args++j) i/\FL v))) \/
 ∃ g first j i,f = .fn (.func g) first j/\qaR P g i v/\Rds mu (first++args++j) i
def u9(P:qf)(i:Nat)(args:List AV)(mu:Mu)(R:Bool->Mu->Prop):Prop:=
 ∀(G:Gh) (w:j2) (r:Array j3),Sim G mu w.heap->zz G w.heap args r->∀(l p:Nat),G.blk[i]?=some (l,p) ->
  ∃ fn g assign j,(Instr.yield l r).run P w = .ok (.round l fn g assign j) w /\
   RoundIn Fence.wide 0 P l fn g assign j w fun e t=>∃ b C o,e = .returned (.bool b)/\Stp G mu w C o t/\R b o
def qc(P:qf)(det:Bool)(mu:Mu)(f:AV)(args:List AV)(K o:AV->Mu->Prop):Prop:=
 (∃ v,ZN P mu f args v/\K v mu) \/
 (det=false/\((∃ g first j R,f = .fn (.func g) first j/\qL P g (first++args++j) mu R/\(∀ r l,R (.ret r) l->K r l)/\(∀ r l,R (.pan r) l->o r l)) \/
  ∃ i R,f = .yl i/\u9 P i args mu R/\∀ b l,R b l->K (.sc (.bool b)) l))
def OptK{C:Type}(o:Option C)(k:C->Prop):Prop:=∃ v,o=some v/\k v
@[go_sem] def lenA(P:qf)(mu:Mu)(t:j1):AV->Option AV
 | .lst _ g=>if (qz P t).isSome then some (.sc (.int .i64 g.length)) else none
 | .sl _ _ _ len=>if (qz P t).isSome then some (.sc (.int .i64 len)) else none
 | .sc (.string s)=>match P.underlying t with|some .string=>some (.sc (.int .i64 s.size))|_=>none
 | .im T=>match P.underlying t with|some (.map _ _)=>some (.sc (.int .i64 T.length))|_=>none
 | .ims T=>match P.underlying t with|some (.map _ _)=>some (.sc (.int .i64 T.length))|_=>none
 | .mp b=>match P.underlying t,mu[b]? with|some (.map _ _),some (.mp T)=>some (.sc (.int .i64 T.length))|_,_=>none
 |_=>none
@[go_sem] def minA:AV->AV->Option AV
 | .sc (.int k x),.sc (.int _ y)=>some (.sc (.int k (if y<x then y else x)))
 |_,_=>none
@[go_sem] def maxA:AV->AV->Option AV
 | .sc (.int k x),.sc (.int _ y)=>some (.sc (.int k (if y > x then y else x)))
 |_,_=>none
@[go_sem] def jU(P:qf)(mu:Mu)(b:Builtin)(i:Array j1)(args:List AV):Option AV:=
 match b,args,i[0]? with
 | .len,[x],some t=>lenA P mu t x
 | .cap,[.lst true g],some t=>if (qz P t).isSome then some (.sc (.int .i64 g.length)) else none
 | .min,[x,y],_=>minA x y
 | .max,[x,y],_=>maxA x y
 |_,_,_=>none
theorem Ue(h:(qz P t).isSome=true):∃ e,P.underlying t=some (.slice e):=by
 cases g:qz P t with
 |none=>simp[g]at h
 |some q=>obtain⟨i,j,l⟩:=q;obtain⟨p,o,_⟩:=jT g;exact⟨i,o⟩
theorem zz.one_inv(r:zz G h [x] g):∃ v,g=#[v]/\VRel G h x v:=by
 obtain⟨l,o⟩:=r;have:=o 0 x rfl;refine⟨g.getD 0 va,?_,this⟩;have j:g.size=1:=zUs l;apply Array.ext
 .simpa using j
 .intro i p t
  have:i=0:=zOm;subst this;simp[qB,p]
theorem zz.two_inv{y:AV}(r:zz G h [x,y] g):∃ u v,g=#[u,v]/\VRel G h x u/\VRel G h y v:=by
 obtain⟨o,l⟩:=r;have a:=l 0 x rfl;have b:=l 1 y rfl;refine⟨g.getD 0 va,g.getD 1 va,?_,a,b⟩;have j:g.size=2:=zUs o;apply Array.ext
 .simpa using j
 .intro i p t
  have:i=0\/i=1:=zOm;rcases this with rfl|rfl<;>simp[qB,p]
theorem qbQ(s:Sim G mu w.heap){t ty:j1}{x z:AV}{v:j3}(r:VRel G w.heap x v)(h:lenA P mu t x=some z)(l:Array j1)(j:l[0]?=some t) :
  ∃ u,(Builtin.len_ l ty #[v]).run P w = .ok u w/\VRel G w.heap z u:=by
 unfold lenA at h;split at h
 .split at h
  .rename_i C
   simp only[qj]at h;subst h;obtain⟨e,i⟩:=Ue C;obtain⟨a,cap,rfl,_⟩:=r.lst_inv;exact⟨_,by simp[Builtin.len_,j,run_underlying i,goInt],.sc _ rfl⟩
  .exact absurd h zSp
 .split at h
  .rename_i C
   simp only[qj]at h;subst h;obtain⟨e,i⟩:=Ue C;cases r;exact⟨_,by simp[Builtin.len_,j,run_underlying i,goInt],.sc _ rfl⟩
  .exact absurd h zSp
 .split at h
  .rename_i i
   simp only[qj]at h;subst h;cases r;exact⟨_,by simp[Builtin.len_,j,run_underlying i,goInt],.sc _ rfl⟩
  .exact absurd h zSp
 .split at h
  .rename_i i
   simp only[qj]at h;subst h;cases r with
   |im _ g ce clock o R I U hv hd =>
   have p:(getObj g).run P w = .ok (.map ce clock) w:=by simp[getObj,Sem.run,o]
   exact⟨_,by simp[Builtin.len_,j,run_underlying i,goInt,p,I],.sc _ rfl⟩
  .exact absurd h zSp
 .split at h
  .rename_i i
   simp only[qj]at h;subst h;cases r with
   |ims _ a0 σ τ _ hp hd r =>
   cases r with
   |im _ g ce clock o R I U hv a1 =>
   have p:(getObj g).run P w = .ok (.map ce clock) w:=by simp[getObj,Sem.run,o]
   exact⟨_,by simp[Builtin.len_,j,run_underlying i,goInt,p,I,hp.1],.sc _ rfl⟩
  .exact absurd h zSp
 .split at h
  .rename_i T i hm
   simp only[qj]at h;subst h;cases r with
   |mp _ g J o =>
   obtain⟨ce,cl,h1,h2,_⟩:=s.mp _ T g J hm o;have p:(getObj g).run P w = .ok (.map ce cl) w:=by simp[getObj,Sem.run,h1]
   exact⟨_,by simp[Builtin.len_,j,run_underlying i,goInt,p,h2],.sc _ rfl⟩
  .exact absurd h zSp
 .exact absurd h zSp
theorem qbR(s:Sim G mu w.heap){b:Builtin}{g:Array j1}{ty:j1}{cs:Array Bool}{args:List AV}{o:Array j3}{z:AV}(r:zz G w.heap args o)
  (h:jU P mu b g args=some z):∃ u,(builtin b g ty cs o).run P w = .ok (.value u) w/\VRel G w.heap z u:=by
 unfold jU at h;split at h
 .rename_i j
  obtain⟨v,rfl,i⟩:=r.one_inv;obtain⟨u,p,t⟩:=qbQ s i h g j (ty:=ty);exact⟨u,by simp[builtin,p],t⟩
 .rename_i j
  obtain⟨v,rfl,i⟩:=r.one_inv;split at h
  .rename_i C
   simp only[qj]at h;subst h;obtain⟨e,I⟩:=Ue C;obtain⟨a,cap,rfl,_,J,_⟩:=i.lst_inv;have:=J rfl;subst this;exact⟨_,by simp[builtin,Builtin.cap_,j,run_underlying I,goInt],.sc _ rfl⟩
  .exact absurd h zSp
 .obtain ⟨u,v,rfl,l,i⟩:=r.two_inv
  unfold minA at h;split at h
  .simp only[qj]at h;subst h
   cases l;cases i;exact⟨_,by simp[builtin,Builtin.min_,Builtin.min2],.sc _ rfl⟩
  .exact absurd h zSp
 .obtain ⟨u,v,rfl,l,i⟩:=r.two_inv
  unfold maxA at h;split at h
  .simp only[qj]at h;subst h
   cases l;cases i;exact⟨_,by simp[builtin,Builtin.max_,Builtin.max2],.sc _ rfl⟩
  .exact absurd h zSp
 .exact absurd h zSp
end
end Go.Ev
namespace Go.Ev
open Go Go.RowKit
section
variable {next:Act->j2->Prop}{h:Array Obj}{Q:Exit->Act->j2->Prop}{G:Gh}{P:qf}{w:j2}
@[go_sem] def Ji:AV->Option AV
 | .ip g=>some (.ip g)
 | .ptr b o=>some (.ptr b o)
 | .ifc t x=>some (.ifc t x)
 | .fn (.func f) a b=>some (.fn (.func f) a b)
 |_=>none
@[go_sem] def Jj(i:Nat):AV->Option AV
 | .tup g=>g[i]?
 |_=>none
def ZO(P:qf)(t:j1):Bool:=match P.underlying t with|some (.interface _)=>false|some _=>true|none=>false
@[go_sem] def Jk(P:qf)(t:j1)(ok:Bool)(x:AV):Option AV:=
 if ZO P t=true then
  match x with
  | .ifc u v=>if u=t then some (if ok then .tup [v,.sc (.bool true)] else v) else if ok then (qx P t).map fun z => .tup [z,.sc (.bool false)] else none
  | .sc .nilIface=>if ok then (qx P t).map fun z => .tup [z,.sc (.bool false)] else none
  |_=>none
 else none
@[go_sem] def Uf(P:qf)(t:j1)(x:AV):Prop:=
 match x with
 | .lst _ g=>∃ e p i,qz P t=some (e,p,i)/\zX p g
 |_=>True
def yH(P:qf)(t:j1):Bool:=match qx P t with|some z=>z.cells.all AV.one|none=>false
def evs(ev:uk->AV)(l:List uk):List AV:=l.map ev
def wK(P:qf)(mu:Mu)(b:Builtin)(g:Array j1)(args:List AV)(K:AV->Mu->Prop):Prop:=∃ z m,ExtB P mu b g args z m/\K z m
def qw(P:qf)(pl:Pol)(det:Bool)(g:Option Tmp)(op:Op)(ev:uk->AV)(mu:Mu)(K C:AV->Mu->Prop):Prop:=
 match op with
 | .move x | .assign x=>K (ev x) mu
 | .pick c a b=>∃ t,ev c = .sc (.bool t)/\K (if t then ev a else ev b) mu
 | .alloc e=>OptK (qx P e) fun z=>z.cells.all AV.one=true/\K (.ptr mu.length 0) (mu++[.arr z.cells])
 | .box e x=>(ev x).cells.all AV.one=true/\(if (g.any pl.mt.contains)=true then K (.ptr mu.length 0) (mu++[.arr (ev x).cells]) else K (.ip (ev x).cells) mu)
 | .build t o=>yH P t=true/\OptK (ZD P t (o.toList.map fun p=>(p.1,ev p.2))) fun z=>K z mu
 | .buildSlice t n o=>OptK (ZG P t n (o.toList.map fun p=>(p.1,ev p.2))) fun z=>K z mu
 | .load t a=>OptK (vK P mu t (ev a)) fun z=>K z mu
 | .store t a x=>OptK (Zv P mu t (ev a) (ev x)) fun m=>K (.sc va) m
 | .nilCheck x=>OptK (Ji (ev x)) fun z=>K z mu
 | .binOp op t x y _=>if uw y=true then jJ P det op t (ev x) (fun z=>K z mu) else OptK (uu P op t (ev x) (ev y)) fun z=>K z mu
 | .unOp op _ x=>OptK (aUn op (ev x)) fun z=>K z mu
 | .convert src g x=>(P.underlying src).isSome=true/\OptK (Zw P src g (ev x)) fun z=>K z mu
 | .makeInterface t x=>ZO P t=true/\K (.ifc t (ev x)) mu
 | .makeFunc f first j=>K (.fn f (evs ev first.toList) (evs ev j.toList)) mu
 | .makeSlice t l c=>OptK (Ql P mu t (ev l) (ev c)) fun z=>K z.1 z.2
 | .slice t x I J R=>Uf P t (ev x)/\OptK (ZB P t (ev x) (I.map ev) (J.map ev) (R.map ev)) fun z=>K z mu
 | .fieldAddr s x f=>OptK (Zx P s f (ev x)) fun z=>K z mu
 | .field t x f=>OptK (Zz P t f (ev x)) fun z=>K z mu
 | .indexAddr t x i=>OptK (Zy P t (ev x) (ev i)) fun z=>K z mu
 | .index t x i=>OptK (ZA P t (ev x) (ev i)) fun z=>K z mu
 | .extract t i=>OptK (Jj i (ev t)) fun z=>K z mu
 | .typeAssert x _ t ok=>OptK (Jk P t ok (ev x)) fun z=>K z mu
 | .makeMap _ r=>r=none/\K (.mp mu.length) (mu++[.mp []])
 | .lookup t m k ok=>OptK (yG P mu t (ev m) (ev k) ok) fun z=>K z mu
 | .mapUpdate t m k v=>OptK (vM P mu t (ev m) (ev k) (ev v)) fun m=>K (.sc va) m
 | .insert t m k v=>OptK (vM P mu t (ev m) (ev k) (ev v)) fun m=>K (.sc va) m
 | .mapEntry t m k=>OptK (wI P mu t (ev m) (ev k)) fun z=>K z.1 z.2
 | .entryStore _ m s v=>OptK (Jg mu (ev m) (ev s) (ev v)) fun m=>K (.sc va) m
 | .range t m=>OptK (Jh P mu t (ev m)) fun z=>K z.1 z.2
 | .next i str=>det=false/\str=false/\Ud mu (ev i) K
 | .entry i=>OptK (wJ mu (ev i)) fun z=>K z mu
 | .panic x=>det=false/\∃ t v,ev x = .ifc t v/\C (.ifc t v) mu
 | .call c=>match c.callee with
  | .value f=>qc P det mu (ev f) (evs ev c.args.toList) K C
  | .builtin b=>match b with
   | .append=>∃ s x,evs ev c.args.toList=[s,x]/\qA P mu c.argTypes s x K
   | .copy=>wK P mu .copy c.argTypes (evs ev c.args.toList) K
   | .delete=>wK P mu .delete c.argTypes (evs ev c.args.toList) K
   | .clear=>wK P mu .clear c.argTypes (evs ev c.args.toList) K
   |b=>OptK (jU P mu b c.argTypes (evs ev c.args.toList)) fun z=>K z mu
  | .invoke _ _=>False
 |_=>False
theorem qbS{o:wg}{a:Act}{s:Sem j3}{u:j3}{w':j2}(g:s.run P w = .ok u w')(i:next (a.put o.dst u) w') :
  o.upon P a next Q ((do pure (Next.value (<-s)):Sem Next).run P w):=by
 simp only[qE,g,qG,zh,Oper.upon];exact i
theorem Jl{o:wg}{a:Act}{s:Sem Unit}{w':j2}(g:s.run P w = .ok () w')(i:next (a.put o.dst va) w') :
  o.upon P a next Q ((do s;pure Next.skip:Sem Next).run P w):=by
 simp only[qE,g,qG,zh,Oper.upon];exact i
theorem ux{ev:uk->AV}{g:uk->j3}(i:∀ x,VRel G h (ev x) (g x))(l:Array uk):zz G h (evs ev l.toList) (l.map g):=by
 refine⟨by simp[evs],fun k x j=>?_⟩;simp only[evs,List.getElem?_map,Option.map_eq_some_iff,Array.getElem?_toList]at j;obtain⟨y,o,rfl⟩:=j;have:(l.map g).getD k va=g y:=by simp[qB,o]
 rw[this];exact i y
theorem Ko{ev:uk->AV}{i:uk->j3}(g:∀ x,VRel G h (ev x) (i x))(l:Array (Nat×uk)) :
  ZC G h (l.toList.map fun p=>(p.1,ev p.2)) ((l.map fun (x:Nat×uk)=>(x.1,i x.2)).toList):=by
 rw[Array.toList_map];induction l.toList with
 |nil=>trivial
 |cons p o j=>exact⟨rfl,g _,j⟩
theorem zz.append3{xs ys zs:List AV}{a b c:Array j3}(j:zz G h xs a)(l:zz G h ys b)(o:zz G h zs c):zz G h (xs++ys++zs) (a++b++c):=by
 obtain⟨i,g1⟩:=j;obtain⟨l2,p⟩:=l;obtain⟨r,t⟩:=o;refine⟨by simp[i,l2,r],fun k x g=>?_⟩;simp only[qB]at *
 by_cases C:k<xs.length
 .rw [zc,qI C]at g
  rw[Array.append_assoc,Array.getElem?_append_left zOm];exact g1 k x g
 .by_cases J:k<xs.length+ys.length
  .rw [qI zSo,qT zOm]at g
   rw[Array.getElem?_append_left zSo,Array.getElem?_append_right zOm,i];exact p _ x g
  .rw [qT zSo]at g
   rw[Array.getElem?_append_right zSo];have I:(xs++ys).length=(a++b).size:=by simp[i,l2]
   rw[I]at g;exact t _ x g
theorem Kq{mu:Mu}(s:Sim G mu w.heap){f:AV}{args:List AV}{v:AV}{fv:j3}{vs:Array j3}(rf:VRel G w.heap f fv)(ra:zz G w.heap args vs)
  (h:ZN P mu f args v):∃ g first caps,fv = .func (.func g) first caps/\yd P g/\Calls P g (first++vs++caps) w fun e w'=>∃ G' u,e = .returned u/\Stp G mu w G' mu w'/\VRel G' w'.heap v u:=by
 have step:∀(U l:Nat->Prop) (w':j2),(∀ b,G.imm b->U b)->(∀ b,l b->b<w'.heap.size/\(U b\/w.heap.size<=b))->ZI w.heap.size w w'->(∀ b,U b->G.imm b\/Live G mu b) ->
   Stp G mu w ⟨fun b=>G.imm b\/(l b/\w.heap.size<=b),G.blk⟩ mu w':=by
  intro U l w' h1 T r h3;have a1:G.le ⟨fun b=>G.imm b\/(l b/\w.heap.size<=b),G.blk⟩:=⟨fun b h => .inl h,fun _ _ h=>h⟩;have he:Ext G w.heap w'.heap:=⟨r.size,fun b p=>r.block b (s.imm b p)⟩;have key:∀ b,Live G mu b->w'.heap[b]?=w.heap[b]?:=fun b hl=>r.block b (s.livesize hl)
  refine⟨a1,⟨s.len,?_,?_,?_,s.inj,s.tab.mono a1.imm (fun b p=>r.block b (s.imm b p))⟩,fun b a2 _=>r.block b a2,r.size,fun b h => .inl h,fun b h=>h.elim .inl (fun e => .inr (.inr e.2)),r.tape,r.os,r.output,r.drawn⟩
  .intro b p
   rcases p with p|p
   .exact VQ (s.imm b p) r.size
   .exact (T b p.1).1
  .intro i c a0 I hc hd hk
   obtain⟨o',g1,g2⟩:=s.obj i c a0 I hc hd hk;exact⟨o',by rw[key a0 ⟨i,_,I,hc,hd,hk⟩];exact g1,g2.mono a1 he⟩
  .intro i c a0 I hc hd hk p
   rcases p with p|p
   .exact s.live i c a0 I hc hd hk p
   .have:=s.livesize ⟨i,c,I,hc,hd,hk⟩;omega
 rcases h with h|⟨g,fi,ca,j,rfl,⟨J,hs⟩,h⟩
 case inr =>
  cases rf with
  |fn _ _ _ t C hn hm hv hw =>
  refine⟨g,t,C,rfl,J,?_⟩;have o:=zz.append3 (G:=G) (h:=w.heap) ⟨hn,hv⟩ ra ⟨hm,hw⟩;obtain⟨hl,hg⟩:=h.get;have R:zz ⟨fun b=>G.imm b\/Live G mu b,[]⟩ w.heap j (t++vs++C):=by
   refine⟨by rw[o.1,hl],fun k y hy=>?_⟩;have hk:k<j.length:=(qe.1 hy).1;have hx:(fi++args++ca)[k]?=some ((fi++args++ca)[k]' zOm):=by rw[qv]
   exact(hg k _ y hx hy).sound s (o.2 k _ hx)
  refine(hs _ w _ (s.all) R).mono fun e w' ⟨nw,u,he,T,r,hr⟩=>?_
  have st:=step (fun b=>G.imm b\/Live G mu b) nw w' (fun b h => .inl h) (fun b h=>⟨(T b h).2,.inr (T b h).1⟩) r (fun b h=>h);refine⟨_,u,he,st,hr.le (G':=⟨fun b=>G.imm b\/(nw b/\w.heap.size<=b),G.blk⟩) ⟨fun b p => .inr ⟨p,(T b p).1⟩,fun i x h=>by simp at h⟩⟩
 obtain⟨g,fi,ca,j,rfl,⟨J,hs⟩,h⟩:=h;cases rf with
 |fn _ _ _ t C hn hm hv hw =>
 refine⟨g,t,C,rfl,J,?_⟩;have o:=zz.append3 (G:=G) (h:=w.heap) ⟨hn,hv⟩ ra ⟨hm,hw⟩;rcases h with h|⟨h,a3⟩
 .obtain ⟨hl,hg⟩:=h.get
  have R:zz ⟨G.imm,[]⟩ w.heap j (t++vs++C):=by
   refine⟨by rw[o.1,hl],fun k y hy=>?_⟩;have hk:k<j.length:=(qe.1 hy).1;have hx:(fi++args++ca)[k]?=some ((fi++args++ca)[k]' zOm):=by rw[qv]
   exact hg k _ y hx hy G w.heap _ (o.2 k _ hx)
  refine(hs G.imm w _ s.bare R).mono fun e w' ⟨l,u,he,h1,T,r,hr⟩=>?_
  have st:=step G.imm l w' (fun b h=>h) T r (fun b h => .inl h);refine⟨_,u,he,st,?_⟩;refine hr.le ⟨fun b p=>?_,fun i x h=>by simp at h⟩;rcases (T b p).2 with h|h
  .exact .inl h
  .exact .inr ⟨p,h⟩
 .obtain ⟨hl,hg⟩:=h.get
  have R:zz ⟨fun b=>G.imm b\/Live G mu b,[]⟩ w.heap j (t++vs++C):=by
   refine⟨by rw[o.1,hl],fun k y hy=>?_⟩;have hk:k<j.length:=(qe.1 hy).1;have hx:(fi++args++ca)[k]?=some ((fi++args++ca)[k]' zOm):=by rw[qv]
   exact(hg k _ y hx hy).sound s (o.2 k _ hx)
  refine(hs _ w _ (s.all) R).mono fun e w' ⟨l,u,he,h1,T,r,hr⟩=>?_
  have st:=step _ l w' (fun b h => .inl h) T r (fun b h=>h);exact⟨_,u,he,st,a3 _ _ _ _ _ hr⟩
end
end Go.Ev
namespace Go.Ev
open Go Go.RowKit
section
variable {K Kp:AV->Mu->Prop}{a:Act}{G:Gh}{o:wg}{P:qf}{w:j2}
theorem qbT{h:Array Obj}{x z:AV}{v:j3}(r:VRel G h x v)(e:Ji x=some z) :
  z=x/\((∃ a,v = .pointer (some a))\/(∃ t u,v = .iface t u)\/(∃ f a b,v = .func (.func f) a b)):=by
 unfold Ji at e;split at e<;>simp only[qj,reduceCtorEq]at e<;>subst e
 .cases r;exact⟨rfl,.inl ⟨_,rfl⟩⟩
 .cases r;exact⟨rfl,.inl ⟨_,rfl⟩⟩
 .cases r;exact⟨rfl,.inr (.inl ⟨_,_,rfl⟩)⟩
 .cases r;exact⟨rfl,.inr (.inr ⟨_,_,_,rfl⟩)⟩
theorem Kr{t:j1}(h:ZO P t=true):∃ d,P.underlying t=some d/\∀ g,d ≠ .interface g:=by
 unfold ZO at h;split at h
 .exact absurd h zSp
 .rename_i d i j
  exact⟨d,j,fun g e=>i g e⟩
 .exact absurd h zSp
theorem qbU{U t:j1}{ok:Bool}{x z:AV}{v:j3}(r:VRel G w.heap x v)(h:Jk P t ok x=some z) :
  ∃ u,(Instr.typeAssert v U t ok).run P w = .ok u w/\VRel G w.heap z u:=by
 unfold Jk at h;have tup:∀(y:AV) (u:j3) (b:Bool),VRel G w.heap y u->VRel G w.heap (.tup [y,.sc (.bool b)]) (.tuple #[u,.bool b]):=by
  intro y u b ry;refine .tup _ _ rfl (fun k c l=>?_);cases k with
  |zero=>simp at l;subst l;exact ry
  |succ k=>cases k with
   |zero=>simp at l;subst l;exact .sc _ rfl
   |succ k=>simp at l
 split at h
 .rename_i hc
  obtain⟨d,p,C⟩:=Kr hc;have zero:∀ z,qx P t=some z->∃ g,(zeroValue t).run P w = .ok g w/\VRel G w.heap z g:=by
   intro z i;obtain⟨g,o,rfl⟩:=wF i w;exact⟨g,o,.ofV g⟩
  split at h
  .rename_i ut uv
   cases r with
   |ifc _ _ v T =>
   split at h
   .rename_i I
    subst I;simp only[qj]at h;subst h;cases ok
    .refine ⟨v,?_,T⟩
     simp only[Instr.typeAssert,qE,run_underlying p,qG];cases d<;>first | (exact absurd rfl (C _))|simp
    .refine ⟨.tuple #[v,.bool true],?_,tup _ _ _ T⟩
     simp only[Instr.typeAssert,qE,run_underlying p,qG];cases d<;>first | (exact absurd rfl (C _))|simp
   .rename_i I
    split at h
    .rename_i j
     subst j;cases i:qx P t with
     |none=>simp[i]at h
     |some J =>
      simp only[i,qS,qj]at h;subst h;obtain⟨g,o,R⟩:=zero J i;refine⟨.tuple #[g,.bool false],?_,tup _ _ _ R⟩;simp only[Instr.typeAssert,qE,run_underlying p,qG];cases d<;>first | (exact absurd rfl (C _))|simp[I,o]
    .exact absurd h zSp
  .cases r
   split at h
   .rename_i j
    subst j;cases i:qx P t with
    |none=>simp[i]at h
    |some J =>
     simp only[i,qS,qj]at h;subst h;obtain⟨g,o,R⟩:=zero J i;refine⟨.tuple #[g,.bool false],?_,tup _ _ _ R⟩;simp only[Instr.typeAssert,qE,run_underlying p,qG];cases d<;>first | (exact absurd rfl (C _))|simp[o]
   .exact absurd h zSp
  .exact absurd h zSp
 .exact absurd h zSp
def Ks(P:qf)(op:Op)(ev:uk->AV)(mu:Mu)(K:AV->Mu->Prop):Prop:=
 ∃ f args j i R,op = .call { callee := .value f,args,argTypes:=j }/\ev f = .yl i/\u9 P i (evs ev args.toList) mu R/\∀ b m,R b m->K (.sc (.bool b)) m
theorem qbV{pl:Pol}{det:Bool}{mu:Mu}{ev:uk->AV}(s:Sim G mu w.heap)(j:∀ x,VRel G w.heap (ev x) (a.eval x))
  (h:qw P pl det o.dst o.op ev mu K Kp) (U:¬Ks P o.op ev mu K) {next:Act->j2->Prop} {Q:Exit->Act->j2->Prop}
  (hK:∀ v T G' w' u,K v T->Stp G mu w G' T w'->VRel G' w'.heap v u->next (a.put o.dst u) w')
  (a3:∀ v T G' w' u,Kp v T->Stp G mu w G' T w'->VRel G' w'.heap v u->Q (.panic [{ v:=u,recovered:=false }]) a w'):o.wp P a w next Q:=by
 obtain⟨dst,op,ty,pos,after,guard⟩:=o;simp only at h hK a3 U;have J:∀{c:Sem j3} {x:AV} {T:Mu},Good P G mu w c x T->K x T->∀{o':wg},o'.dst=dst->o'.upon P a next Q ((do pure (Next.value (<-c)):Sem Next).run P w):=by
  intro c x T ⟨u,w',G',h1,h2,h3⟩ p o' ho;exact qbS h1 (by rw[ho];exact hK _ _ _ _ _ p h2 h3)
 have quiet:∀{c:Sem j3} {x:AV} {u:j3},c.run P w = .ok u w->VRel G w.heap x u->K x mu->∀{o':wg},o'.dst=dst->o'.upon P a next Q ((do pure (Next.value (<-c)):Sem Next).run P w):=
  fun h1 h2 p _ ho=>J (Good.quiet s h1 h2) p ho
 unfold Oper.wp;cases op<;>simp only[qw]at h<;>try (exact h.elim)
 case move x=>exact hK _ _ _ _ _ h (Stp.refl s) (j x)
 case assign x=>exact hK _ _ _ _ _ h (Stp.refl s) (j x)
 case pick c x y =>
  obtain⟨t,hc,p⟩:=h;have rc:=j c;rw[hc]at rc;have ec:a.eval c = .bool t:=by generalize a.eval c=cv at rc;cases rc;rfl
  simp only[execOp,ec,asBool];refine hK _ _ _ _ _ p (Stp.refl s) ?_;cases t
  .exact j y
  .exact j x
 case alloc e =>
  obtain⟨z,C,h1,p⟩:=h;obtain⟨zv,a8,rfl⟩:=wF C w;obtain⟨G',g1,I,g3⟩:=XY (P:=P) s e (VRel.ofV zv) h1;refine J ⟨_,_,G',?_,I,g3⟩ p rfl;simp only[Instr.alloc,qE,a8,qG,g1,zh]
 case box e x =>
  obtain⟨h1,p⟩:=h;split at p
  .obtain ⟨G',g1,I,g3⟩:=XY (P:=P) s e (j x) h1
   refine J ⟨_,_,G',?_,I,g3⟩ p rfl;simp only[Instr.box,qE,qG,g1,zh]
  .obtain ⟨G',g1,I,g3⟩:=qaM (P:=P) s e (j x) h1
   refine J ⟨_,_,G',?_,I,g3⟩ p rfl;simp only[Instr.box,qE,qG,g1,zh]
 case build t ps =>
  obtain⟨h1,z,C,p⟩:=h;obtain⟨u,g1,I⟩:=qaL (P:=P) (w:=w) (Ko j ps) (fun y U=>by unfold yH at h1;rw[U]at h1;exact h1) C;exact quiet g1 I p rfl
 case buildSlice t n ps =>
  obtain⟨z,C,p⟩:=h;exact J (qaO s (Ko j ps) C) p rfl
 case load t x =>
  obtain⟨z,C,p⟩:=h;obtain⟨ad,u,g0,g1,I⟩:=XL (P:=P) s (j x) C;refine quiet ?_ I p rfl;simp only[Instr.loadAt,g0,Instr.sureAddr,qE,zh,qG,g1]
 case store t x y =>
  obtain⟨m,hm,p⟩:=h;obtain⟨ad,w',g0,g1,I⟩:=mX (P:=P) s (j x) (j y) hm;refine Jl (w':=w') ?_ ?_
  .simp only[Instr.storeAt,g0,Instr.sureAddr,qE,zh,qG,g1]
  .exact hK _ _ _ _ _ p I (.sc _ rfl)
 case nilCheck x =>
  obtain⟨z,C,p⟩:=h;obtain⟨rfl,hv⟩:=qbT (j x) C;have:(execOp a.eval { dst,op := .nilCheck x,type:=ty,pos,after,guard }).run P w = .ok (.value (a.eval x)) w:=by
   rcases hv with ⟨ad,hv⟩|⟨t,u,hv⟩|⟨f,b,c,hv⟩<;>simp[execOp,hv]
  rw[this];exact hK _ _ _ _ _ p (Stp.refl s) (j x)
 case binOp op t x y yt =>
  split at h
  .rename_i U
   obtain rfl:=qbP U;obtain⟨z,r,p,g1,I⟩:=jJ.sound (ox:=x) (oy := .const (.slice none 0 0)) (j x) h;exact quiet g1 I p rfl
  obtain⟨z,C,p⟩:=h;obtain⟨u,g1,I⟩:=qbN (P:=P) (ox:=x) (oy:=y) (j x) (j y) C;exact quiet g1 I p rfl
 case unOp op t x =>
  obtain⟨z,C,p⟩:=h;obtain⟨u,g1,I⟩:=qaB (P:=P) (j x) C;exact quiet g1 I p rfl
 case convert src af x =>
  obtain⟨h1,z,C,p⟩:=h;obtain⟨u,g1,I⟩:=qaC (P:=P) (src:=src) (j x) (Option.isSome_iff_exists.1 h1) C;exact quiet g1 I p rfl
 case makeInterface t x =>
  obtain⟨h1,p⟩:=h;obtain⟨d,hu,hd⟩:=Kr h1;refine quiet (u := .iface t (a.eval x)) ?_ (.ifc t _ _ (j x)) p rfl;simp only[Instr.makeInterface,qE,run_underlying hu,qG];cases d<;>first | (exact absurd rfl (hd _))|simp
 case makeFunc f first a2 =>
  refine quiet (u := .func f (first.map a.eval) (a2.map a.eval)) rfl ?_ h rfl;have r1:=ux j first;have r2:=ux j a2;exact .fn f _ _ _ _ r1.1 r2.1 r1.2 r2.2
 case makeSlice t l c =>
  obtain⟨z,C,p⟩:=h;exact J (qaP s (j l) (j c) C) p rfl
 case slice t x lo hi mx =>
  obtain⟨hr,z,C,p⟩:=h;obtain⟨u,g1,I⟩:=qaH (P:=P) (w:=w) (vlo:=lo.map a.eval) (vhi:=hi.map a.eval) (vmx:=mx.map a.eval) (j x)
   (fun y U=>by cases lo with|none=>simp at U|some q=>simp at U;subst U;exact⟨_,rfl,j q⟩) (fun h=>by cases lo with|none=>rfl|some q=>simp at h)
   (fun y U=>by cases hi with|none=>simp at U|some q=>simp at U;subst U;exact⟨_,rfl,j q⟩) (fun h=>by cases hi with|none=>rfl|some q=>simp at h)
   (fun y U=>by cases mx with|none=>simp at U|some q=>simp at U;subst U;exact⟨_,rfl,j q⟩) (fun h=>by cases mx with|none=>rfl|some q=>simp at h)
   (fun full xs e=>by rw[e]at hr;exact hr) C
  exact quiet g1 I p rfl
 case fieldAddr t x f =>
  obtain⟨z,C,p⟩:=h;obtain⟨u,g1,I⟩:=qaD (P:=P) (j x) C;exact quiet g1 I p rfl
 case field t x f =>
  obtain⟨z,C,p⟩:=h;obtain⟨u,g1,I⟩:=qaF (P:=P) (j x) C;exact quiet g1 I p rfl
 case indexAddr t x i =>
  obtain⟨z,C,p⟩:=h;obtain⟨u,g1,I⟩:=qaE (P:=P) (j x) (j i) C;exact quiet g1 I p rfl
 case index t x i =>
  obtain⟨z,C,p⟩:=h;obtain⟨u,g1,I⟩:=qaG (P:=P) (j x) (j i) C;exact quiet g1 I p rfl
 case extract t i =>
  obtain⟨z,C,p⟩:=h;have rt:=j t;unfold Jj at C;split at C
  .rename_i cs e
   rw[e]at rt;generalize hq:a.eval t=tv at rt;cases rt with
   |tup _ vs hn hv =>
   have aj:i<cs.length:=(qe.1 C).1;have a9:i<vs.size:=zOm;refine quiet (u:=vs.getD i va) ?_ (hv i z C) p rfl;simp[hq,Instr.extract,a9,qB]
  .exact absurd C zSp
 case typeAssert x xt t ok =>
  obtain⟨z,C,p⟩:=h;obtain⟨u,g1,I⟩:=qbU (P:=P) (j x) C;exact quiet g1 I p rfl
 case makeMap t r =>
  obtain⟨rfl,p⟩:=h;exact J (qbF (P:=P) (t:=t) s) p rfl
 case lookup t m k ok =>
  obtain⟨z,C,p⟩:=h;obtain⟨u,g1,I⟩:=qa4 (P:=P) s (j m) (j k) C;exact quiet g1 I p rfl
 case mapUpdate t m k v =>
  obtain⟨m',hm,p⟩:=h;obtain⟨w',g1,I⟩:=Kl (P:=P) s (j m) (j k) (j v) hm;exact Jl (w':=w') g1 (hK _ _ _ _ _ p I (.sc _ rfl))
 case insert t m k v =>
  obtain⟨m',hm,p⟩:=h;obtain⟨w',g1,I⟩:=Kl (P:=P) s (j m) (j k) (j v) hm;exact Jl (w':=w') g1 (hK _ _ _ _ _ p I (.sc _ rfl))
 case mapEntry t m k =>
  obtain⟨z,C,p⟩:=h;exact J (qbD s (j m) (j k) C) p rfl
 case entryStore t m st v =>
  obtain⟨m',hm,p⟩:=h;obtain⟨w',g1,I⟩:=qbE (P:=P) (t:=t) s (j m) (j st) (j v) hm;exact Jl (w':=w') g1 (hK _ _ _ _ _ p I (.sc _ rfl))
 case range t m =>
  obtain⟨z,C,p⟩:=h;exact J (qbG s (j m) C) p rfl
 case next i str =>
  obtain⟨_,rfl,hn⟩:=h;obtain⟨z,T,p,hg⟩:=qbH (P:=P) (ty:=ty) s (j i) hn;exact J hg p rfl
 case entry i =>
  obtain⟨z,C,p⟩:=h;obtain⟨u,g1,I⟩:=qbI (P:=P) s (j i) C;exact quiet g1 I p rfl
 case panic x =>
  obtain⟨_,t,v,hx,p⟩:=h;have rx:=j x;rw[hx]at rx;generalize hq:a.eval x=xv at rx;cases rx with
  |ifc _ _ u hu =>
  simp only[execOp,hq,Instr.panic];exact a3 _ _ _ _ _ p (Stp.refl s) (.ifc t v u hu)
 case call c =>
  obtain⟨callee,args,argTypes⟩:=c;simp only at h;cases callee with
  |invoke r m=>exact h.elim
  |builtin b =>
   have fin:∀ z,jU P mu b argTypes (evs ev args.toList)=some z->K z mu->Oper.upon P { dst,op := .call { callee := .builtin b,args,argTypes },type:=ty,pos,after,guard } a next Q
     ((execOp a.eval { dst,op := .call { callee := .builtin b,args,argTypes },type:=ty,pos,after,guard }).run P w):=by
    intro z C p;obtain⟨u,g1,I⟩:=qbR (P:=P) (ty:=ty) (cs:=args.map fun | .const _=>true|_=>false) s (ux j args) C;have:(execOp a.eval { dst,op := .call { callee := .builtin b,args,argTypes },type:=ty,pos,after,guard }).run P w = .ok (.value u) w:=by
     simp only[execOp,resolve,qE,zh,qG,invoke];exact g1
    rw[this];exact hK _ _ _ _ _ p (Stp.refl s) I
   have aa:wK P mu b argTypes (evs ev args.toList) K->Oper.upon P { dst,op := .call { callee := .builtin b,args,argTypes },type:=ty,pos,after,guard } a next Q
     ((execOp a.eval { dst,op := .call { callee := .builtin b,args,argTypes },type:=ty,pos,after,guard }).run P w):=by
    intro⟨z,m,C,p⟩;have ra:=ux j args;obtain⟨u,w',g1,I,g3⟩:=qbK (P:=P) (ty:=ty) (cs:=args.map fun | .const _=>true|_=>false) s ra.1 ra.2 C;have:(execOp a.eval { dst,op := .call { callee := .builtin b,args,argTypes },type:=ty,pos,after,guard }).run P w = .ok (.value u) w':=by
     simp only[execOp,resolve,qE,zh,qG,invoke];exact g1
    rw[this];exact hK _ _ _ _ _ p I g3
   cases b<;>simp only at h<;>try (first|exact aa h | (obtain⟨z,C,p⟩:=h;exact fin z C p))
   obtain⟨sv,xv,hl,ab⟩:=h;have ra:=ux j args;rw[hl]at ra;obtain⟨u,v,e1,ru,rv⟩:=ra.two_inv;obtain⟨z,T,p,v',w',G',g1,I,g3⟩:=qaT (ty:=ty) s ru rv ab;have:(execOp a.eval { dst,op := .call { callee := .builtin .append,args,argTypes },type:=ty,pos,after,guard }).run P w = .ok (.value v') w':=by
    simp only[execOp,resolve,qE,zh,qG,invoke,builtin,e1,g1]
   rw[this];exact hK _ _ _ _ _ p I g3
  |value f =>
   rcases h with ⟨v,hp,p⟩|⟨_,⟨g,fi,ca,R,hf,hs,hr,ae⟩|⟨i,R,hf,hs,p⟩⟩
   .obtain ⟨g,a5,a6,e1,a0,hc⟩:=Kq s (j f) (ux j args) hp
    have:(execOp a.eval { dst,op := .call { callee := .value f,args,argTypes },type:=ty,pos,after,guard }).run P w = .ok (.enter g (a5++args.map a.eval++a6)) w:=by
     simp only[execOp,resolve,qE,zh,qG,e1,Deferred.ofValue,invoke,a0 _ w]
    rw[this];refine hc.mono fun e w' ⟨G',u,he,a1,hu⟩=>?_
    subst he;exact hK _ _ _ _ _ p a1 hu
   .have rf:=j f
    rw[hf]at rf;generalize hq:a.eval f=fv at rf;cases rf with
    |fn _ _ _ a5 a6 hn hm hv hw =>
    obtain⟨a0,hs⟩:=hs;have:(execOp a.eval { dst,op := .call { callee := .value f,args,argTypes },type:=ty,pos,after,guard }).run P w = .ok (.enter g (a5++args.map a.eval++a6)) w:=by
     simp only[execOp,resolve,qE,zh,qG,hq,Deferred.ofValue,invoke,a0 _ w]
    rw[this];refine(hs G w _ s (zz.append3 ⟨hn,hv⟩ (ux j args) ⟨hm,hw⟩)).mono fun e w' ⟨G',T,a1,h⟩=>?_
    rcases h with ⟨r,v,hR,rfl,a7⟩|⟨r,v,hR,rfl,a7⟩
    .exact hK _ _ _ _ _ (hr r T hR) a1 a7
    .exact a3 _ _ _ _ _ (ae r T hR) a1 a7
   .exact (U ⟨f,args,argTypes,i,R,rfl,hf,hs,p⟩).elim
structure Ro where
 rd:Option Nat
 dl:List Deferred
 mks:Bool
 kp:List (AV×j3)
def Ro.fn:Ro:=⟨none,[],true,[]⟩
def Ro.round(l:Nat):Ro:=⟨some l,[],true,[]⟩
def WF(ro:Ro):Fence:={ Fence.wide with round:=ro.rd }
theorem Kt{ro:Ro}{next:Act->j2->Prop}{Q:Exit->Act->j2->Prop}{g:Result Next}(h:o.upon P a next Q g):o.uponIn (WF ro) 0 P a next Q g:=by
 have j:((WF ro).depth.isSome=true->1<=0):=fun h=>by simp[WF,Fence.wide]at h
 cases g with
 |halt i w=>cases i<;>first|exact h|exact h.elim
 |ok n w =>
  cases n
  case value v=>exact h
  case skip=>exact h
  case defer d=>exact h
  case enter f args =>
   refine⟨j,?_⟩;have:=(callsIn_wide (n:=0)).2 h;exact this
  case row row args =>
   refine⟨j,fun c l _=>?_⟩;obtain⟨v,p,r,t⟩:=h c l;exact⟨v,p,r,stepsIn_wide.2 t⟩
  all_goals exact h.elim
theorem Jm{pl:Pol}{det:Bool}{ro:Ro}{mu:Mu}{ev:uk->AV}(s:Sim G mu w.heap)(j:∀ x,VRel G w.heap (ev x) (a.eval x))
  (h:qw P pl det o.dst o.op ev mu K Kp) {next:Act->j2->Prop} {Q:Exit->Act->j2->Prop}
  (J:∀ v g G' w' u,K v g->Stp G mu w G' g w'->VRel G' w'.heap v u->next (a.put o.dst u) w')
  (t:∀ v g G' w' u,Kp v g->Stp G mu w G' g w'->VRel G' w'.heap v u->Q (.panic [{ v:=u,recovered:=false }]) a w'):o.wpIn (WF ro) 0 P a w next Q:=by
 have T:∀ c,o.op ≠ .defer c:=by
  intro c e;rw[e]at h;simp only[qw]at h
 refine⟨fun _ _=>trivial,?_⟩;rw[show (WF ro).round=ro.rd from rfl,Oper.semAt_eq _ _ _ T];by_cases hy:Ks P o.op ev mu K
 .obtain ⟨f,args,U,i,R,ho,hf,hs,hk⟩:=hy
  obtain⟨dst,op,ty,pos,after,guard⟩:=o;simp only at ho J t⊢;subst ho;have rf:=j f;rw[hf]at rf;generalize hq:a.eval f=fv at rf;cases rf with
  |yl _ l a0 hb =>
  obtain⟨fn,C,a1,I,h1,h2⟩:=hs G w (args.map a.eval) s (ux j args) l a0 hb;have:(execOp a.eval { dst,op := .call { callee := .value f,args,argTypes:=U },type:=ty,pos,after,guard }).run P w = .ok (.round l fn C a1 I) w:=by
   simp only[execOp,resolve,qE,zh,qG,hq,Deferred.ofValue,invoke];simpa using h1
  rw[this];refine⟨fun h=>by simp[WF,Fence.wide]at h,?_⟩;refine RoundIn.mono (F:=WF ro) (n:=0) h2 ?_;rintro e w' ⟨b,G',g,rfl,a2,hR⟩;exact J _ _ _ _ _ (hk b g hR) a2 (.sc _ rfl)
 .exact Kt (qbV s j h hy J t)
end
end Go.Ev
namespace Go.Ev
open Go Go.RowKit
section
variable {ops:Array wg}
def pe(o:wg):List Edge:=o.after.toList.filter (Region.binds .any)
theorem Ug{e:Edge}(h:Region.binds .any e=true)(m:Region.Mode):Region.binds m e=true:=by
 grind [Region.binds,absurd]
def wd(ops:Array wg)(i:Nat):List Nat:=match ops[i]? with|some o=>(pe o).map (·.on)|none=>[]
def Ku(ops:Array wg):Bool:=(qo ops.size).all fun i=>match ops[i]? with|some o=>o.after.toList.all fun e=>decide (e.on<i)||!Region.binds .text e|none=>true
def Kv(ops:Array wg):Bool:=(qo ops.size).all fun i=>match ops[i]? with|some o=>o.after.toList.all fun e=>decide (e.on<i)|none=>true
def Kw(ops:List wg):Nat->List Nat->List Nat
 | 0,g=>g.reverse
 |n+1,g=>match (qo ops.length).find? fun i=>!g.contains i&&(match ops[i]? with|some o=>o.after.toList.all fun e=>!Region.binds .gc e||g.contains e.on|none=>false) with
  |some i=>Kw ops n (i :: g)
  |none=>g.reverse
def Uh(ops:Array wg)(L:List Nat):Bool:=decide (L.length=ops.size)&&(qo L.length).all fun p=>match L[p]? with
 |some i=>!(L.take p).contains i&&(match ops[i]? with|some o=>o.after.toList.all fun e=>!Region.binds .gc e||(L.take p).contains e.on|none=>false)
 |none=>false
def yI(ops:Array wg):Bool:=Ku ops&&(Kv ops||Uh ops (Kw ops.toList ops.size []))
theorem Ui(h:yI ops=true):∀(i:Nat) (o:wg),ops[i]?=some o->∀ e,e∈o.after.toList->Region.binds .text e=true->e.on<i:=by
 intro i o g e j l;unfold yI at h;rw[qq]at h
 grind [Ku,qJ,zM]
theorem Kx{o:wg}{e:Edge}(h:e∈pe o):e∈o.after.toList/\Region.binds .text e=true:=⟨(jg.1 h).1,Ug (jg.1 h).2 .text⟩
def Topo(ops:Array wg)(L:List Nat):Prop:=∀ pre j post,L=pre++j :: post->j<ops.size/\j ∉ pre/\∀ e,e∈wd ops j->e∈pre
theorem Topo.nil(ops:Array wg):Topo ops []:=fun pre j post h=>by simp at h
theorem Topo.snoc{L:List Nat}{j:Nat}(h:Topo ops L)(i:j<ops.size)(l:j ∉ L)(o:∀ e,e∈wd ops j->e∈L):Topo ops (L++[j]):=by
 intro pre k post e;rcases List.eq_nil_or_concat post with rfl|⟨g,x,rfl⟩
 .simp_all
 .rw [<-List.concat_eq_append,List.concat_eq_append,List.concat_eq_append,<-yD,<-zc]at e
  have:=List.append_inj' e rfl;exact h pre k g this.1
theorem qbW(g:List Nat){n:Nat}:∀ i,i<n->i ∉ g->∃ j,j<n/\j ∉ g/\∀ k,k<j->k∈g:=by
 intro i;induction i using Nat.strongRecOn with
 |_ i l =>
  grind
theorem Uj{m:Region.Mode}(l:∀(i:Nat) (o:wg),ops[i]?=some o->∀ e,e∈o.after.toList->Region.binds m e=true->e.on<i)(g:List Nat)(p:∃ i,i<ops.size/\i ∉ g) :
  ∃ j,j<ops.size/\j ∉ g/\∀ o,ops[j]?=some o->∀ e,e∈o.after.toList->Region.binds m e=true->e.on∈g:=by
 grind [qbW]
theorem qbX{L:List Nat}(h:Uh ops L=true)(g:List Nat)(I:∃ i,i<ops.size/\i ∉ g) :
  ∃ j,j<ops.size/\j ∉ g/\∀ o,ops[j]?=some o->∀ e,e∈o.after.toList->Region.binds .gc e=true->e.on∈g:=by
 unfold Uh at h;rw[qq,decide_eq_true_eq,qJ]at h;obtain⟨a2,J⟩:=h;have J:∀ p,p<L.length->∃ i,L[p]?=some i/\i ∉ L.take p/\∃ o,ops[i]?=some o/\∀ e,e∈o.after.toList->Region.binds .gc e=true->e.on∈L.take p:=by
  intro p r;have:=J p (zUs r)
  grind
 have P:L.Nodup:=by
  grind [List.Nodup,List.pairwise_iff_getElem,qv,qj,vB]
 have R:∀ x,x∈L->x<ops.size:=by
  intro x t;obtain⟨p,r,e⟩:=vB.1 t;obtain⟨y,T,_,o,ho,_⟩:=J p r;rw[qv r]at T;simp only[qj]at T;rw[<-e,T];exact(zM.1 ho).1
 have C:∀ i,i<ops.size->i∈L:=by
  intro i U;refine vD fun hn=>?_
  have h1:(i :: L).length<=(qo ops.size).length:=jR (jw.2 ⟨hn,P⟩) (fun k hk=>by
   rcases qu.1 hk with rfl|hk
   .simpa using U
   .simpa using R k hk)
  simp at h1;omega
 obtain⟨i,U,a0⟩:=I;have key:∀ n p,L.length=p+n->(∀ x,x∈L.take p->x∈g)->∃ q,q<L.length/\(∀ x,x∈L.take q->x∈g)/\∀ x,L[q]?=some x->x ∉ g:=by
  intro n;induction n with
  |zero =>
   intro p a1 t;rw[List.take_of_length_le zOm]at t;exact absurd (t i (C i U)) a0
  |succ n ih =>
   intro p a1 t;by_cases hc:L[p]' zOm∈g
   .refine ih (p+1) zOm fun x l=>?_
    rw[List.take_add_one,qv zOm]at l;rcases qC.1 l with h|h
    .exact t x h
    .simp at h;rw[h];exact hc
   .refine ⟨p,zOm,t,fun x l=>?_⟩
    rw[qv zOm]at l;simp only[qj]at l;rw[<-l];exact hc
 obtain⟨q,hq,h1,h2⟩:=key L.length 0 zOm zSp
 grind
theorem qbY(h:yI ops=true)(m:Region.Mode)(g:List Nat)(l:∃ i,i<ops.size/\i ∉ g) :
  ∃ j,j<ops.size/\j ∉ g/\∀ o,ops[j]?=some o->∀ e,e∈o.after.toList->Region.binds m e=true->e.on∈g:=by
 have t:=Ui h;cases m with
 |text=>exact Uj t g l
 |any=>exact Uj (fun i o C e I p=>t i o C e I (Ug p .text)) g l
 |gc =>
  unfold yI at h;rw[qq,vF]at h;rcases h.2 with r|r
  .refine Uj (fun i o C e I _=>?_) g l
   unfold Kv at r
   grind
  .exact qbX r g l
theorem qbZ(C:yI ops=true)(m:Region.Mode):∀(fuel t:Nat) (listed:Array Bool) (g:List Nat),fuel+g.length=ops.size->listed.size=ops.size ->
  (∀ i,i<ops.size->(listed.getD i true=true↔i∈g))->Topo ops g.reverse->g.Nodup->(∀ i,i∈g->i<ops.size) ->
  Topo ops (Region.linearise.go m ops fuel t listed g)/\(Region.linearise.go m ops fuel t listed g).length=ops.size:=by
 have U:=Ui C;have l:=qbY C m;intro fuel;induction fuel with
 |zero =>
  grind [Region.linearise.go]
 |succ fuel ih =>
  intro t listed g hf hs hl ht hn hb;simp only[Region.linearise.go];generalize a0:((qo ops.size).filter fun i=>!listed.getD i true&&((ops[i]?).map (·.after.all fun e=>!Region.binds m e||listed.getD e.on false)).getD false)=o;have I:∀ i,i∈o->i<ops.size/\i ∉ g/\∀ e,e∈wd ops i->e∈g:=by
   intro i p;rw[<-a0,jg]at p;obtain⟨T,h2⟩:=p;have T:i<ops.size:=zUs T;simp only[qq,Bool.not_eq_true']at h2;refine⟨T,fun h=>?_,fun e r=>?_⟩
   .grind
   .unfold wd at r
    have ho:ops[i]?=some ops[i]:=zP1 T;rw[ho]at r;simp only[qk]at r;obtain⟨x,a1,rfl⟩:=r;obtain⟨hx,a2⟩:=jg.1 a1;have h3:=h2.2;rw[ho]at h3;simp only[qS,Option.getD_some]at h3;have h4:=(Array.all_eq_true'.1 h3) x (zUs hx);rw[Ug a2 m]at h4
    grind
  have a3:o≠[]:=by
   have a4:∃ i,i<ops.size/\i ∉ g:=by
    refine vD fun a5=>?_
    have J:∀ i,i<ops.size->i∈g:=fun i p=>vD fun h=>a5 ⟨i,p,h⟩
    have:(qo ops.size).length<=g.length:=jR (List.nodup_range) (fun i p=>J i (zUs p));simp at this;omega
   obtain⟨j,hj,a8,a7⟩:=l g a4
   grind
  have P:0<o.length:=List.length_pos_iff.2 a3;have R:t % o.length<o.length:=Nat.mod_lt _ P;rw[qv R];simp only;obtain⟨g1,g2,g3⟩:=I _ (List.getElem_mem R);generalize o[t % o.length]=i at g1 g2 g3;refine ih _ _ _ zSo (zP1 hs) ?_ ?_ (jw.2 ⟨g2,hn⟩) (fun k hk=>?_)
  .intro k hk
   by_cases a6:k=i
   .subst a6
    have:k<listed.size:=zOm;simp[qB,this]
   .have:=hl k hk
    simp only[qB]at this⊢
    grind
  .rw [List.reverse_cons]
   exact ht.snoc g1 (zUs g2) (fun e r=>by simpa using g3 e r)
  grind
theorem Ky(j:yI ops=true)(g:Bool)(t:Nat):Topo ops (Region.schedule g ops t)/\(Region.schedule g ops t).length=ops.size:=by
 have key:∀(m:Region.Mode) (t:Nat),Topo ops (Region.linearise m ops t)/\(Region.linearise m ops t).length=ops.size:=by
  intro m t;unfold Region.linearise;exact qbZ j m ops.size t _ [] zSp zSp (fun i l=>by simp[qB,l]) (Topo.nil ops) List.nodup_nil zSp
 unfold Region.schedule;split
 .exact key _ _
 .exact key _ _
def uy(g:List Nat)(o:wg):Nat:=(pe o).foldl (fun s e=>s ||| (2 ^ e.on ||| g.getD e.on 0)) 0
def vg:List wg->List Nat->List Nat
 | [],g=>g
 |o :: l,g=>vg l (g++[uy g o])
theorem Kz:∀(l:List wg) (g:List Nat),∃ r,vg l g=g++r/\r.length=l.length
 | [],g=>⟨[],by simp[vg],rfl⟩
 |o :: l,g=>by
  obtain⟨r,i,j⟩:=Kz l (g++[uy g o])
  grind [uy,vg]
theorem KA(f:Edge->Nat)(i:Nat):∀(l:List Edge) (s:Nat),(l.foldl (fun s e=>s ||| f e) s).testBit i=true->s.testBit i=true\/∃ e,e∈l/\(f e).testBit i=true
 | [],s,h => .inl h
 |e :: l,s,h=>by
  simp only[List.foldl_cons]at h;rcases KA f i l _ h with h|⟨g,j,o⟩
  .grind
  grind
def zN(ops:Array wg)(j:Nat):Nat:=(vg ops.toList []).getD j 0
theorem KB:∀(l:List wg) (g:List Nat) (k:Nat) (o:wg),l[k]?=some o->(∀ e,e∈(pe o)->e.on<g.length+k) ->
  (vg l g).getD (g.length+k) 0=(pe o).foldl (fun s e=>s ||| (2 ^ e.on ||| (vg l g).getD e.on 0)) 0
 | [],g,k,o,h,_=>by simp at h
 |x :: l,g,k,o,h,j=>by
  simp only[vg];cases k with
  |zero =>
   simp at h;subst h;obtain⟨r,p,C⟩:=Kz l (g++[uy g x]);rw[p];have t:(g++[uy g x]++r).getD (g.length+0) 0=uy g x:=by simp[q8]
   rw[t];unfold uy;have key:∀(T:List Edge) (s:Nat),(∀ e,e∈T->e.on<g.length)->T.foldl (fun s e=>s ||| (2 ^ e.on ||| g.getD e.on 0)) s=T.foldl (fun s e=>s ||| (2 ^ e.on ||| (g++[(pe x).foldl (fun s e=>s ||| (2 ^ e.on ||| g.getD e.on 0)) 0]++r).getD e.on 0)) s:=by
    intro T;induction T with
    |nil=>intro s _;rfl
    |cons e T I =>
     grind
   grind
  |succ k =>
   have:=KB l (g++[uy g x]) k o (zUs h) (fun e i=>by have:=j e i;simp;omega);rw[show (g++[uy g x]).length+k=g.length+(k+1) by simp;omega]at this;exact this
theorem qb0(l:yI ops=true){j i:Nat}(r:j<ops.size)(h:(zN ops j).testBit i=true):∃ e,e∈wd ops j/\(i=e\/(zN ops e).testBit i=true):=by
 have g:=Ui l;have o:ops[j]?=some ops[j]:=zP1 r;have t:wd ops j=(pe ops[j]).map (·.on):=by unfold wd;rw[o]
 have:=KB ops.toList [] j ops[j] zSp (fun e p=>by
  have:=g j _ o e (Kx p).1 (Kx p).2;simp;omega)
 simp only[List.length_nil,Nat.zero_add]at this;unfold zN at h⊢;rw[this]at h;rcases KA _ i _ _ h with h|⟨e,C,I⟩
 .simp at h
 grind
def Uk(ops:Array wg)(S:Nat->Prop):Prop:=∀ j,S j->j<ops.size/\∀ i,(zN ops j).testBit i=true->S i
theorem Uk.mask(g:yI ops=true){S:Nat->Prop}(r:Uk ops S){j:Nat}(t:j<ops.size)(o:∀ e,e∈wd ops j->S e) :
  ∀ i,(zN ops j).testBit i=true->S i:=by
 intro i C;obtain⟨e,p,l⟩:=qb0 g t C;rcases l with rfl|l
 .exact o i p
 .exact (r e (o e p)).2 i l
def Bef(L:List Nat)(i k:Nat):Prop:=∀ p q,L=p++k :: q->i∈p
theorem Bef.total:∀{L:List Nat} {i k:Nat},i∈L->k∈L->i≠k->Bef L i k\/Bef L k i
 | [],i,k,h,_,_=>absurd h zSp
 |x :: l,i,k,I,J,g=>by
  have cons:∀{i k:Nat},Bef l i k->x≠k->Bef (x :: l) i k:=by
   intro i k h P p q e;cases p with
   |nil=>grind
   |cons y t =>
    simp only[yD,YQ]at e;exact qK _ (h t q e.2)
  have head:∀{k:Nat},x≠k->Bef (x :: l) x k:=by
   intro k P p q e;cases p with
   |nil=>grind
   |cons y t =>
    grind
  by_cases j:x=i
  .subst j;exact .inl (head g)
  .by_cases C:x=k
   .grind
   .have o:i∈l:=by simpa[Ne.symm j] using I
    have r:k∈l:=by simpa[Ne.symm C] using J
    rcases Bef.total o r g with h|h
    .exact .inl (cons h C)
    .exact .inr (cons h j)
theorem Topo.pre{p:List Nat}{j:Nat}(h:Topo ops (p++[j])):Topo ops p:=fun pre k post e=>h pre k (post++[j]) (by rw[e];simp)
theorem Topo.pre':∀(q:List Nat) {p:List Nat},Topo ops (p++q)->Topo ops p
 | [],p,h=>zUs h
 |j :: q,p,h=>by
  grind [Topo]
theorem Topo.closed(o:yI ops=true):∀(n:Nat) (p:List Nat),p.length=n->Topo ops p->Uk ops (·∈p)/\p.Nodup:=by
 intro n;induction n with
 |zero=>intro p l _;have:=vE l;subst this;exact⟨fun j r=>by simp at r,List.nodup_nil⟩
 |succ n R =>
  intro p l J;rcases List.eq_nil_or_concat p with rfl|⟨P,j,rfl⟩
  .simp at l
  .rw [List.concat_eq_append]at *
   obtain⟨t,hn⟩:=R P (zUs l) J.pre;obtain⟨r,T,C⟩:=J P j [] rfl;have I:=t.mask o r C;refine⟨fun k g=>?_,?_⟩
   .rcases qC.1 g with g|g
    .exact ⟨(t k g).1,fun i U=>qC.2 (.inl ((t k g).2 i U))⟩
    grind
   grind
theorem Topo.bef(g:yI ops=true){L:List Nat}(l:Topo ops L){i k:Nat}(h:(zN ops k).testBit i=true):Bef L i k:=by
 intro p q e;obtain⟨o,_,j⟩:=l p k q e;have r:=(Topo.closed g _ p rfl (Topo.pre' (k :: q) (by rw[<-e];exact l))).1;exact r.mask g o j i h
end
end Go.Ev
namespace Go.Ev
open Go Go.RowKit
section
variable {G G':Gh}{dl:List Deferred}{mu:Mu}{i:Nat}{w w':j2}
theorem Qo{j:Nat}{c:Cell}(h:(mu.set i .dead)[j]?=some c)(l:c ≠ .dead):j≠i/\mu[j]?=some c:=by
 by_cases e:i=j
 .subst e
  rw[List.getElem?_set_self']at h;cases g:mu[i]? with
  |none=>rw[g]at h;simp at h
  |some o=>rw[g]at h;simp at h;exact absurd h.symm l
 .rw [yP e]at h
  exact⟨fun h=>e h.symm,h⟩
theorem Live.hid{b:Nat}(h:Live G (mu.set i .dead) b):Live G mu b:=by
 obtain⟨j,c,g,o,l,p⟩:=h;exact⟨j,c,g,(Qo o l).2,l,p⟩
theorem Sim.hid{h:Array Obj}(s:Sim G mu h)(i:Nat):Sim G (mu.set i .dead) h:=by
 refine⟨by simpa using s.len,s.imm,fun j c g l r o p=>s.obj j c g l (Qo r o).2 o p,fun j c g l r o p=>s.live j c g l (Qo r o).2 o p,?_,s.tab⟩;intro j k C I b J tk r o p t P R;exact s.inj j k C I b J tk (Qo r p).2 (Qo o t).2 p t P R
theorem Sim.hid_not{h:Array Obj}(s:Sim G mu h){i b t:Nat}{c:Cell}(p:mu[i]?=some c)(r:c ≠ .dead)(C:G.blk[i]?=some (b,t)):¬Live G (mu.set i .dead) b:=by
 rintro⟨j,I,g,J,o,P⟩;obtain⟨l,R⟩:=Qo J o;exact l (s.inj j i I c b g t R p o r P C)
theorem Stp.unhid{M m:Mu}{b t:Nat}{c:Cell}(s:Sim G M w.heap)(hc:M[i]?=some c)(hd:c ≠ .dead)(hb:G.blk[i]?=some (b,t))(T:Stp G (M.set i .dead) w G' m w') :
  m[i]?=some .dead/\w'.heap[b]?=w.heap[b]?/\Stp G M w G' (m.set i c) w':=by
 have hn:=s.hid_not hc hd hb;obtain⟨o,ho,hr⟩:=s.obj i c b t hc hd hb;have P:b<w.heap.size:=(zM.1 ho).1;have hk:w'.heap[b]?=w.heap[b]?:=T.keep b P hn;have p:G'.blk[i]?=some (b,t):=T.le.blk _ _ hb;have R:¬Live G' m b:=fun h=>(T.live b h).elim hn (fun g=>absurd P (Nat.not_lt.2 g))
 have hi:i<m.length:=by rw[<-T.sim.len];exact(qe.1 p).1
 have hm:m[i]?=some .dead:=by
  have e:m[i]?=some m[i]:=qv hi;rw[e];by_cases hq:m[i] = .dead
  .rw [hq]
  .exact absurd ⟨i,m[i],t,e,hq,p⟩ R
 have a0:¬G'.imm b:=fun h=>by
  rcases T.inew b h with h|h|h
  .exact s.live i c b t hc hd hb h
  .exact hn h
  .exact absurd P (Nat.not_lt.2 h)
 have a1:Ext G w.heap w'.heap:=T.ext (s.hid i);have l:∀(j:Nat) (x:Cell),(m.set i c)[j]?=some x->x ≠ .dead->(j=i/\x=c)\/(j≠i/\m[j]?=some x):=by
  intro j x hj hx;by_cases e:i=j
  .subst e
   rw[zo hi]at hj;exact .inl ⟨rfl,(Option.some.inj hj).symm⟩
  .rw [yP e]at hj
   exact .inr ⟨fun h=>e h.symm,hj⟩
 refine⟨hm,hk,T.le,⟨by simpa using T.sim.len,T.sim.imm,?_,?_,?_,T.sim.tab⟩,?_,T.size,?_,?_,T.tape,T.os,T.output,T.drawn⟩
 .intro j x U C h1 I r
  rcases l j x h1 I with ⟨rfl,rfl⟩|⟨_,J⟩
  .rw [p]at r
   obtain⟨rfl,rfl⟩:=Prod.mk.inj (Option.some.inj r);exact⟨o,by rw[hk];exact ho,hr.mono T.le a1⟩
  .exact T.sim.obj j x U C J I r
 .intro j x U C h1 I r
  rcases l j x h1 I with ⟨rfl,rfl⟩|⟨_,J⟩
  .rw [p]at r
   obtain⟨rfl,rfl⟩:=Prod.mk.inj (Option.some.inj r);exact a0
  .exact T.sim.live j x U C J I r
 .intro j k cj ck b' tj tk h1 I r J h5 h6
  rcases l j cj h1 r with ⟨rfl,rfl⟩|⟨e1,g1⟩<;>rcases l k ck I J with ⟨rfl,rfl⟩|⟨e2,g2⟩
  .rfl
  .rw [p]at h5
   obtain⟨rfl,rfl⟩:=Prod.mk.inj (Option.some.inj h5);exact absurd ⟨k,ck,tk,g2,J,h6⟩ R
  .rw [p]at h6
   obtain⟨rfl,rfl⟩:=Prod.mk.inj (Option.some.inj h6);exact absurd ⟨j,cj,tj,g1,r,h5⟩ R
  .exact T.sim.inj j k cj ck b' tj tk g1 g2 r J h5 h6
 .intro x hx hl
  exact T.keep x hx (fun h=>hl h.hid)
 .rintro x ⟨j,cj,C,h1,I,r⟩
  rcases l j cj h1 I with ⟨rfl,rfl⟩|⟨_,J⟩
  .rw [p]at r
   obtain⟨rfl,rfl⟩:=Prod.mk.inj (Option.some.inj r);exact .inl ⟨j,cj,t,hc,hd,hb⟩
  .exact (T.live x ⟨j,cj,C,J,I,r⟩).imp (fun h=>h.hid) id
 .intro x hx
  rcases T.inew x hx with h|h|h
  .exact .inl h
  .exact .inr (.inl h.hid)
  .exact .inr (.inr h)
theorem Stp.drop{M:Mu}(s:Sim G M w.heap)(i:Nat):Stp G M w G (M.set i .dead) w:=
 ⟨.refl G,s.hid i,fun _ _ _=>rfl,qn _,fun _ h => .inl h.hid,fun _ h => .inl h,rfl,rfl,rfl,qn _⟩
theorem Sim.putOther{M:Mu}(s:Sim G M w.heap){D:Nat}{o:Obj}(I:¬Live G M D)(J:¬G.imm D):Sim G M (w.putObj D o).heap:=by
 have g:Ext G w.heap (w.putObj D o).heap:=⟨zSp,fun b p=>vJ (fun e=>J (e ▸ p))⟩;refine⟨s.len,fun b p=>by have:=s.imm b p;simpa using this,?_,s.live,s.inj,s.tab.mono (fun _ h=>h) g.keep⟩;intro j x i l r t C;obtain⟨P,R,T⟩:=s.obj j x i l r t C;refine⟨P,?_,T.mono (.refl G) g⟩;rw[vJ (fun (e:i=D)=>I ⟨j,x,l,r,t,e ▸ C⟩)];exact R
structure Mk (G:Gh) (mu:Mu) (h:Array Obj) (D:Nat):Prop where
 obj:h[D]?=some (.deferred (some []))
 nlive:¬Live G mu D
 nimm:¬G.imm D
theorem Mk.step{l:Mu}{D:Nat}(m:Mk G mu w.heap D)(t:Stp G mu w G' l w'):Mk G' l w'.heap D:=by
 have i:D<w.heap.size:=(zM.1 m.obj).1;refine⟨by rw[t.keep D i m.nlive];exact m.obj,fun h=>?_,fun h=>?_⟩
 .exact (t.live D h).elim m.nlive (fun g=>absurd i (Nat.not_lt.2 g))
 .rcases t.inew D h with h|h|h
  .exact m.nimm h
  .exact m.nlive h
  .exact absurd i (Nat.not_lt.2 h)
def mkOf(D:Nat):Deferred:={ target := .collected D,args:=#[] }
def Dfs(dl:List Deferred)(mk:Bool)(base:Nat)(G:Gh)(mu:Mu)(h:Array Obj)(ds:List Deferred):Prop:=∃ g:List Nat,(ds=g.map mkOf++dl/\(mk=false->g=[]))/\g.Nodup/\∀ D,D∈g->base<=D/\Mk G mu h D
theorem Dfs.nil(dl:List Deferred)(mk:Bool)(base:Nat)(G:Gh)(mu:Mu)(h:Array Obj):Dfs dl mk base G mu h dl:=⟨[],⟨rfl,fun _=>rfl⟩,List.nodup_nil,zSp⟩
theorem Dfs.step{mk:Bool}{base:Nat}{l:Mu}{ds:List Deferred}(d:Dfs dl mk base G mu w.heap ds)(t:Stp G mu w G' l w'):Dfs dl mk base G' l w'.heap ds:=by
 obtain⟨j,o,p,g⟩:=d;exact⟨j,o,p,fun D i=>⟨(g D i).1,(g D i).2.step t⟩⟩
def vO:List Nat->j2->j2
 | [],w=>w
 | D :: g,w=>vO g (w.putObj D (.deferred none))
theorem Ul{P:qf}{F:Fence}{n:Nat}{fn:Func}{g:Array j3}{R:Ending->j2->Prop}{u:FrameMode}(o:u ≠ .run):∀(i:List Nat) (w:j2),i.Nodup->(∀ D,D∈i->w.heap[D]?=some (.deferred (some []))) ->
  LeavesInM F n P fn g R dl u (vO i w)->LeavesInM F n P fn g R (i.map mkOf++dl) u w
 | [],w,_,_,h=>h
 | D :: i,w,t,p,h=>by
  obtain⟨j,l⟩:=jw.1 t;refine⟨o,.inl ⟨D,w.putObj D (.deferred none),rfl,run_takeDeferred (p D zSp),Ul o i _ l (fun E r=>?_) h⟩⟩;rw[vJ (fun (e:E=D)=>j (e ▸ r))];exact p E (zP1 r)
theorem KC{o:Gh}{i:Mu}{l:j2}:∀(j:List Nat) (w:j2),j.Nodup->(∀ D,D∈j->l.heap.size<=D/\Mk G mu w.heap D)->Stp o i l G mu w ->
  Stp o i l G mu (vO j w)/\Ext G w.heap (vO j w).heap
 | [],w,_,_,t=>⟨t,Ext.refl _ _⟩
 | D :: j,w,R,p,t=>by
  obtain⟨r,C⟩:=jw.1 R;obtain⟨hb,I⟩:=p D zSp;have t1:Stp o i l G mu (w.putObj D (.deferred none)):=by
   refine⟨t.le,t.sim.putOther I.nlive I.nimm,fun b g T=>?_,by simpa using t.size,t.live,t.inew,t.tape,t.os,t.output,t.drawn⟩;rw[vJ zOm];exact t.keep b g T
  obtain⟨U,P⟩:=KC j (w.putObj D (.deferred none)) C (fun E J=>⟨(p E (zP1 J)).1,by
   have m:=(p E (zP1 J)).2;exact⟨by rw[vJ (fun (e:E=D)=>r (e ▸ J))];exact m.obj,m.nlive,m.nimm⟩⟩) t1
  .refine ⟨U,⟨Nat.le_trans zSp P.size,fun b g=>?_⟩⟩
   have:=P.keep b g;simp only[vO];rw[this,vJ (fun (e:b=D)=>I.nimm (e ▸ g))]
end
end Go.Ev
namespace Go.Ev
open Go Go.RowKit
section
variable {a:Act}{ops:Array wg}{G:Gh}{g l m mu:Mu}{o:wg}{ev':uk->AV}{pl:Pol}{P:qf}{w:j2}
def Br(b:Bool)(p q:Prop):Prop:=(b=true->p)/\(b=false->q)
def wL:AV->Bool->Option Bool
 | .sc (.bool b),g=>some (b == g)
 | .sc _,_=>some false
 |_,_=>none
def zE(ops:Array wg)(st:St)(o:wg):Option Bool:=
 match o.guard with
 |none=>some true
 |some (j,g)=>match (ops[j]?).bind (·.dst) with
  |none=>some false
  |some d=>wL (st.tm d) g
def awpS(P:qf)(pl:Pol)(det:Bool)(ops:Array wg):List wg->(St->Prop)->(AV->St->Prop)->St->Prop
 | [],Q,_,st=>Q st
 |o :: l,Q,g,st=>OptK (zE ops st o) fun b =>
   Br b (qw P pl det o.dst o.op st.ev st.mu (fun v m=>awpS P pl det ops l Q g (st.put o.dst v m)) (fun v m=>g v ⟨st.tm,m⟩)) (awpS P pl det ops l Q g (st.put o.dst (.sc va) st.mu))
structure Rel (ro:Ro) (G0:Gh) (mu0:Mu) (w0:j2) (n:Nat) (G:Gh) (st:St) (a:Act) (w:j2):Prop where
 tm:∀ i,VRel G w.heap (st.tm i) (a.tmps.getD i va)
 df:ro.rd=none->Dfs ro.dl ro.mks w0.heap.size G st.mu w.heap a.defers
 size:a.tmps.size=n
 stp:Stp G0 mu0 w0 G st.mu w
 kp:∀ p,p∈ro.kp->VRel G w.heap p.1 p.2
theorem Rel.ev{ro:Ro}{j:Gh}{i:Mu}{l:j2}{n:Nat}{st:St}(r:Rel ro j i l n G st a w)(x:uk):VRel G w.heap (st.ev x) (a.eval x):=by
 cases x with
 |tmp t=>exact r.tm t
 |const v=>exact .ofV v
 |global g=>exact .any _
 |func f=>exact .fn _ [] [] _ _ rfl rfl zSp zSp
def dOk(n:Nat):Option Tmp->Bool|some d=>decide (d<n)|none=>true
theorem Rel.put{ro:Ro}{j:Gh}{l:j2}{n:Nat}{G':Gh}{st:St}{w':j2}{v:AV}{u:j3}{d:Option Tmp}(I:Sim j g l.heap)(r:Rel ro j g l n G st a w)(t:Stp G st.mu w G' m w')(P:VRel G' w'.heap v u)
  (o:dOk n d=true):Rel ro j g l n G' (st.put d v m) (a.put d u) w':=by
 refine⟨fun i=>?_,?_,?_,r.stp.trans I t,fun p J=>t.vrel r.stp.sim (r.kp p J)⟩
 .cases d with
  |none=>exact t.vrel r.stp.sim (r.tm i)
  |some d =>
   simp only[dOk,decide_eq_true_eq]at o;simp only[St.put,Act.put];by_cases C:i=d
   .subst C
    rw[if_pos rfl];have:i<a.tmps.size:=by rw[r.size];exact o
    simp_all
   .rw [if_neg C]
    have:(a.tmps.setIfInBounds d u).getD i va=a.tmps.getD i va:=by
     simp only[qB]
     grind
    rw[this];exact t.vrel r.stp.sim (r.tm i)
 .intro h
  have:=(r.df h).step t;cases d<;>exact this
 .cases d with
  |none=>exact r.size
  |some d=>simp[Act.put,r.size]
theorem Rel.drew{ro:Ro}{i:Gh}{j:j2}{n:Nat}{st:St}(l:Sim i g j.heap)(r:Rel ro i g j n G st a w):Rel ro i g j n G st a w.drew:=
 ⟨r.tm,r.df,r.size,r.stp.trans l (Stp.drew r.stp.sim),r.kp⟩
theorem Jn{ro:Ro}{C:Gh}{I:j2}{n:Nat}{st:St}(r:Rel ro C l I n G st a w){ops:Array wg}{o:wg}{b:Bool}(h:zE ops st o=some b):Region.wanted o (yielded ops a.tmps)=b:=by
 unfold zE at h;unfold Region.wanted;cases i:o.guard with
 |none=>rw[i]at h;simpa using h
 |some q =>
  obtain⟨j,t⟩:=q;rw[i]at h;simp only at h⊢;unfold yielded;cases J:(ops[j]?).bind (·.dst) with
  |none=>grind
  |some d =>
   rw[J]at h;simp only[Option.bind_some]at h⊢;have rd:=r.tm d;have g:a.tmps[d]?=some (a.tmps.getD d va)\/a.tmps[d]?=none/\a.tmps.getD d va=va:=by
    simp only[qB]
    grind
   unfold wL at h;split at h
   .rename_i P p
    simp only[qj]at h;subst h;rw[p]at rd;generalize a.tmps.getD d va=v at rd g;cases rd;rcases g with i|⟨_,i⟩
    .grind
    .exact absurd i (by simp[va])
   .rename_i v R p
    simp only[qj]at h;subst h;rw[p]at rd;generalize a.tmps.getD d va=T at rd g;cases rd;rcases g with i|⟨i,_⟩
    .grind
    .rw [i];rfl
   grind
theorem KD{ro:Ro}{l2:List wg}{C:Gh}{I:j2}{n:Nat}(J:Sim C g I.heap){Q:St->Prop}{Qp:AV->St->Prop}{QQ:Exit->Act->j2->Prop}
  (hQ:∀ st a w G,Q st->Rel ro C g I n G st a w->wpListIn (WF ro) 0 P ops QQ l2 a w)
  (R:∀ v st a w G u,Qp v st->Rel ro C g I n G st a w->VRel G w.heap v u->QQ (.panic [{ v:=u,recovered:=false }]) a w) :
  ∀(l:List wg) (st:St) (a:Act) (w:j2) (G:Gh),Rel ro C g I n G st a w->(l.all fun o=>dOk n o.dst)=true->awpS P pl false ops l Q Qp st->wpListIn (WF ro) 0 P ops QQ (l++l2) a w:=by
 intro l;induction l with
 |nil=>intro st a w G r _ h;exact hQ st a w G h r
 |cons o l ih =>
  intro st a w G r p h;simp only[List.all_cons,qq]at p;obtain⟨b,hb,h1,h2⟩:=h;have hw:=Jn r hb;simp only[yD,wpListIn,hw];cases b with
  |false =>
   rw[if_neg zSp];exact⟨fun _ _=>trivial,ih _ _ _ G (r.put J (Stp.refl r.stp.sim) (.sc _ rfl) p.1) p.2 (h2 rfl)⟩
  |true =>
   rw[if_pos rfl];refine Jm r.stp.sim r.ev (h1 rfl) ?_ ?_
   .intro v t T w' u U j hv
    exact ih _ _ _ T (r.put J j hv p.1) p.2 U
   .intro v t T w' u U j hv
    refine R v ⟨st.tm,t⟩ a w' T u U ?_ hv;exact r.put (d:=none) J j (.any va) rfl
theorem Um{ro:Ro}{j:Gh}{p:j2}{n:Nat}(I:Sim j g p.heap){Q:St->Prop}{C:AV->St->Prop}{QQ:Exit->Act->j2->Prop}
  (J:∀ st a w G,Q st->Rel ro j g p n G st a w->QQ .normal a w)
  (t:∀ v st a w G u,C v st->Rel ro j g p n G st a w->VRel G w.heap v u->QQ (.panic [{ v:=u,recovered:=false }]) a w) :
  ∀(l:List wg) (st:St) (a:Act) (w:j2) (G:Gh),Rel ro j g p n G st a w->(l.all fun o=>dOk n o.dst)=true->awpS P pl false ops l Q C st->wpListIn (WF ro) 0 P ops QQ l a w:=by
 intro l st a w G r R h;have:=KD (l2:=[]) I (fun st a w G T r=>J st a w G T r) t l st a w G r R h
 grind
def memW(pl:Pol)(o:wg):Bool:=
 match o.op with
 | .alloc _ | .store .. | .makeSlice .. | .mapUpdate .. | .mapEntry .. | .entryStore .. | .makeMap .. | .insert .. | .range .. | .next .. => true
 | .box .. => o.dst.any pl.mt.contains
 | .call c=>match c.callee with | .builtin .append | .builtin .copy | .builtin .delete | .builtin .clear=>true|_=>false
 |_=>false
def memR(o:wg):Bool:=
 match o.op with
 | .load .. | .call _ | .lookup .. | .entry .. => true
 |_=>false
def Un(l:Array uk):List Tmp:=l.toList.filterMap fun | .tmp t=>some t|_=>none
def uz(ops:Array wg)(o:wg):List Tmp:=
 Un o.op.operands++(match o.guard with|some (j,_)=>((ops[j]?).bind (·.dst)).toList|none=>[])
def Uo(pl:Pol)(o:wg):Bool:=
 match o.op with
 | .alloc _ | .makeSlice .. | .makeMap .. => true
 | .box .. => o.dst.any pl.mt.contains
 |_=>false
def reads(pl:Pol)(o:wg):Bool:=memR o&&!memW pl o
def soft(pl:Pol)(a b:wg):Bool:=
 (match a.op,b.op with
 | .lookup t _ _ false,.mapEntry g _ _=>t == g
 |_,_=>false)||(reads pl a&&Uo pl b)
def zY(pl:Pol)(ops:Array wg)(a b:wg):Bool:=
 (memW pl a&&(memW pl b||memR b))||(memR a&&memW pl b&&!soft pl a b) ||
 (match a.dst with|some d=>(uz ops b).contains d||b.dst == some d|none=>false) ||
 (match b.dst with|some d=>(uz ops a).contains d|none=>false)
def Qq(pl:Pol)(ops:Array wg):Bool:=
 yI ops&&(let g:=vg ops.toList [];(qo ops.size).all fun j=>(qo j).all fun i =>
  match ops[i]?,ops[j]? with|some a,some b=>!zY pl ops a b||(g.getD j 0).testBit i|_,_=>true)
theorem qb1(h:Qq pl ops=true):yI ops=true/\∀(i j:Nat) a b,i<j->ops[i]?=some a->ops[j]?=some b->zY pl ops a b=true->(zN ops j).testBit i=true:=by
 unfold Qq at h;rw[qq]at h;refine⟨h.1,fun i j a b g p l r=>?_⟩;have t:j<ops.size:=(zM.1 l).1;have o:=h.2;simp only[qJ,yj]at o;have:=o j t i g;rw[p,l]at this;simp only[r,Bool.not_true,Bool.false_or]at this;exact this
def Jo(pl:Pol)(ops:Array wg)(a b:Nat):Bool:=
 yI ops&&(let g:=vg ops.toList [];(qo ops.size).all fun j=>(qo j).all fun i=>(i == a&&j == b) ||
  match ops[i]?,ops[j]? with|some x,some y=>!zY pl ops x y||(g.getD j 0).testBit i|_,_=>true) &&
 (qo b).all fun k=>!(decide (a<k))||match ops[k]?,ops[a]? with|some x,some y=>!zY pl ops x y|_,_=>true
theorem qb2{a b:Nat}(h:Jo pl ops a b=true):yI ops=true/\(∀(i j:Nat) x y,i<j->¬(i=a/\j=b)->ops[i]?=some x->ops[j]?=some y->zY pl ops x y=true->(zN ops j).testBit i=true) /\
  ∀(k:Nat) x y,a<k->k<b->ops[k]?=some x->ops[a]?=some y->zY pl ops x y=false:=by
 unfold Jo at h;rw[qq,qq]at h;refine⟨h.1.1,fun i j x y l o t p C=>?_,fun k x y I g J P=>?_⟩
 .have R:j<ops.size:=(zM.1 p).1
  have g:=h.1.2;simp only[qJ,yj]at g;have:=g j R i l;rw[t,p,vF]at this;rcases this with this|this
  .simp at this;exact absurd this o
  .simp only[C,Bool.not_true,Bool.false_or]at this
   exact this
 .have r:=h.2
  simp only[qJ,yj]at r;have:=r k g;rw[J,P]at this;simpa[I] using this
def DS(P:qf)(pl:Pol)(o:wg)(ev:uk->AV)(mu:Mu)(v:AV)(m:Mu):Prop:=qw P pl true o.dst o.op ev mu (fun a b=>a=v/\b=m) (fun _ _=>False)
theorem qw.det{ev:uk->AV}{K t:AV->Mu->Prop}(h:qw P pl true o.dst o.op ev mu K t):∃ v m,DS P pl o ev mu v m/\K v m:=by
 unfold DS;generalize o.dst=C at *
 cases I:o.op<;>rw[I]at h<;>simp only[qw]at h⊢<;>try (exact h.elim)
 case move=>exact⟨_,_,⟨rfl,rfl⟩,h⟩
 case assign=>exact⟨_,_,⟨rfl,rfl⟩,h⟩
 case makeFunc=>exact⟨_,_,⟨rfl,rfl⟩,h⟩
 case pick=>grind
 case alloc=>obtain⟨z,i,j,J⟩:=h;exact⟨_,_,⟨z,i,j,rfl,rfl⟩,J⟩
 case box =>
  grind
 case build=>obtain⟨l,z,i,j⟩:=h;exact⟨_,_,⟨l,z,i,rfl,rfl⟩,j⟩
 case buildSlice=>obtain⟨z,i,j⟩:=h;exact⟨_,_,⟨z,i,rfl,rfl⟩,j⟩
 case load=>obtain⟨z,i,j⟩:=h;exact⟨_,_,⟨z,i,rfl,rfl⟩,j⟩
 case store=>obtain⟨z,i,j⟩:=h;exact⟨_,_,⟨z,i,rfl,rfl⟩,j⟩
 case nilCheck=>obtain⟨z,i,j⟩:=h;exact⟨_,_,⟨z,i,rfl,rfl⟩,j⟩
 case binOp =>
  split at h
  .rename_i p
   simp only[if_pos p];obtain⟨z,T,U⟩:=h.det
   grind
  .rename_i p
   simp only[if_neg p];obtain⟨z,i,j⟩:=h;exact⟨_,_,⟨z,i,rfl,rfl⟩,j⟩
 case unOp=>obtain⟨z,i,j⟩:=h;exact⟨_,_,⟨z,i,rfl,rfl⟩,j⟩
 case convert=>obtain⟨l,z,i,j⟩:=h;exact⟨_,_,⟨l,z,i,rfl,rfl⟩,j⟩
 case makeInterface=>grind
 case makeSlice=>obtain⟨z,i,j⟩:=h;exact⟨_,_,⟨z,i,rfl,rfl⟩,j⟩
 case slice=>obtain⟨l,z,i,j⟩:=h;exact⟨_,_,⟨l,z,i,rfl,rfl⟩,j⟩
 case fieldAddr=>obtain⟨z,i,j⟩:=h;exact⟨_,_,⟨z,i,rfl,rfl⟩,j⟩
 case field=>obtain⟨z,i,j⟩:=h;exact⟨_,_,⟨z,i,rfl,rfl⟩,j⟩
 case indexAddr=>obtain⟨z,i,j⟩:=h;exact⟨_,_,⟨z,i,rfl,rfl⟩,j⟩
 case index=>obtain⟨z,i,j⟩:=h;exact⟨_,_,⟨z,i,rfl,rfl⟩,j⟩
 case extract=>obtain⟨z,i,j⟩:=h;exact⟨_,_,⟨z,i,rfl,rfl⟩,j⟩
 case typeAssert=>obtain⟨z,i,j⟩:=h;exact⟨_,_,⟨z,i,rfl,rfl⟩,j⟩
 case makeMap=>grind
 case lookup=>obtain⟨z,i,j⟩:=h;exact⟨_,_,⟨z,i,rfl,rfl⟩,j⟩
 case mapUpdate=>obtain⟨z,i,j⟩:=h;exact⟨_,_,⟨z,i,rfl,rfl⟩,j⟩
 case insert=>obtain⟨z,i,j⟩:=h;exact⟨_,_,⟨z,i,rfl,rfl⟩,j⟩
 case mapEntry=>obtain⟨z,i,j⟩:=h;exact⟨_,_,⟨z,i,rfl,rfl⟩,j⟩
 case entryStore=>obtain⟨z,i,j⟩:=h;exact⟨_,_,⟨z,i,rfl,rfl⟩,j⟩
 case range=>obtain⟨z,i,j⟩:=h;exact⟨_,_,⟨z,i,rfl,rfl⟩,j⟩
 case next=>exact absurd h.1 zSp
 case entry=>obtain⟨z,i,j⟩:=h;exact⟨_,_,⟨z,i,rfl,rfl⟩,j⟩
 case panic=>exact absurd h.1 zSp
 case call c =>
  obtain⟨callee,args,R⟩:=c;cases callee with
  |invoke r m=>exact h.elim
  |value f =>
   rcases h with ⟨v,i,j⟩|⟨i,_⟩
   .exact ⟨_,_,.inl ⟨v,i,rfl,rfl⟩,j⟩
   .exact absurd i zSp
  |builtin b =>
   cases b<;>simp only at h⊢<;>try (first | (obtain⟨z,m,i,j⟩:=h;exact⟨_,_,⟨z,m,i,rfl,rfl⟩,j⟩) | (obtain⟨z,i,j⟩:=h;exact⟨_,_,⟨z,i,rfl,rfl⟩,j⟩))
   obtain⟨s,x,i,h⟩:=h;obtain⟨v,m,g,k⟩:=h.det;exact⟨v,m,⟨s,x,i,g⟩,k⟩
theorem DS.mem{ev:uk->AV}{v:AV}(h:DS P pl o ev mu v m)(l:memW pl o=false):m=mu/\(memR o=false->∀ i,DS P pl o ev i v i):=by
 unfold DS at *
 unfold memW at l;unfold memR;cases C:o.op<;>rw[C]at h l<;>simp only[qw]at h⊢<;>try (exact h.elim)
 case move=>grind
 case assign=>grind
 case makeFunc=>grind
 case pick=>grind
 case alloc=>exact absurd l zSp
 case box =>
  grind
 case build=>obtain⟨p,z,j,g⟩:=h;exact⟨g.2.symm,fun _ i=>⟨p,z,j,g.1,by first|rfl|trivial⟩⟩
 case buildSlice=>obtain⟨z,j,g⟩:=h;exact⟨g.2.symm,fun _ i=>⟨z,j,g.1,by first|rfl|trivial⟩⟩
 case load=>obtain⟨z,j,g⟩:=h;grind
 case store=>exact absurd l zSp
 case nilCheck=>obtain⟨z,j,g⟩:=h;exact⟨g.2.symm,fun _ i=>⟨z,j,g.1,by first|rfl|trivial⟩⟩
 case binOp =>
  split at h
  .rename_i t
   simp only[if_pos t];obtain⟨z,J,R⟩:=h.det
   grind
  .rename_i t
   simp only[if_neg t];obtain⟨z,j,g⟩:=h;exact⟨g.2.symm,fun _ i=>⟨z,j,g.1,by first|rfl|trivial⟩⟩
 case unOp=>obtain⟨z,j,g⟩:=h;exact⟨g.2.symm,fun _ i=>⟨z,j,g.1,by first|rfl|trivial⟩⟩
 case convert=>obtain⟨p,z,j,g⟩:=h;exact⟨g.2.symm,fun _ i=>⟨p,z,j,g.1,by first|rfl|trivial⟩⟩
 case makeInterface=>grind
 case makeSlice=>exact absurd l zSp
 case slice=>obtain⟨p,z,j,g⟩:=h;exact⟨g.2.symm,fun _ i=>⟨p,z,j,g.1,by first|rfl|trivial⟩⟩
 case fieldAddr=>obtain⟨z,j,g⟩:=h;exact⟨g.2.symm,fun _ i=>⟨z,j,g.1,by first|rfl|trivial⟩⟩
 case field=>obtain⟨z,j,g⟩:=h;exact⟨g.2.symm,fun _ i=>⟨z,j,g.1,by first|rfl|trivial⟩⟩
 case indexAddr=>obtain⟨z,j,g⟩:=h;exact⟨g.2.symm,fun _ i=>⟨z,j,g.1,by first|rfl|trivial⟩⟩
 case index=>obtain⟨z,j,g⟩:=h;exact⟨g.2.symm,fun _ i=>⟨z,j,g.1,by first|rfl|trivial⟩⟩
 case extract=>obtain⟨z,j,g⟩:=h;exact⟨g.2.symm,fun _ i=>⟨z,j,g.1,by first|rfl|trivial⟩⟩
 case typeAssert=>obtain⟨z,j,g⟩:=h;exact⟨g.2.symm,fun _ i=>⟨z,j,g.1,by first|rfl|trivial⟩⟩
 case makeMap=>exact absurd l zSp
 case lookup=>obtain⟨z,j,g⟩:=h;grind
 case mapUpdate=>exact absurd l zSp
 case insert=>exact absurd l zSp
 case mapEntry=>exact absurd l zSp
 case entryStore=>exact absurd l zSp
 case range=>exact absurd l zSp
 case next=>exact absurd l zSp
 case entry=>obtain⟨z,j,g⟩:=h;grind
 case panic=>exact absurd h.1 zSp
 case call c =>
  obtain⟨callee,args,I⟩:=c;cases callee with
  |invoke r m=>exact h.elim
  |value f =>
   rcases h with ⟨v,j,g⟩|⟨j,_⟩
   .grind
   grind
  |builtin b =>
   cases b<;>simp only at h l⊢<;>first
    | (obtain⟨z,j,g⟩:=h;grind)
    | (exact absurd l zSp)
theorem wM{ev:uk->AV}{l:Array uk}(h:∀ x,x∈l->ev x=ev' x):evs ev l.toList=evs ev' l.toList:=
 List.map_congr_left fun x g=>h x (zUs g)
theorem Jp{ev:uk->AV}{l:Array (Nat×uk)}(h:∀ x,x∈(l.toList.map (·.2)).toArray->ev x=ev' x):(l.toList.map fun p=>(p.1,ev p.2))=l.toList.map fun p=>(p.1,ev' p.2):=
 List.map_congr_left fun p g=>by grind
theorem Jq{ev:uk->AV}{o:Option uk}(h:∀ x,x∈o.toArray->ev x=ev' x):o.map ev=o.map ev':=by
 cases o with
 |none=>rfl
 |some x=>simp[h x zSp]
theorem DS.congr{ev:uk->AV}{v:AV}(h:DS P pl o ev mu v m)(g:∀ x,x∈o.op.operands->ev x=ev' x):DS P pl o ev' mu v m:=by
 unfold DS at *
 cases p:o.op<;>rw[p]at h g<;>simp only[qw,Op.operands]at h g⊢<;>try (exact h.elim)
 case move x=>rw[<-g x zSp];exact h
 case assign x=>rw[<-g x zSp];exact h
 case makeFunc f first j =>
  grind [wM]
 case pick c x y=>grind
 case alloc=>exact h
 case box t x=>rw[<-g x zSp];exact h
 case build t C=>rw[<-Jp g];exact h
 case buildSlice t n C=>rw[<-Jp g];exact h
 case load t x=>rw[<-g x zSp];exact h
 case store t x y=>grind
 case nilCheck x=>rw[<-g x zSp];exact h
 case binOp op t x y R=>grind
 case unOp op t x=>rw[<-g x zSp];exact h
 case convert s t x=>rw[<-g x zSp];exact h
 case makeInterface t x=>rw[<-g x zSp];exact h
 case makeSlice t x y=>grind
 case slice t x T U mx =>
  grind [Jq]
 case fieldAddr t x f=>rw[<-g x zSp];exact h
 case field t x f=>rw[<-g x zSp];exact h
 case indexAddr t x i=>grind
 case index t x i=>grind
 case extract x i=>rw[<-g x zSp];exact h
 case typeAssert x xt t ok=>rw[<-g x zSp];exact h
 case makeMap=>exact h
 case lookup t m k ok=>grind
 case mapUpdate t m k v=>grind
 case insert t m k v=>grind
 case mapEntry t m k=>grind
 case entryStore t m k v=>grind
 case range t m=>rw[<-g m zSp];exact h
 case next=>exact absurd h.1 zSp
 case entry i=>rw[<-g i zSp];exact h
 case panic x=>exact absurd h.1 zSp
 case call c =>
  obtain⟨callee,args,I⟩:=c;cases callee with
  |invoke r m=>exact h.elim
  |value f =>
   grind [Call.operands,wM]
  |builtin b =>
   simp only[Call.operands]at g;simp only at h⊢;rw[<-wM (l:=args) (fun x J=>g x (zP1 J))];exact h
theorem KE(g:MuLe mu l){p:AV}{n:Nat}{cs:List AV}(h:jH mu p n=some cs):jH l p n=some cs:=by
 unfold jH at *
 split at h
 .exact h
 .split at h
  .rename_i i;rw[g _ _ i];exact h
  grind
 grind
theorem qb3(i:MuLe mu l){t:j1}{p z:AV}(h:vK P mu t p=some z):vK P l t p=some z:=by
 unfold vK at *
 split at h
 .rename_i n o r
  cases g:jH mu p n with
  |none=>rw[g]at h;exact absurd h zSp
  |some j=>rw[g]at h;rw[KE i g];exact h
 .cases g:jH mu p 1 with
  |none=>rw[g]at h;exact absurd h zSp
  |some j=>rw[g]at h;rw[KE i g];exact h
 grind
theorem qb4(g:MuLe mu l){m:AV}{es:List (AV×AV)}(h:jz mu m=some es):jz l m=some es:=by
 unfold jz at *
 split at h
 .exact h
 .split at h
  .rename_i i;rw[g _ _ i];exact h
  grind
 .exact h
 grind
theorem KF(g:MuLe mu l){t:j1}{m k z:AV}{ok:Bool}(h:yB P mu t m k ok=some z):yB P l t m k ok=some z:=by
 grind [yB,qb4,absurd]
theorem qb5(g:MuLe mu l){t:j1}{m k z:AV}{ok:Bool}(h:yG P mu t m k ok=some z):yG P l t m k ok=some z:=by
 cases m with
 |ims T =>
  simp only[yG]at h⊢;cases i:mapT P t with
  |none=>rw[i]at h;exact absurd h zSp
  |some q =>
   rw[i]at h;simp only at h⊢;split at h
   .rename_i j
    rw[if_pos j];exact KF g h
   grind
 |_=>exact KF g h
theorem qb6(g:MuLe mu l){x z:AV}(h:wJ mu x=some z):wJ l x=some z:=by
 unfold wJ at *
 split at h
 .split at h
  .rename_i i;rw[g _ _ i];exact h
  grind
 grind
theorem qb7(g:MuLe mu l){t:j1}{x z:AV}(h:lenA P mu t x=some z):lenA P l t x=some z:=by
 unfold lenA at *
 split at h
 .exact h
 .exact h
 .exact h
 .exact h
 .exact h
 .split at h
  .rename_i i j;rw[i,g _ _ j];exact h
  grind
 grind
theorem qb8(g:MuLe mu l){b:Builtin}{ts:Array j1}{xs:List AV}{z:AV}(h:jU P mu b ts xs=some z):jU P l b ts xs=some z:=by
 unfold jU at *
 split at h
 .exact qb7 g h
 .exact h
 .exact h
 .exact h
 grind
theorem Rd.le(J:MuLe mu l){x y:AV}(h:Rd mu x y):Rd l x y:=by
 induction h with
 |hf x h=>exact .hf x h
 |sl b p off len cells j I hl i P h o=>exact .sl b p off len cells j (J _ _ I) hl i P o
 |ptr b off cells j I i h o=>exact .ptr b off cells j (J _ _ I) i o
 |mp b T R I i hk hv r C=>exact .mp b T R (J _ _ I) i r C
 |md b T R I i hk hv r C=>exact .md b T R (J _ _ I) i r C
 |agg g j i h o=>exact .agg g j i o
 |tup g j i h o=>exact .tup g j i o
 |lst full g j i P h o=>exact .lst full g j i P o
 |fn f a b c d i U h h' r C=>exact .fn f a b c d i U r C
 |ifc t x y h o=>exact .ifc t x y o
 |wk x full j h o=>exact .wk x full j o
 |ims x T a0 σ τ hp hd h o=>exact .ims x T a0 σ τ hp hd o
theorem Rds.le(g:MuLe mu l):∀{xs ys:List AV},Rds mu xs ys->Rds l xs ys
 | [],[],_=>trivial
 |x :: xs,y :: ys,⟨h,t⟩=>⟨h.le g,Rds.le g t⟩
 | [],_ :: _,h=>h.elim
 |_ :: _,[],h=>h.elim
theorem ZN.le(t:MuLe mu l){f:AV}{args:List AV}{v:AV}(h:ZN P mu f args v):ZN P l f args v:=by
 rcases h with ⟨g,first,j,i,p,r,o⟩|⟨g,first,j,i,p,r,o⟩
 .refine .inl ⟨g,first,j,i,p,r,?_⟩
  rcases o with o|⟨o,C⟩
  .exact .inl o
  .exact .inr ⟨o.le t,C⟩
 .exact .inr ⟨g,first,j,i,p,r,o.le t⟩
theorem DS.le{ev:uk->AV}{v:AV}(j:reads pl o=true)(p:MuLe mu l)(h:DS P pl o ev mu v m):DS P pl o ev l v l:=by
 unfold reads at j;rw[qq,Bool.not_eq_true']at j;obtain⟨j,t⟩:=j;unfold DS at *
 unfold memR at j;unfold memW at t;cases C:o.op<;>rw[C]at h j t<;>simp only[qw]at h⊢<;>try grind
 case load=>obtain⟨z,g,i⟩:=h;exact⟨z,qb3 p g,i.1,by first|rfl|trivial⟩
 case lookup=>obtain⟨z,g,i⟩:=h;exact⟨z,qb5 p g,i.1,by first|rfl|trivial⟩
 case entry=>obtain⟨z,g,i⟩:=h;exact⟨z,qb6 p g,i.1,by first|rfl|trivial⟩
 case call c =>
  obtain⟨callee,args,I⟩:=c;cases callee with
  |invoke r m=>exact h.elim
  |value f =>
   rcases h with ⟨v,g,i⟩|⟨g,_⟩
   .exact .inl ⟨v,g.le p,i.1,by first|rfl|trivial⟩
   grind
  |builtin b =>
   cases b<;>simp only at h t⊢<;>first
    | (obtain⟨z,g,i⟩:=h;exact⟨z,qb8 p g,i.1,by first|rfl|trivial⟩)
    | (exact absurd t zSp)
theorem DS.push{ev:uk->AV}{v:AV}(j:Uo pl o=true)(h:DS P pl o ev mu v m):MuLe mu m:=by
 unfold DS at *
 unfold Uo at j;cases p:o.op<;>rw[p]at h j<;>simp only[qw]at h<;>try grind
 case alloc=>obtain⟨z,g,i,l,r⟩:=h;rw[<-r];exact .push _ _
 case box =>
  obtain⟨g,i⟩:=h;simp only at j;rw[if_pos j]at i;rw[<-i.2];exact .push _ _
 case makeSlice =>
  obtain⟨z,g,i,l⟩:=h;rw[<-l];unfold Ql at g;split at g
  .split at g
   .split at g
    .simp only[qj]at g
     rw[<-g];exact .push _ _
    grind
   grind
  grind
 case makeMap=>obtain⟨t,g,i⟩:=h;rw[<-i];exact .push _ _
end
end Go.Ev
namespace Go.Ev
open Go Go.RowKit
section
variable {o:wg}
theorem KG{pl:Pol}(h:reads pl o=true):memW pl o=false:=by
 simp_all[reads,qq]
theorem qb9{pl:Pol}(h:reads pl o=true):memR o=true:=by
 unfold reads at h;rw[qq]at h;exact h.1
theorem qcA{pl:Pol}(h:memW pl o=true):reads pl o=false:=by
 unfold reads;rw[h];simp
theorem qcB{pl:Pol}{a b:wg}(h:reads pl a=false):soft pl a b=false:=by
 unfold soft;rw[h];simp only[Bool.false_and,Bool.or_false]
 grind [reads,memR,memW,absurd]
theorem qcC{P:qf}{pl:Pol}{a b:wg}(h:soft pl a b=true){ev ev':uk->AV}{mu m:Mu}{v l:AV}(g:DS P pl b ev' mu l m)(i:DS P pl a ev mu v mu):DS P pl a ev m v m:=by
 unfold soft at h;rw[vF]at h;rcases h with h|h
 .split at h
  .rename_i t U ko t' o p r C
   have I:=beq_iff_eq.1 h;subst I;unfold DS at *
   rw[r]at i⊢;rw[C]at g;simp only[qw]at i g⊢;obtain⟨z,J,R,_⟩:=i;obtain⟨y,T,_,j⟩:=g;obtain⟨y1,y2⟩:=y;simp only at j;subst j;exact⟨z,qbL T J,R,by first|rfl|trivial⟩
  grind
 .rw [qq]at h
  exact i.le h.1 (g.push h.2)
section
variable (P:qf) (pl:Pol) (ops:Array wg)
def jj(st:St)(o:wg)(g:St):Prop:=
 ∃ b,zE ops st o=some b/\(b=true->∃ v m,DS P pl o st.ev st.mu v m/\g=st.put o.dst v m)/\(b=false->g=st.put o.dst (.sc va) st.mu)
theorem Up{Q:St->Prop}{r:AV->St->Prop}:∀(l:List wg) (st:St),awpS P pl true ops l Q r st ->
  ∃ g:Nat->St,g 0=st/\Q (g l.length)/\∀(i:Nat) (o:wg),l[i]?=some o->jj P pl ops (g i) o (g (i+1)):=by
 intro l;induction l with
 |nil=>intro st h;exact⟨fun _=>st,rfl,h,zSp⟩
 |cons o l C =>
  intro st h;obtain⟨b,t,I,J⟩:=h;have key:∀ j:St,awpS P pl true ops l Q r j->jj P pl ops st o j->∃ g:Nat->St,g 0=st/\Q (g (o :: l).length)/\∀(i:Nat) (x:wg),(o :: l)[i]?=some x->jj P pl ops (g i) x (g (i+1)):=by
   intro j p R;obtain⟨g,e0,T,hs⟩:=C j p;refine⟨fun i=>match i with|0=>st|k+1=>g k,rfl,T,fun i x hx=>?_⟩
   grind
  cases b with
  |true =>
   obtain⟨v,m,U,hk⟩:=qw.det (I rfl);exact key _ hk ⟨true,t,fun _=>⟨v,m,U,rfl⟩,fun h=>absurd h zSp⟩
  |false=>exact key _ (J rfl) ⟨false,t,fun h=>absurd h zSp,fun _=>rfl⟩
variable (po:Array wg)
def jK(k:Nat):Option Tmp:=(po[k]?).bind (·.dst)
def wAt(k:Nat):Bool:=(po[k]?).any (memW pl)
def Sst(g:Nat->St)(S:List Nat):Nat->St
 | 0=>g 0
 |k+1=>if k∈S then ⟨fun t=>if jK po k=some t then (g (k+1)).tm t else (Sst g S k).tm t,if wAt pl po k=true then (g (k+1)).mu else (Sst g S k).mu⟩ else Sst g S k
variable {P pl ops po}
theorem jb{st:St}{d:Option Tmp}{v:AV}{m:Mu}{t:Tmp}(h:d≠some t):(st.put d v m).tm t=st.tm t:=by
 cases d with
 |none=>rfl
 |some d =>
  simp only[St.put]
  grind
theorem jj.frame{st g:St}(h:jj P pl ops st o g){t:Tmp}(i:o.dst≠some t):g.tm t=st.tm t:=by
 obtain⟨b,_,l,j⟩:=h;cases b with
 |true=>grind [jb]
 |false=>rw[j rfl];exact jb i
theorem jj.mem{st g:St}(h:jj P pl ops st o g)(i:memW pl o=false):g.mu=st.mu:=by
 obtain⟨b,_,j,l⟩:=h;cases b with
 |true=>obtain⟨v,m,p,rfl⟩:=j rfl;exact(p.mem i).1
 |false=>rw[l rfl];rfl
variable {stf:Nat->St}
theorem qcD(j:∀(i:Nat) (o:wg),po[i]?=some o->jj P pl ops (stf i) o (stf (i+1))){k:Nat}(l:k<po.size){t:Tmp}(h:jK po k≠some t):(stf (k+1)).tm t=(stf k).tm t:=by
 have g:po[k]?=some po[k]:=zP1 l;exact(j k _ g).frame (by unfold jK at h;rw[g]at h;exact h)
theorem KH(j:∀(i:Nat) (o:wg),po[i]?=some o->jj P pl ops (stf i) o (stf (i+1))){k:Nat}(l:k<po.size)(h:wAt pl po k=false):(stf (k+1)).mu=(stf k).mu:=by
 have g:po[k]?=some po[k]:=zP1 l;exact(j k _ g).mem (by unfold wAt at h;rw[g]at h;exact h)
theorem Uq(l:∀(i:Nat) (o:wg),po[i]?=some o->jj P pl ops (stf i) o (stf (i+1)))(S:List Nat)(t:Tmp)(j:Nat)(r:∀ k,k<j->jK po k=some t->k∈S)(C:∀ k,j<=k->k<po.size->jK po k=some t->k ∉ S) :
  ∀ m,m<=po.size->(Sst pl po stf S m).tm t=(stf (min m j)).tm t:=by
 intro m;induction m with
 |zero=>intro _;simp[Sst]
 |succ m g =>
  intro I;have g:=g zOm;simp only[Sst];by_cases p:jK po m=some t
  .grind
  .have e:(if m∈S then (⟨fun t=>if jK po m=some t then (stf (m+1)).tm t else (Sst pl po stf S m).tm t,if wAt pl po m=true then (stf (m+1)).mu else (Sst pl po stf S m).mu⟩:St) else Sst pl po stf S m).tm t=(Sst pl po stf S m).tm t:=by
    grind
   rw[e,g];by_cases J:m<j
   .rw [Nat.min_eq_left zOm,Nat.min_eq_left zOm,qcD l zOm p]
   grind
theorem Jr(l:∀(i:Nat) (o:wg),po[i]?=some o->jj P pl ops (stf i) o (stf (i+1)))(S:List Nat)(j:Nat)(r:∀ k,k<j->wAt pl po k=true->k∈S)(C:∀ k,j<=k->k<po.size->wAt pl po k=true->k ∉ S) :
  ∀ m,m<=po.size->(Sst pl po stf S m).mu=(stf (min m j)).mu:=by
 intro m;induction m with
 |zero=>intro _;simp[Sst]
 |succ m g =>
  intro I;have g:=g zOm;simp only[Sst];by_cases p:wAt pl po m=true
  .grind
  .have e:(if m∈S then (⟨fun t=>if jK po m=some t then (stf (m+1)).tm t else (Sst pl po stf S m).tm t,if wAt pl po m=true then (stf (m+1)).mu else (Sst pl po stf S m).mu⟩:St) else Sst pl po stf S m).mu=(Sst pl po stf S m).mu:=by
    grind
   rw[e,g];by_cases J:m<j
   .rw [Nat.min_eq_left zOm,Nat.min_eq_left zOm,KH l zOm (zUs p)]
   grind
theorem qcE(S:List Nat)(t:Tmp)(j:Nat)(g:jK po j≠some t):∀ m,(Sst pl po stf (S++[j]) m).tm t=(Sst pl po stf S m).tm t:=by
 intro m;induction m with
 |zero=>rfl
 |succ m i =>
  simp only[Sst];by_cases l:m∈S
  .grind
  grind
theorem qcF(S:List Nat)(j:Nat)(g:wAt pl po j=false):∀ m,(Sst pl po stf (S++[j]) m).mu=(Sst pl po stf S m).mu:=by
 intro m;induction m with
 |zero=>rfl
 |succ m i =>
  simp only[Sst];by_cases l:m∈S
  .grind
  grind
def OrdC(pl:Pol)(ops po:Array wg)(L:List Nat):Prop:=∀(i k:Nat) x y,i<k->po[i]?=some x->po[k]?=some y->zY pl ops x y=true->Bef L i k
theorem Ur(hs:∀(i:Nat) (o:wg),po[i]?=some o->jj P pl ops (stf i) o (stf (i+1))){ro:Ro}{G0:Gh}{al:Mu}{w0:j2}{n:Nat}(s0:Sim G0 al w0.heap)(b0:Nat->Nat)(b1:∀ k,k<po.size->ops[b0 k]?=po[k]?)(b2:(po.toList.all fun o=>dOk n o.dst)=true){QQ:Exit->Act->j2->Prop}
    (hQ:∀ a w G,Rel ro G0 al w0 n G (stf po.size) a w->QQ .normal a w) :
    ∀(post pre:List Nat) (a:Act) (w:j2) (G:Gh),OrdC pl ops po (pre++post)->(pre++post).length=po.size->(∀ k,k∈pre++post->k<po.size)->(pre++post).Nodup ->
      Rel ro G0 al w0 n G (Sst pl po stf pre po.size) a w->wpOpsIn (WF ro) 0 P ops QQ (post.map b0) a w:=by
  intro post;induction post with
  |nil =>
    intro pre a w G ht a7 a9 aa r;simp only[zL]at ht a7 a9 aa;simp only[List.map_nil,wpOpsIn];refine hQ a w G ?_;have ai:∀ i,i<po.size->i∈pre:=by
      intro i hi;refine vD fun h=>?_
      have h1:(i :: pre).length<=(qo po.size).length:=jR (jw.2 ⟨h,aa⟩) (fun k hk=>by
        grind)
      simp at h1;omega
    have e:Sst pl po stf pre po.size=stf po.size:=by
      have e1:(Sst pl po stf pre po.size).tm=(stf po.size).tm:=by
        funext t;rw[Uq hs pre t po.size (fun k hk _=>ai k hk) (fun k h1 h2 _=>absurd h2 zOm) po.size (qn _),Nat.min_self]
      have e2:(Sst pl po stf pre po.size).mu=(stf po.size).mu:=by
        rw[Jr hs pre po.size (fun k hk _=>ai k hk) (fun k h1 h2 _=>absurd h2 zOm) po.size (qn _),Nat.min_self]
      cases hq:Sst pl po stf pre po.size;simp_all
    rw[<-e];exact r
  |cons j post ih =>
    intro pre a w G ht a7 a9 aa r;have hj:j<po.size:=a9 j zSp;have ag:j ∉ pre:=fun h=>by
      grind
    have ho:po[j]?=some po[j]:=zP1 hj;generalize cm:po[j]=o at ho;have b3:dOk n o.dst=true:=qJ.1 b2 o (by grind)
    have I:∀(k:Nat) (x:wg),k<j->po[k]?=some x->zY pl ops x o=true->k∈pre:=fun k x hk C hc=>ht k j x o hk C ho hc pre post rfl
    have ab:∀(i k:Nat) (x y:wg),i<k->po[i]?=some x->po[k]?=some y->zY pl ops x y=true->k∈pre->i∈pre:=by
      intro i k x y bi C hy hc hk;obtain⟨p,q,e⟩:=List.append_of_mem hk;have:=ht i k x y bi C hy hc p (q++j :: post) (by rw[e];simp);rw[e];simp[this]
    have after:∀(k:Nat) (x:wg),j<k->po[k]?=some x->zY pl ops o x=true->k ∉ pre:=fun k x hk C hc bj=>ag (ab j k o x hk ho C hc bj)
    have a0:∀ k t,jK po k=some t->∃ x,po[k]?=some x/\x.dst=some t:=by
      intro k t h;unfold jK at h;cases C:po[k]? with
      |none=>rw[C]at h;exact absurd h zSp
      |some x=>rw[C]at h;exact⟨x,rfl,h⟩
    have a1:∀ k,wAt pl po k=true->∃ x,po[k]?=some x/\memW pl x=true:=by
      intro k h;unfold wAt at h;cases C:po[k]? with
      |none=>rw[C]at h;exact absurd h zSp
      |some x=>rw[C]at h;exact⟨x,rfl,h⟩
    have cn:∀ k (x:wg),po[k]?=some x->j<=k->k≠j->j<k:=fun k x _ h1 h2=>zOm
    have aj:∀ t,t∈uz ops o->(Sst pl po stf pre po.size).tm t=(stf j).tm t:=by
      intro t b4;rw[Uq hs pre t j ?_ ?_ po.size (qn _),Nat.min_eq_right zOm]
      · intro k hk hd
        obtain⟨x,C,a3⟩:=a0 k t hd;exact I k x hk C (by simp[zY,a3,b4])
      · intro k an ao hd
        by_cases a4:k=j
        · subst a4;exact ag
        · obtain⟨x,C,a3⟩:=a0 k t hd
          exact after k x zOm C (by simp[zY,a3,b4])
    have ak:(memW pl o||memR o)=true->reads pl o=false->(Sst pl po stf pre po.size).mu=(stf j).mu:=by
      intro U bk;rw[Jr hs pre j ?_ ?_ po.size (qn _),Nat.min_eq_right zOm]
      · intro k hk hd
        obtain⟨x,C,R⟩:=a1 k hd;refine I k x hk C ?_;simp only[zY,R,U,Bool.and_self,Bool.true_or]
      · intro k an ao hd
        by_cases a4:k=j
        · subst a4;exact ag
        · obtain⟨x,C,R⟩:=a1 k hd
          refine after k x zOm C ?_;have bm:=qcB (b:=x) bk;simp only[zY,R,bm,Bool.true_or,Bool.and_true,Bool.not_false];simp only[vF]at U⊢;rcases U with U|U
          · exact .inl (.inl (.inl U))
          · exact .inl (.inl (.inr U))
    have ah:reads pl o=true->∀(ev:uk->AV) v m,DS P pl o ev (stf j).mu v m->DS P pl o ev (Sst pl po stf pre po.size).mu v (Sst pl po stf pre po.size).mu:=by
      intro a5 ev v m aq;have b5:memW pl o=false:=KG a5;have b6:memR o=true:=qb9 a5;have bef:∀ k,k<j->wAt pl po k=true->k∈pre:=by
        intro k hk hd;obtain⟨x,C,R⟩:=a1 k hd;refine I k x hk C ?_;simp only[zY,R,b6,Bool.or_true,Bool.and_self,Bool.true_or]
      obtain⟨J,bn,cp,b7,bo⟩:∃ J,j<=J/\J<=po.size/\(∀ k,k<J->wAt pl po k=true->k∈pre)/\(∀ k,J<=k->k<po.size->wAt pl po k=true->k ∉ pre):=by
        have down:∀ d,d<=po.size-j->(∀ k,po.size-d<=k->k<po.size->wAt pl po k=true->k ∉ pre) \/
            ∃ J,j<=J/\J<=po.size/\(∀ k,k<J->wAt pl po k=true->k∈pre)/\(∀ k,J<=k->k<po.size->wAt pl po k=true->k ∉ pre):=by
          intro d;induction d with
          |zero=>intro _;exact .inl (fun k h1 h2 _=>absurd h2 zOm)
          |succ d bq =>
            intro hd;rcases bq zOm with h|h
            · by_cases hw:wAt pl po (po.size-(d+1))=true/\(po.size-(d+1))∈pre
              · obtain⟨br,b8⟩:=hw
                refine .inr ⟨po.size-d,zOm,zOm,fun k hk bs=>?_,fun k h1 h2 h3=>h k h1 h2 h3⟩;by_cases ar:k=po.size-(d+1)
                · rw[ar];exact b8
                · obtain⟨x,C,R⟩:=a1 k bs
                  obtain⟨y,hy,bt⟩:=a1 _ br;exact ab k _ x y zOm C hy (by simp only[zY,R,bt,Bool.true_or,Bool.and_self]) b8
              · refine .inl (fun k h1 h2 h3 h4=>?_)
                by_cases ar:k=po.size-(d+1)
                · rw[ar]at h3 h4;exact hw ⟨h3,h4⟩
                · exact h k zOm h2 h3 h4
            · exact .inr h
        rcases down (po.size-j) (qn _) with h|h
        · exact⟨j,qn _,zOm,bef,fun k h1 h2 h3=>h k zOm h2 h3⟩
        · exact h
      have bu:(Sst pl po stf pre po.size).mu=(stf J).mu:=by
        rw[Jr hs pre J b7 bo po.size (qn _),Nat.min_eq_right zOm]
      have chain:∀ T,j<=T->T<=J->∀ v m,DS P pl o ev (stf j).mu v m->DS P pl o ev (stf T).mu v (stf T).mu:=by
        intro T;induction T with
        | zero =>
                  intro h1 _ v m h;have:j=0:=zOm;subst this;have:=(h.mem b5).1;rw[this]at h;exact h
        |succ T bv =>
          intro h1 h2 v m h;by_cases he:j=T+1
          · rw[<-he];have:=(h.mem b5).1;rw[this]at h;exact h
          · have a6:=bv zOm zOm v m h
            by_cases hw:wAt pl po T=true
            · have au:=b7 T zOm hw
              obtain⟨x,C,R⟩:=a1 T hw;have cq:j≠T:=fun e=>by rw[<-e]at au;exact ag au
              have av:soft pl o x=true:=by
                refine Decidable.byContradiction fun b9=>after T x zOm C ?_ au
                simp only[zY,b6,R,Bool.not_eq_true]at b9⊢;simp[b9]
              obtain⟨b',cr,bb,bc⟩:=hs T x C;cases b' with
              |true =>
                obtain⟨v',m2,bw,be⟩:=bb rfl;rw[be];have:((stf T).put x.dst v' m2).mu=m2:=by cases x.dst<;>rfl
                rw[this];exact qcC av bw a6
              | false =>
                         rw[bc rfl];have:((stf T).put x.dst (.sc va) (stf T).mu).mu=(stf T).mu:=by cases x.dst<;>rfl
                         rw[this];exact a6
            · have:=KH hs (k:=T) zOm (zUs hw)
              rw[this];exact a6
      rw[bu];exact chain J bn (qn _) v m aq
    have aw:∀ t,o.dst=some t->(Sst pl po stf (pre++[j]) po.size).tm t=(stf (j+1)).tm t:=by
      intro t a2;rw[Uq hs (pre++[j]) t (j+1) ?_ ?_ po.size (qn _),Nat.min_eq_right zOm]
      · intro k hk hd
        by_cases a4:k=j
        · subst a4;simp
        · obtain⟨x,C,a3⟩:=a0 k t hd
          exact qC.2 (.inl (I k x zOm C (by simp[zY,a3,a2])))
      · intro k an ao hd ax
        obtain⟨x,C,a3⟩:=a0 k t hd;rcases qC.1 ax with h|h
        · exact after k x zOm C (by simp[zY,a3,a2]) h
        · simp at h;omega
    have ay:memW pl o=true->(Sst pl po stf (pre++[j]) po.size).mu=(stf (j+1)).mu:=by
      intro U;rw[Jr hs (pre++[j]) (j+1) ?_ ?_ po.size (qn _),Nat.min_eq_right zOm]
      · intro k hk hd
        by_cases a4:k=j
        · subst a4;simp
        · obtain⟨x,C,R⟩:=a1 k hd
          exact qC.2 (.inl (I k x zOm C (by simp[zY,R,U])))
      · intro k an ao hd ax
        obtain⟨x,C,R⟩:=a1 k hd;rcases qC.1 ax with h|h
        · exact after k x zOm C (by simp[zY,R,U]) h
        · simp at h;omega
    have ca:jK po j=o.dst:=by unfold jK;rw[ho];rfl
    have cb:wAt pl po j=memW pl o:=by unfold wAt;rw[ho];rfl
    have ad:∀(v:AV) (m:Mu),(∀ t,o.dst=some t->v=(stf (j+1)).tm t)->(memW pl o=true->m=(stf (j+1)).mu)->(memW pl o=false->m=(Sst pl po stf pre po.size).mu) ->
        (Sst pl po stf pre po.size).put o.dst v m=Sst pl po stf (pre++[j]) po.size:=by
      intro v m h1 h2 h3;have e1:((Sst pl po stf pre po.size).put o.dst v m).tm=(Sst pl po stf (pre++[j]) po.size).tm:=by
        funext t;by_cases a2:o.dst=some t
        · rw[aw t a2,<-h1 t a2,a2];simp[St.put]
        · rw[jb a2,qcE pre t j (by rw[ca];exact a2)]
      have e2:((Sst pl po stf pre po.size).put o.dst v m).mu=(Sst pl po stf (pre++[j]) po.size).mu:=by
        cases U:memW pl o with
        |true=>rw[ay U];exact h2 U
        |false=>rw[qcF pre j (by rw[cb];exact U)];exact h3 U
      cases hq:(Sst pl po stf pre po.size).put o.dst v m;cases cc:Sst pl po stf (pre++[j]) po.size;rw[hq,cc]at e1 e2;simp only at e1 e2;rw[e1,e2]
    obtain⟨b,hb,cd,cf⟩:=hs j o ho;have cg:zE ops (Sst pl po stf pre po.size) o=some b:=by
      rw[<-hb];unfold zE;cases hg:o.guard with
      |none=>rfl
      |some q =>
        obtain⟨k,cl⟩:=q;simp only;cases hd:(ops[k]?).bind (·.dst) with
        |none=>rfl
        |some d =>
          simp only;rw[aj d (by simp[uz,hg,hd])]
    have az:=Jn r cg;have ae:∀{st:St} {v:AV} {m:Mu} {t:Tmp},o.dst=some t->(st.put o.dst v m).tm t=v:=by
      intro st v m t h;rw[h];simp[St.put]
    simp only[List.map_cons,wpOpsIn,b1 j hj,ho,az];cases b with
    |false =>
      rw[if_neg zSp];have af:=cf rfl;have e:=ad (.sc va) (Sst pl po stf pre po.size).mu (fun t h=>by rw[af];exact(ae h).symm) (fun h=>by rw[af,ak (zP1 h) (qcA h)];rfl) (fun _=>rfl);refine⟨fun _ _=>trivial,ih (pre++[j]) _ _ G (zUs ht) (zUs a7) (zUs a9) (zUs aa) ?_⟩;rw[<-e];exact r.put s0 (Stp.refl r.stp.sim) (.sc _ rfl) b3
    |true =>
      rw[if_pos rfl];obtain⟨v,m,aq,af⟩:=cd rfl;have bg:∀ x,x∈o.op.operands->(stf j).ev x=(Sst pl po stf pre po.size).ev x:=by
        intro x C;cases x with
        |tmp t =>
          refine(aj t ?_).symm;simp only[uz,Un,qC,List.mem_filterMap];exact .inl ⟨.tmp t,zUs C,rfl⟩
        |const v=>rfl
        |global g=>rfl
        |func f=>rfl
      have a8:=aq.congr bg;have:∃ T,DS P pl o (Sst pl po stf pre po.size).ev (Sst pl po stf pre po.size).mu v T/\(memW pl o=true->T=m)/\(memW pl o=false->T=(Sst pl po stf pre po.size).mu):=by
        by_cases a5:reads pl o=true
        · exact⟨_,ah a5 _ _ _ a8,fun h=>by rw[KG a5]at h;exact absurd h zSp,fun _=>rfl⟩
        simp only[Bool.not_eq_true]at a5;by_cases U:(memW pl o||memR o)=true
        · rw[ak U a5]
          refine⟨m,a8,fun _=>rfl,fun h=>(a8.mem h).1⟩
        · simp only[vF,not_or,Bool.not_eq_true]at U
          exact⟨_,(a8.mem U.1).2 U.2 _,fun h=>by rw[U.1]at h;exact absurd h zSp,fun _=>rfl⟩
      obtain⟨T,ch,cj,ck⟩:=this;have e:=ad v T (fun t h=>by rw[af];exact(ae h).symm) (fun h=>by rw[cj h,af];rfl) ck;refine Jm r.stp.sim r.ev ch ?_ ?_
      · rintro v' l G' w' u ⟨rfl,rfl⟩ bh hv
        refine ih (pre++[j]) _ _ G' (zUs ht) (zUs a7) (zUs a9) (zUs aa) ?_;rw[<-e];exact r.put s0 bh hv b3
      · intro _ _ _ _ _ h;exact h.elim
end
end
section
variable {ops:Array wg}{pl:Pol}{P:qf}
theorem Us{i:Array wg}{g:Nat->St}:∀ m,Sst pl i g [] m=g 0:=by
 intro m;induction m with
 |zero=>rfl
 |succ m j=>simp_all[Sst]
theorem KI{ro:Ro}{C:Gh}{g:Mu}{I:j2}{n:Nat}(U:Sim C g I.heap)(j:(ops.toList.all fun o=>dOk n o.dst)=true)
  {Q:St->Prop} {Qp:AV->St->Prop} {QQ:Exit->Act->j2->Prop} (hQ:∀ st a w G,Q st->Rel ro C g I n G st a w->QQ .normal a w) {st:St} {a:Act} {w:j2} {G:Gh} (r:Rel ro C g I n G st a w)
  (L:List Nat) (l:L.length=ops.size) (J:∀ k,k∈L->k<ops.size) (R:L.Nodup) (p:OrdC pl ops ops L)
  (h:awpS P pl true ops ops.toList Q Qp st):wpOpsIn (WF ro) 0 P ops QQ L a w:=by
 obtain⟨t,e0,hq,hs⟩:=Up P pl ops ops.toList st h;have T:∀(i:Nat) (o:wg),ops[i]?=some o->jj P pl ops (t i) o (t (i+1)):=fun i o ho=>hs i o (zUs ho)
 have:=Ur T U (fun i=>i) (fun k _=>rfl) j (fun a w G r=>hQ _ a w G (zUs hq) r) L [] a w G p l J R (by rw[Us,e0];exact r);simpa using this
theorem qcG{F:Fence}{n:Nat}{o:wg}{a:Act}{K C:Act->j2->Prop}{Q p:Exit->Act->j2->Prop}{g:Result Next}(j:∀ a w,K a w->C a w)(T:∀ I a w,Q (.panic I) a w->p (.panic I) a w)(ho:LetsOut Q->LetsOut p)
  (h:o.uponIn F n P a K Q g):o.uponIn F n P a C p g:=by
 cases g with
 |halt r w=>cases r<;>first|exact h.elim|exact T _ _ _ h
 |ok U w =>
  cases U
  case value v=>exact j _ _ h
  case skip=>exact j _ _ h
  case defer d=>exact j _ _ h
  case enter f args =>
   refine⟨h.1,h.2.1,fun cs t=>?_⟩;obtain⟨e,w',fr,hR,J⟩:=h.2.2 cs t
   grind
  case row row args=>exact⟨h.1,h.2.mono fun _ _ t=>j _ _ t⟩
  case round l f R a0 i =>
   refine⟨h.1,RoundIn.mono h.2 fun e w' hR=>?_⟩
   grind
  all_goals exact h.elim
theorem Js{F:Fence}{n:Nat}{QQ:Exit->Act->j2->Prop}:∀(j g:List Nat) (a:Act) (w:j2),wpOpsIn F n P ops (Exit.then (wpOpsIn F n P ops QQ g) QQ) j a w->wpOpsIn F n P ops QQ (j++g) a w
 | [],g,a,w,h=>h
 |i :: j,g,a,w,h=>by
  simp only[wpOpsIn,yD]at h⊢;cases r:ops[i]? with
  |none =>
   rw[r]at h;exact Js j g a w h
  |some o =>
   rw[r]at h;simp only at h⊢;split
   .rename_i l
    rw[if_pos l]at h;exact⟨h.1,qcG (fun a w t=>Js j g a w t) (fun C a w p=>p) (fun⟨a,w,p⟩=>⟨a,w,p⟩) h.2⟩
   .rename_i l
    rw[if_neg l]at h;exact⟨h.1,Js j g _ w h.2⟩
theorem KJ(n:Nat):∀(d:Nat) (L:List Nat),L.length=n+d->(∀ k,k∈L->k<n+d)->L.Nodup->(∀ j,n<=j->j<n+d->∀ i,i<j->Bef L i j)->∃ C,L=C++List.range' n d/\C.length=n
 | 0,L,o,_,_,_=>⟨L,zSp,zUs o⟩
 |d+1,L,o,T,r,R=>by
  have g:∀ i,i<n+(d+1)->i∈L:=by
   intro i t;refine vD fun h=>?_
   have o:(i :: L).length<=(qo (n+(d+1))).length:=jR (jw.2 ⟨h,r⟩) (fun k l=>by
    grind)
   simp at o;omega
  obtain⟨p,q,e⟩:=List.append_of_mem (g (n+d) zOm);have U:∀ i,i<n+d->i∈p:=fun i t=>R (n+d) zOm zOm i t p q e
  have a0:n+d<=p.length:=by
   have:(qo (n+d)).length<=p.length:=jR List.nodup_range (fun k l=>U k (zUs l));simpa using this
  have hq:q=[]:=by
   have:=congrArg List.length e;simp at this;exact vE zOm
  subst hq;rw[e]at r;have I:p.Nodup:=(YP.1 r).1;have J:n+d ∉ p:=fun h=>(YP.1 r).2.2 _ h _ zSp rfl
  obtain⟨C,a1,a2⟩:=KJ n d p (by grind) (fun k l=>by
   have:=T k (by rw[e];simp[l]);have a3:k≠n+d:=fun h=>J (h ▸ l)
   omega) I (fun j P a4 i t pre post e2=>by
   refine R j P zOm i t pre (post++[n+d]) ?_;rw[e,e2];simp)
  grind [List.range'_concat]
def Ut(pl:Pol)(ops:Array wg)(n:Nat):Bool:=
 yI ops&&decide (n<=ops.size)&&(let g:=vg ops.toList [];(qo ops.size).all fun j=>(qo j).all fun i=>(if n<=j then (g.getD j 0).testBit i else
  match ops[i]?,ops[j]? with|some a,some b=>!zY pl ops a b||(g.getD j 0).testBit i|_,_=>true))
def jk:Nat->wg->List wg->List wg
 |d+1,x,y :: l=>y :: jk d x l
 |_,x,l=>x :: l
def yT:Nat->Nat->List wg->List wg
 | 0,d,x :: l=>jk d x l
 |n+1,d,x :: l=>x :: yT n d l
 |_,_,[]=>[]
def mvI(a b k:Nat):Nat:=if k<a then k else if k<b then k+1 else if k=b then a else k
def mvP(a b i:Nat):Nat:=if i<a then i else if i=a then b else if i<=b then i-1 else i
theorem qcH{a b:Nat}(h:a<=b)(k:Nat):mvI a b (mvP a b k)=k:=by
 unfold mvP;split
 .unfold mvI;rw[if_pos ‹_›]
 .split
  .unfold mvI;rw[zIn,zIn,if_pos rfl];omega
  .split
   .unfold mvI;rw[zIn,if_pos zOm];omega
   .unfold mvI;rw[zIn,zIn,zIn]
theorem qcI{a b:Nat}(h:a<=b)(k:Nat):mvP a b (mvI a b k)=k:=by
 unfold mvI;split
 .unfold mvP;rw[if_pos ‹_›]
 .split
  .unfold mvP;rw[zIn,zIn,if_pos zOm];omega
  .split
   .unfold mvP;rw[zIn,if_pos rfl];omega
   .unfold mvP;rw[zIn,zIn,zIn]
theorem KL:∀(d:Nat) (x:wg) (l:List wg),(jk d x l).length=l.length+1
 | 0,x,l=>by simp[jk]
 |d+1,x,[]=>by simp[jk]
 |d+1,x,y :: l=>by simp[jk,KL d x l]
theorem KM:∀(d:Nat) (x:wg) (l:List wg) (k:Nat),d<=l.length->(jk d x l)[k]?=if k<d then l[k]? else if k=d then some x else l[k-1]?
 | 0,x,l,k,h=>by
  cases k with
  |zero=>simp[jk]
  |succ k=>simp[jk]
 |d+1,x,[],k,h=>by simp at h
 |d+1,x,y :: l,k,h=>by
  cases k with
  |zero=>simp[jk]
  |succ k =>
   simp only[jk,vb];rw[KM d x l k (zUs h)];by_cases g:k<d
   .simp [g]
   .by_cases i:k=d
    .simp [i]
    .obtain ⟨m,rfl⟩:∃ m,k=m+1:=⟨k-1,zOm⟩
     simp[g,i]
theorem Uu:∀(a d:Nat) (l:List wg),(yT a d l).length=l.length
 | 0,d,x :: l=>by simp[yT,KL]
 |n+1,d,x :: l=>by simp[yT,Uu n d l]
 | 0,d,[]=>rfl
 |n+1,d,[]=>rfl
theorem KN:∀(a d:Nat) (l:List wg) (k:Nat),a+d<l.length->(yT a d l)[k]?=l[mvI a (a+d) k]?
 | 0,d,[],k,h=>by simp at h
 |n+1,d,[],k,h=>by simp at h
 | 0,d,x :: l,k,h=>by
  simp only[yT];rw[KM d x l k (by simp at h;omega)];unfold mvI;by_cases g:k<d
  .simp [g]
  .by_cases i:k=d
   .simp [i]
   .obtain ⟨m,rfl⟩:∃ m,k=m+1:=⟨k-1,zOm⟩
    simp[g,i]
 |n+1,d,x :: l,k,h=>by
  cases k with
  |zero=>simp[yT,mvI]
  |succ k =>
   simp only[yT,vb];rw[KN n d l k (by simp at h;omega)];have:mvI (n+1) (n+1+d) (k+1)=mvI n (n+d) k+1:=by
    unfold mvI;rw[show n+1+d=n+d+1 by omega];simp only[Nat.add_lt_add_iff_right,Nat.add_right_cancel_iff];split
    .rfl
    .split
     .rfl
     .split<;>rfl
   rw[this,vb]
def KO(P:qf)(pl:Pol)(ops:Array wg)(Q:St->Prop)(g:AV->St->Prop)(st:St):Prop:=
 (Qq pl ops=true/\awpS P pl true ops ops.toList Q g st) \/
 (∃ n,Ut pl ops n=true/\awpS P pl true ops (ops.toList.take n) (fun st=>awpS P pl false ops (ops.toList.drop n) Q g st) g st) \/
 (∃ a d,Jo pl ops a (a+d)=true/\0<d/\a+d<ops.toList.length/\awpS P pl true ops ops.toList Q g st/\awpS P pl true ops (yT a d ops.toList) Q g st)
theorem qcJ{ro:Ro}{G0:Gh}{a6:Mu}{w0:j2}{n:Nat}(s0:Sim G0 a6 w0.heap)(J:(ops.toList.all fun o=>dOk n o.dst)=true)
  {Q:St->Prop} {Qp:AV->St->Prop} {QQ:Exit->Act->j2->Prop} (hQ:∀ st a w G,Q st->Rel ro G0 a6 w0 n G st a w->QQ .normal a w)
  (ah:∀ v st a w G u,Qp v st->Rel ro G0 a6 w0 n G st a w->VRel G w.heap v u->QQ (.panic [{ v:=u,recovered:=false }]) a w) {st:St} {a:Act} {w:j2} {G:Gh} (r:Rel ro G0 a6 w0 n G st a w)
  (h:KO P pl ops Q Qp st) (C:Bool) (t:Nat):wpOpsIn (WF ro) 0 P ops QQ (Region.schedule C ops t) a w:=by
 have a4:∀(l:yI ops=true),Topo ops (Region.schedule C ops t)/\(Region.schedule C ops t).length=ops.size/\(∀ k,k∈Region.schedule C ops t->k<ops.size)/\(Region.schedule C ops t).Nodup:=by
  intro l;obtain⟨h1,h2⟩:=Ky l C t;obtain⟨h3,h4⟩:=Topo.closed l _ _ rfl h1;exact⟨h1,h2,fun k I=>(h3 k I).1,h4⟩
 rcases h with ⟨U,h⟩|⟨m,U,hA⟩|⟨g,d,U,hd,a7,hA,hB⟩
 .obtain ⟨l,T⟩:=qb1 U
  obtain⟨h1,h2,h3,h4⟩:=a4 l;exact KI s0 J hQ r _ h2 h3 h4 (fun i k x y a2 hx hy hc=>h1.bef l (T i k x y a2 hx hy hc)) h
 .unfold Ut at U
  rw[qq,qq,decide_eq_true_eq]at U;obtain⟨⟨l,ax⟩,T⟩:=U;obtain⟨h1,h2,h3,h4⟩:=a4 l;generalize Region.schedule C ops t=L at *
  simp only[qJ,yj]at T;have ai:∀ j,m<=j->j<m+(ops.size-m)->∀ i,i<j->Bef L i j:=by
   intro j aj ay i hi;have:=T j zOm i hi;rw[if_pos aj]at this;exact h1.bef l this
  obtain⟨L1,hL,ak⟩:=KJ m (ops.size-m) L zOm (fun k I=>zW1 (h3 k I)) h4 ai;have ab:L1.Nodup:=by rw[hL]at h4;exact(YP.1 h4).1
  have ad:∀ k,k∈L1->k<m:=by
   intro k I;have az:=h3 k (by rw[hL];simp[I]);refine vD fun b0=>?_
   rw[hL]at h4;exact(YP.1 h4).2.2 k I k (by simp[List.mem_range'];exact⟨k-m,zOm,zOm⟩) rfl
  rw[hL];refine Js L1 _ a w ?_;obtain⟨a3,e0,hq,hs⟩:=Up P pl ops (ops.toList.take m) st hA;have a1:(ops.toList.take m).toArray.size=m:=zSo;have R:∀ k,k<m->(ops.toList.take m).toArray[k]?=ops[k]?:=by
   intro k I;simp[I]
  have aa:∀(i:Nat) (o:wg),(ops.toList.take m).toArray[i]?=some o->jj P pl ops (a3 i) o (a3 (i+1)):=fun i o ho=>hs i o (zUs ho)
  have key:=Ur (QQ:=Exit.then (wpOpsIn (WF ro) 0 P ops QQ (List.range' m (ops.size-m))) QQ) aa s0 (fun i=>i) (fun k I=>(R k zOm).symm) ?_ (fun a w G r=>?_) L1 [] a w G ?_ (by simpa[a1] using ak) (fun k I=>by rw[a1];exact ad k (zUs I)) (zUs ab) (by rw[Us,e0];exact r)
  .simpa using key
  .rw [qJ]at J⊢
   intro o ho;exact J o (List.mem_of_mem_take (zUs ho))
  .have al:awpS P pl false ops (ops.toList.drop m) Q Qp (a3 (ops.toList.take m).toArray.size):=by simpa using hq
   have ae:=Um s0 hQ ah (ops.toList.drop m) _ a w G r (by
    rw[qJ]at J⊢;intro o ho;exact J o (List.mem_of_mem_drop ho)) al
   have e:wpOpsIn (WF ro) 0 P ops QQ (List.range' m (ops.size-m))=wpListIn (WF ro) 0 P ops QQ (ops.toList.drop m):=by
    have:=wpOpsIn_eq_wpListIn (F:=WF ro) (n:=0) (P:=P) (ops:=ops) (Q:=QQ) (ops.toList.drop m) m (fun j=>zSp);simpa using this
   show wpOpsIn (WF ro) 0 P ops QQ (List.range' m (ops.size-m)) a w;rw[e];exact ae
  .simp only[um]
   intro i k x y a2 hx hy hc pre post e;have I:k<m:=by have:=(zM.1 hy).1;omega
   rw[R i zOm]at hx;rw[R k I]at hy;have a5:=T k zOm i a2;rw[zIn,hx,hy]at a5;simp only[hc,Bool.not_true,Bool.false_or]at a5;exact h1.bef l a5 pre (post++List.range' m (ops.size-m)) (by rw[hL,e];simp)
 .obtain ⟨l,T,af⟩:=qb2 U
  obtain⟨h1,h2,h3,h4⟩:=a4 l;generalize Region.schedule C ops t=L at *
  have a8:∀ i,i<ops.size->i∈L:=by
   intro i hi;refine vD fun h=>?_
   have h1:(i :: L).length<=(qo ops.size).length:=jR (jw.2 ⟨h,h4⟩) (fun k I=>by
    rcases qu.1 I with rfl|I
    .simpa using hi
    .simpa using (h3 k I))
   simp at h1;omega
  have ag:g+d<ops.size:=zUs a7;rcases Bef.total (a8 g zOm) (a8 (g+d) ag) zOm with hb|hb
  .refine KI s0 J hQ r _ h2 h3 h4 (fun i k x y a2 hx hy hc=>?_) hA
   by_cases he:i=g/\k=g+d
   .rw [he.1,he.2];exact hb
   .exact h1.bef l (T i k x y a2 he hx hy hc)
  .obtain ⟨a3,e0,hq,hs⟩:=Up P pl ops (yT g d ops.toList) st hB
   have R:∀ k:Nat,(yT g d ops.toList).toArray[k]?=ops[mvI g (g+d) k]?:=by
    intro k;have:=KN g d ops.toList k a7;simpa using this
   have a1:(yT g d ops.toList).toArray.size=ops.size:=by simp[Uu]
   have aa:∀(i:Nat) (o:wg),(yT g d ops.toList).toArray[i]?=some o->jj P pl ops (a3 i) o (a3 (i+1)):=fun i o ho=>hs i o (zUs ho)
   have e1:∀ k,mvI g (g+d) (mvP g (g+d) k)=k:=qcH zOm;have e2:∀ k,mvP g (g+d) (mvI g (g+d) k)=k:=qcI zOm;have an:∀ k,k<ops.size->mvP g (g+d) k<ops.size:=by
    intro k I;unfold mvP;split
    .exact I
    .split
     .exact ag
     .split<;>omega
   have key:=Ur (QQ:=QQ) aa s0 (mvI g (g+d)) (fun k _=>(R k).symm) ?_ (fun a w G r=>hQ _ a w G (zUs hq) r) (L.map (mvP g (g+d))) [] a w G ?_ (by simpa[Uu] using h2) ?_ ?_ (by rw[Us,e0];exact r)
   .simpa [List.map_map,Function.comp_def,e1] using key
   .rw [qJ]at J⊢
    intro o ho;obtain⟨k,I⟩:=List.mem_iff_getElem?.1 ho;have:ops[mvI g (g+d) k]?=some o:=by rw[<-R];simpa using I
    exact J o (by have:=Array.mem_of_getElem? this;simpa using this)
   .simp only[um]
    intro i k x y a2 hx hy hc p q e;rw[R]at hx hy;have ao:Bef L (mvI g (g+d) i) (mvI g (g+d) k):=by
     by_cases I:k=g+d
     .have ek:mvI g (g+d) k=g:=by unfold mvI;rw[zIn,zIn,if_pos I]
      rw[ek]at hy⊢;by_cases hi:i<g
      .have ei:mvI g (g+d) i=i:=by unfold mvI;rw[if_pos hi]
       rw[ei]at hx⊢;exact h1.bef l (T i g x y hi zOm hx hy hc)
      .have ei:mvI g (g+d) i=i+1:=by unfold mvI;rw[if_neg hi,if_pos zOm]
       rw[ei]at hx⊢;by_cases aq:i+1=g+d
       .rw [aq];exact hb
       .rw [af (i+1) x y zOm zOm hx hy]at hc
        exact absurd hc zSp
     .by_cases hi:i=g+d
      .have ei:mvI g (g+d) i=g:=by unfold mvI;rw[zIn,zIn,if_pos hi]
       have ek:mvI g (g+d) k=k:=by unfold mvI;rw[zIn,zIn,if_neg I]
       rw[ei]at hx⊢;rw[ek]at hy⊢;exact h1.bef l (T g k x y zOm zOm hx hy hc)
      .have ar:mvI g (g+d) i<mvI g (g+d) k:=by
        unfold mvI;rw[if_neg I,if_neg hi];split<;>split<;>(try split)<;>(try split)<;>omega
       have au:mvI g (g+d) i≠g:=by
        unfold mvI;rw[if_neg hi];split
        .omega
        .split<;>omega
       exact h1.bef l (T _ _ x y ar (fun h=>au h.1) hx hy hc)
    have e':L=p.map (mvI g (g+d))++mvI g (g+d) k :: q.map (mvI g (g+d)):=by
     have:=congrArg (List.map (mvI g (g+d))) e;simpa[List.map_map,Function.comp_def,e1] using this
    have:=ao _ _ e';obtain⟨z,hz,av⟩:=qk.1 this;have:z=i:=by have:=congrArg (mvP g (g+d)) av;rwa[e2,e2]at this
    exact this ▸ hz
   .intro k I
    simp only[um,qk]at I;obtain⟨z,hz,rfl⟩:=I;rw[a1];exact an z (h3 z hz)
   .simp only[um]
    exact List.Pairwise.map _ (fun x y aw e=>aw (by have:=congrArg (mvI g (g+d)) e;rwa[e1,e1]at this)) h4
end
end Go.Ev
namespace Go.Ev
open Go Go.RowKit
theorem qw.congr{P:qf}{pl:Pol}{det:Bool}{p:Option Tmp}{op:Op}{ev ev':uk->AV}{mu:Mu}{K J:AV->Mu->Prop}(h:qw P pl det p op ev mu K J)(g:∀ x,x∈op.operands->ev x=ev' x):qw P pl det p op ev' mu K J:=by
 cases op<;>simp only[qw,Op.operands]at h g⊢<;>try (exact h.elim)
 case move x=>rw[<-g x zSp];exact h
 case assign x=>rw[<-g x zSp];exact h
 case makeFunc f first C =>
  rw[<-wM (l:=first) (fun x j=>g x (zP1 j)),<-wM (l:=C) (fun x j=>g x (zP1 j))];exact h
 case pick c x y=>rw[<-g c zSp,<-g x zSp,<-g y zSp];exact h
 case alloc=>exact h
 case box t x=>rw[<-g x zSp];exact h
 case build t R=>rw[<-Jp g];exact h
 case buildSlice t n R=>rw[<-Jp g];exact h
 case load t x=>rw[<-g x zSp];exact h
 case store t x y=>rw[<-g x zSp,<-g y zSp];exact h
 case nilCheck x=>rw[<-g x zSp];exact h
 case binOp op t x y yt=>rw[<-g x zSp,<-g y zSp];exact h
 case unOp op t x=>rw[<-g x zSp];exact h
 case convert s t x=>rw[<-g x zSp];exact h
 case makeInterface t x=>rw[<-g x zSp];exact h
 case makeSlice t x y=>rw[<-g x zSp,<-g y zSp];exact h
 case slice t x T U mx =>
  rw[<-g x zSp,<-Jq (o:=T) (fun y I=>g y (by simp only[Array.mem_append];exact .inl (.inl (.inr I)))),
   <-Jq (o:=U) (fun y I=>g y (by simp only[Array.mem_append];exact .inl (.inr I))),<-Jq (o:=mx) (fun y I=>g y (by simp only[Array.mem_append];exact .inr I))]
  exact h
 case fieldAddr t x f=>rw[<-g x zSp];exact h
 case field t x f=>rw[<-g x zSp];exact h
 case indexAddr t x i=>rw[<-g x zSp,<-g i zSp];exact h
 case index t x i=>rw[<-g x zSp,<-g i zSp];exact h
 case extract x i=>rw[<-g x zSp];exact h
 case typeAssert x xt t ok=>rw[<-g x zSp];exact h
 case makeMap=>exact h
 case lookup t m k ok=>rw[<-g m zSp,<-g k zSp];exact h
 case mapUpdate t m k v=>rw[<-g m zSp,<-g k zSp,<-g v zSp];exact h
 case insert t m k v=>rw[<-g m zSp,<-g k zSp,<-g v zSp];exact h
 case mapEntry t m k=>rw[<-g m zSp,<-g k zSp];exact h
 case entryStore t m k v=>rw[<-g m zSp,<-g k zSp,<-g v zSp];exact h
 case range t m=>rw[<-g m zSp];exact h
 case next i str=>rw[<-g i zSp];exact h
 case entry i=>rw[<-g i zSp];exact h
 case panic x=>rw[<-g x zSp];exact h
 case call c =>
  obtain⟨callee,args,a0⟩:=c;cases callee with
  |invoke r m=>exact h.elim
  |value f =>
   simp only[Call.operands]at g;simp only at h⊢;rw[<-wM (l:=args) (fun x j=>g x (zP1 j)),<-g f zSp];exact h
  |builtin b =>
   simp only[Call.operands]at g;simp only at h⊢;rw[<-wM (l:=args) (fun x j=>g x (zP1 j))];exact h
def qcK(o:wg):Bool:=
 match o.op with
 | .call c=>match c.callee with | .builtin .len | .builtin .cap | .builtin .min | .builtin .max=>false|_=>true
 | .panic _ | .next .. => true
 |_=>false
def zr(ops:Array wg)(i:Nat):Option Tmp:=(ops[i]?).bind (·.dst)
def yJ(ops:Array wg)(i:Nat)(t:Tmp):Bool:=match ops[i]? with|some o=>(uz ops o).contains t|none=>false
def Uv(ops:Array wg)(i:Nat):Bool:=match ops[i]? with|some o=>memR o|none=>false
def wN(st:St)(d:Tmp)(mu:Mu):AV->Mu->Prop:=fun v m=>v=st.tm d/\m=mu
def noK:AV->Mu->Prop:=fun _ _=>False
end Go.Ev
namespace Go.Ev
open Go Go.RowKit
section
variable {a:Act}{ops:Array wg}{G:Gh}{O g:List Nat}{i:Nat}{o:wg}{pl:Pol}{P:qf}{w:j2}
def wO(o:wg):Bool:=match o.op with | .alloc _=>true|_=>false
def ZP(pl:Pol)(o:wg):Nat:=if wO o then 2 else if memW pl o||qcK o then 1 else 0
def ze(pl:Pol)(ops:Array wg)(i:Nat):Nat:=match ops[i]? with|some o=>ZP pl o|none=>0
def pend(pl:Pol)(ops:Array wg)(pre:List Nat)(j:Nat):List Nat:=pre.filter fun p=>ze pl ops p == 0&&(Uv ops p&&!(zN ops j).testBit p)
def Jt(pl:Pol)(ops:Array wg):List Nat->List Nat->Bool
 |_,[]=>true
 |pre,j :: O=>(!pre.contains j&&((qo ops.size).all fun i=>match zr ops i with|some d=>!yJ ops j d||pre.contains i|none=>true)) &&
   ((ze pl ops j == 2||pre.all fun i=>ze pl ops i == 0||(zN ops j).testBit i)&&Jt pl ops (pre++[j]) O)
def ZQ(pl:Pol)(ops:Array wg)(O:List Nat):Bool:=
 (yI ops&&(ops.toList.all fun o=>!wO o||o.guard.isNone))&&((O.all fun i=>decide (i<ops.size))&&((qo ops.size).all fun i=>O.contains i)) &&
 (((qo ops.size).all fun i=>match zr ops i with
  |some d=>(qo ops.size).all fun j=>(i == j||zr ops j != some d)&&(!yJ ops j d||(zN ops j).testBit i)
  |none=>ze pl ops i == 1)&&Jt pl ops [] O)
structure vP (pl:Pol) (ops:Array wg) (O:List Nat):Prop where
 edges:yI ops=true
 guards:∀(i:Nat) (o:wg),ops[i]?=some o->wO o=true->o.guard=none
 lt:∀ i,i∈O->i<ops.size
 all:∀ i,i<ops.size->i∈O
 du:∀ i j d,i<ops.size->j<ops.size->zr ops i=some d->(i≠j->zr ops j≠some d)/\(yJ ops j d=true->(zN ops j).testBit i=true)
 dn:∀ i,i<ops.size->zr ops i=none->ze pl ops i=1
 ord:∀(PO lO:List Nat) (j:Nat),O=PO++j :: lO->j ∉ PO/\(∀ i d,i<ops.size->zr ops i=some d->yJ ops j d=true->i∈PO)/\(ze pl ops j≠2->∀ i,i∈PO->ze pl ops i≠0->(zN ops j).testBit i=true)
theorem KP:∀(O pre:List Nat),Jt pl ops pre O=true->∀(g l:List Nat) (j:Nat),O=g++j :: l ->
  j ∉ pre++g/\(∀ i d,i<ops.size->zr ops i=some d->yJ ops j d=true->i∈pre++g)/\(ze pl ops j≠2->∀ i,i∈pre++g->ze pl ops i≠0->(zN ops j).testBit i=true)
 | [],pre,h,g,l,j,e=>by cases g<;>simp at e
 |k :: O,pre,h,g,l,j,e=>by
  simp only[Jt,qq]at h;obtain⟨⟨r,t⟩,C,o⟩:=h;cases g with
  |nil =>
   grind
  |cons p g =>
   simp only[yD,YQ]at e;obtain⟨rfl,e⟩:=e;have:=KP O (pre++[k]) o g l j e;simpa using this
theorem qcL(h:ZQ pl ops O=true):vP pl ops O:=by
 unfold ZQ at h;simp only[qq]at h;obtain⟨⟨⟨t,l⟩,p,r⟩,C,I⟩:=h;simp only[qJ,yj]at l p r C;refine⟨t,fun i o U J=>?_,fun i g=>by simpa using p i g,fun i g=>by simpa using r i g,fun i j d g hj P=>?_,fun i g P=>?_,fun R T j e=>?_⟩
 .have:=l o (by grind)
  rw[J]at this;simpa using this
 .grind
 .grind
 .have:=KP O [] I R T j e
  simpa using this
def wP(P:qf)(pl:Pol)(o:wg)(st:St):Prop:=qw P pl true o.dst o.op st.ev st.mu (match o.dst with|some d=>wN st d st.mu|none=>noK) noK
def jV(P:qf)(pl:Pol)(ops:Array wg):List Nat->St->Prop
 | [],_=>True
 |p :: l,st=>(match ops[p]? with|some o=>OptK (zE ops st o) fun b=>Br b (wP P pl o st) True|none=>True)/\jV P pl ops l st
theorem Uw{st:St}:∀{l:List Nat},jV P pl ops l st->∀{i:Nat} {o:wg} {d:Tmp},i∈l->ops[i]?=some o->o.dst=some d->zE ops st o=some true->DS P pl o st.ev st.mu (st.tm d) st.mu
 | [],_,i,_,_,p,_,_,_=>absurd p qD
 |j :: l,h,i,o,d,p,t,C,I=>by
  obtain⟨g,J⟩:=h;rcases qu.1 p with rfl|p
  .rw [t]at g
   obtain⟨b,r,g,_⟩:=g;rw[I]at r;have g:wP P pl o st:=g (by cases r;rfl);unfold wP at g;have e:(match o.dst with|some d=>wN st d st.mu|none=>noK)=wN st d st.mu:=by rw[C]
   rw[e]at g;exact g
  .exact Uw J p t C I
def plan(pl:Pol)(ops:Array wg):List Nat->List Nat->List (Nat×Nat×List Nat)
 |_,[]=>[]
 |pre,j :: O=>(j,ze pl ops j,if ze pl ops j=0 then [] else pend pl ops pre j) :: plan pl ops (pre++[j]) O
def vQ(P:qf)(ops:Array wg):List (Nat×Nat×List Nat)->Prop
 | []=>True
 | (j,k,_) :: T=>(match k,ops[j]? with|2,some o=>(match o.op with | .alloc e=>OptK (qx P e) fun z=>z.cells.all AV.one=true|_=>False)|_,_=>True)/\vQ P ops T
def awpT(P:qf)(pl:Pol)(ops:Array wg)(Q:St->Prop)(g:AV->St->Prop):List (Nat×Nat×List Nat)->St->Prop
 | [],st=>Q st
 | (j,k,r) :: T,st=>match ops[j]? with
  |none=>False
  |some o=>OptK (zE ops st o) fun b=>Br b (qw P pl (k != 1) o.dst o.op st.ev st.mu (fun v m=>jV P pl ops r (st.put o.dst v m)/\awpT P pl ops Q g T (st.put o.dst v m)) (fun v m=>k=1/\∀ i,g v ⟨i,m⟩)) (awpT P pl ops Q g T (st.put o.dst (.sc va) st.mu))
def SegA(P:qf)(pl:Pol)(ops:Array wg)(Q:St->Prop)(g:AV->St->Prop)(st:St):Prop:=
 ∃ O,ZQ pl ops O=true/\vQ P ops (plan pl ops [] O)/\awpT P pl ops Q g (plan pl ops [] O) st
theorem Rel.reveal{ro:Ro}{G0:Gh}{a8:Mu}{w0:j2}{n:Nat}{st:St}(r:Rel ro G0 a8 w0 n G st a w){d:Tmp}{b:Nat}{e:j1}{zv:j3}(h1:(ofV zv).cells.all AV.one=true)
  (ht:a.tmps.getD d va = .pointer (some ⟨b,0,none⟩)) (hb:w.heap[b]?=some (.cells zv.cells e)) (a2:w0.heap.size<=b) (hl:¬Live G st.mu b) (I:¬G.imm b) :
  Rel ro G0 a8 w0 n ⟨G.imm,G.blk++[(b,zv.cells.size)]⟩ (st.put (some d) (.ptr st.mu.length 0) (st.mu++[.arr (ofV zv).cells])) a w:=by
 have s:=r.stp.sim;have a1:=s.len;have J:G.le ⟨G.imm,G.blk++[(b,zv.cells.size)]⟩:=⟨fun b h=>h,fun i x h=>by
  grind⟩
 have he:=Ext.refl G w.heap;have o:∀{i:Nat} {c':Cell} {g C:Nat},i<st.mu.length->(G.blk++[(b,zv.cells.size)])[i]?=some (g,C)->G.blk[i]?=some (g,C):=fun {i c' g C} I hk=>by
  grind
 have new:∀{i g C:Nat},i=st.mu.length->(G.blk++[(b,zv.cells.size)])[i]?=some (g,C)->(g,C)=(b,zv.cells.size):=fun {i g C} I hk=>by
  grind
 have P:∀ x,Live ⟨G.imm,G.blk++[(b,zv.cells.size)]⟩ (st.mu++[.arr (ofV zv).cells]) x->Live G st.mu x\/x=b:=fun x ⟨i,c',t',hc,hd,hk⟩=>by
  rcases zy hc with ⟨I,l⟩|⟨I,l⟩
  .exact .inl ⟨i,c',t',l,hd,o (c':=c') I hk⟩
  grind
 have a3:jS G w.heap zv.cells.size (.cells zv.cells e) (.arr (ofV zv).cells):=by
  have hv:VRel G w.heap (ofV zv) zv:=VRel.ofV zv;obtain⟨ag,T,_⟩:=hv.cells (fun c hc=>by simpa using qJ.1 h1 c hc);exact⟨zv.cells,e,rfl,rfl,zOm,fun j y hj=>⟨by grind,T j y hj⟩⟩
 have a9:Sim ⟨G.imm,G.blk++[(b,zv.cells.size)]⟩ (st.mu++[.arr (ofV zv).cells]) w.heap:=by
  refine⟨zP1 a1,s.imm,?_,?_,?_,s.tab⟩
  .intro i c' g R hc hd hk
   rcases zy hc with ⟨I,l⟩|⟨I,l⟩
   .obtain ⟨o',q1,q2⟩:=s.obj i c' g R l hd (o (c':=c') I hk)
    exact⟨o',q1,q2.mono J he⟩
   .obtain ⟨rfl,rfl⟩:=Prod.mk.inj (new I hk)
    subst l;exact⟨_,hb,a3.mono J he⟩
  .intro i c' g R hc hd hk aa
   rcases zy hc with ⟨I,l⟩|⟨ab,l⟩
   .exact s.live i c' g R l hd (o (c':=c') I hk) aa
   grind
  .intro i j ci cj x ti tj ab af ad ae a4 a5
   rcases zy ab with ⟨U,a6⟩|⟨U,a6⟩<;>rcases zy af with ⟨a0,a7⟩|⟨a0,a7⟩
   .exact s.inj i j ci cj x ti tj a6 a7 ad ae (o (c':=ci) U a4) (o (c':=cj) a0 a5)
   .have a:=o (c':=ci) U a4
    have c:=new a0 a5;obtain⟨rfl,_⟩:=Prod.mk.inj c;exact absurd ⟨i,ci,ti,a6,ad,a⟩ hl
   .have a:=o (c':=cj) a0 a5
    have c:=new U a4;obtain⟨rfl,_⟩:=Prod.mk.inj c;exact absurd ⟨j,cj,tj,a7,ae,a⟩ hl
   .omega
 refine⟨fun t=>?_,fun h=>?_,r.size,⟨r.stp.le.trans J,a9,r.stp.keep,r.stp.size,fun x hx=>?_,r.stp.inew,r.stp.tape,r.stp.os,r.stp.output,r.stp.drawn⟩,fun p hp=>(r.kp p hp).mono J he⟩
 .by_cases e:t=d
  .subst e
   have:(st.put (some t) (.ptr st.mu.length 0) (st.mu++[.arr (ofV zv).cells])).tm t = .ptr st.mu.length 0:=by simp[St.put]
   rw[this,ht];refine .ptr _ _ _ zv.cells.size ?_;show (G.blk++[_])[st.mu.length]?=_;rw[<-a1];simp
  .rw [jb (fun h=>e (by cases h;rfl))]
   exact(r.tm t).mono J he
 .obtain ⟨Ds,q1,q2,q3⟩:=r.df h
  refine⟨Ds,q1,q2,fun D hD=>⟨(q3 D hD).1,(q3 D hD).2.obj,fun hx=>?_,(q3 D hD).2.nimm⟩⟩;rcases P D hx with hx|rfl
  .exact (q3 D hD).2.nlive hx
  .have:=(q3 D hD).2.obj
   rw[hb]at this;cases this
 .rcases P x hx with hx|rfl
  .exact r.stp.live x hx
  .exact .inr a2
def behind(pl:Pol)(ops:Array wg)(g j pre:List Nat)(t:Tmp):Prop:=(∃ i,i∈g/\i ∉ pre/\zr ops i=some t)\/∃ i,i∈j/\ze pl ops i=2/\zr ops i=some t
open Classical in
noncomputable def yK(pl:Pol)(ops:Array wg)(g i pre:List Nat)(st:St):St:=⟨fun t=>if behind pl ops g i pre t then .any else st.tm t,st.mu⟩
theorem jL{i pre:List Nat}{st:St}{t:Tmp}(h:¬behind pl ops g i pre t):(yK pl ops g i pre st).tm t=st.tm t:=by
 unfold yK;simp only;rw[if_neg h]
theorem Qr{i pre:List Nat}{st:St}{t:Tmp}(h:behind pl ops g i pre t):(yK pl ops g i pre st).tm t = .any:=by
 unfold yK;simp only;rw[if_pos h]
structure AlF (P:qf) (ops:Array wg) (G:Gh) (mu:Mu) (base:Nat) (a:Act) (w:j2) (i b:Nat):Prop where
 x:∃(o:wg) (e:j1) (d:Tmp) (zv:j3),ops[i]?=some o/\o.op = .alloc e/\o.dst=some d/\qx P e=some (ofV zv)/\a.tmps.getD d va = .pointer (some ⟨b,0,none⟩)/\w.heap[b]?=some (.cells zv.cells e)
 base:base<=b
 nl:¬Live G mu b
 ni:¬G.imm b
theorem AlF.lt{mu:Mu}{base:Nat}{b:Nat}(h:AlF P ops G mu base a w i b):b<w.heap.size:=by
 obtain⟨o,e,d,g,_,_,_,_,_,j⟩:=h.x
 grind
theorem AlF.step{G':Gh}{mu l:Mu}{base:Nat}{C:Act}{w':j2}{b:Nat}(h:AlF P ops G mu base a w i b)(t:Stp G mu w G' l w')(ht:∀ d,zr ops i=some d->C.tmps.getD d va=a.tmps.getD d va):AlF P ops G' l base C w' i b:=by
 have p:=h.lt;obtain⟨o,e,d,I,J,r,R,T,hp,U⟩:=h.x;refine⟨⟨o,e,d,I,J,r,R,T,?_,?_⟩,h.base,fun j=>?_,fun g=>?_⟩
 .grind [zr]
 .rw [t.keep b p h.nl];exact U
 .rcases t.live b j with j|j
  .exact h.nl j
  .omega
 .rcases t.inew b g with g|g|g
  .exact h.ni g
  .exact h.nl g
  .omega
theorem Rel.weak{ro:Ro}{j:Gh}{i:Mu}{l:j2}{n:Nat}{st g:St}(r:Rel ro j i l n G st a w)(o:g.mu=st.mu)(p:∀ t,g.tm t = .any\/g.tm t=st.tm t):Rel ro j i l n G g a w:=by
 refine⟨fun t=>?_,fun h=>by rw[o];exact r.df h,r.size,by rw[o];exact r.stp,r.kp⟩;rcases p t with e|e
 .rw [e];exact .any _
 .rw [e];exact r.tm t
def DG(P:qf)(pl:Pol)(ops:Array wg)(o:wg)(st:St)(d:Tmp)(m:Mu):Prop:=∃ b,zE ops st o=some b/\(b=true->DS P pl o st.ev m (st.tm d) m)/\(b=false->st.tm d = .sc va)
theorem DG.re{st:St}{d:Tmp}{m g:Mu}(h:DG P pl ops o st d m)(l:memW pl o=false)(p:memR o=true->zE ops st o=some true->DS P pl o st.ev g (st.tm d) g):DG P pl ops o st d g:=by
 obtain⟨b,i,r,t⟩:=h;refine⟨b,i,fun e=>?_,t⟩;subst e;cases j:memR o with
 |true=>exact p j i
 |false=>exact((r rfl).mem l).2 j g
theorem Ju{st g:St}(h:∀ t,(uz ops o).contains t=true->g.tm t=st.tm t):zE ops g o=zE ops st o:=by
 grind [zE,bind,uz]
theorem qcM{st:St}(h:o.guard=none):zE ops st o=some true:=by
 unfold zE;rw[h]
structure SegI (P:qf) (pl:Pol) (ops:Array wg) (O:List Nat) (ro:Ro) (G0:Gh) (mu0:Mu) (w0:j2) (n:Nat) (Q:St->Prop) (Qp:AV->St->Prop) (pre:List Nat) (a:Act) (w:j2) (PO lO:List Nat) (st:St) (G:Gh) (B:Nat->Nat):Prop where
 split:O=PO++lO
 awp:awpT P pl ops Q Qp (plan pl ops PO lO) st
 s:∀ i,i∈PO->ze pl ops i≠0->i∈pre
 d:∀ i,i∈pre->ze pl ops i≠2->i∈PO
 p:∀ i o d,i∈PO->i ∉ pre->ops[i]?=some o->o.dst=some d->DG P pl ops o st d st.mu
 al:∀ i,i∈lO->i∈pre->AlF P ops G st.mu w0.heap.size a w i (B i)
 inj:∀ i j,i∈lO->j∈lO->i∈pre->j∈pre->i≠j->B i≠B j
 rel:Rel ro G0 mu0 w0 n G (yK pl ops PO lO pre st) a w
theorem Jv{k:Nat}(g:ops[k]?=some o){t:Tmp}(i:Operand.tmp t∈o.op.operands):yJ ops k t=true:=by
 simp only[yJ,g,List.contains_iff_mem,uz,Un,qC,List.mem_filterMap];exact .inl ⟨.tmp t,zUs i,rfl⟩
theorem vP.disj{j:List Nat}(K:vP pl ops O)(h:O=g++j){i:Nat}(l:i∈j):i ∉ g:=by
 obtain⟨s,t,rfl⟩:=List.append_of_mem l;have:=(K.ord (g++s) t i (by rw[h];simp)).1
 grind
theorem vP.rd{j:List Nat}(K:vP pl ops O)(h:O=j++g){i e:Nat}{d:Tmp}(o:i∈j)(l:e∈g)(p:zr ops e=some d):yJ ops i d=false:=by
 cases r:yJ ops i d with
 |false=>rfl
 |true =>
  obtain⟨s,t,rfl⟩:=List.append_of_mem o;have:=(K.ord s (t++g) i (by rw[h];simp)).2.1 e d (K.lt e (by rw[h];simp[l])) p r;exact absurd (yA _ this) (K.disj h l)
theorem Ux(g:ops[i]?=some o)(h:ze pl ops i=0):memW pl o=false:=by
 unfold ze at h;rw[g]at h;simp only[ZP]at h
 grind
theorem qcN(g:ops[i]?=some o)(h:ze pl ops i=2):∃ e,o.op = .alloc e:=by
 grind [ze,ZP,wO]
theorem KQ(pl:Pol)(ops:Array wg)(i:Nat):ze pl ops i=0\/ze pl ops i=1\/ze pl ops i=2:=by
 unfold ze;split
 .unfold ZP
  split
  .exact .inr (.inr rfl)
  grind
 .exact .inl rfl
section
variable {P:qf} {pl:Pol} {ops:Array wg} {O:List Nat} {ro:Ro} {G0:Gh} {mu0:Mu} {w0:j2} {n:Nat} {Q:St->Prop} {Qp:AV->St->Prop} {pre:List Nat} {a:Act} {w:j2}
theorem SegI.keepDS(K:vP pl ops O){PO lO:List Nat}{e:Nat}(C:O=PO++e :: lO){st:St}{i:Nat}{o j:wg}{d:Tmp}(J:i∈PO)(ho:ops[i]?=some o)(R:ops[e]?=some j)(hd:o.dst=some d){m I:Mu}{v:AV}(h:DS P pl o st.ev m (st.tm d) m) :
  DS P pl o (st.put j.dst v I).ev m ((st.put j.dst v I).tm d) m:=by
 have l:e∈e :: lO:=qR ..;have T:i≠e:=fun h=>K.disj C l (h ▸ J)
 have U:i<ops.size:=K.lt i (by rw[C];simp[J]);have p:e<ops.size:=K.lt e (by rw[C];simp);have a0:zr ops i=some d:=by simp[zr,ho,hd]
 have r:zr ops e=j.dst:=by simp[zr,R]
 have e1:(st.put j.dst v I).tm d=st.tm d:=jb (fun h=>(K.du i e d U p a0).1 T (by rw[r];exact h));rw[e1];refine h.congr fun x hx=>?_
 cases x with
 |tmp t =>
  show st.tm t=(st.put j.dst v I).tm t;refine(jb fun h=>?_).symm;have h1:=K.rd C J l (by rw[r];exact h)
  grind [Jv]
 |const v=>rfl
 |global g=>rfl
 |func f=>rfl
theorem SegI.keepDG(K:vP pl ops O){PO lO:List Nat}{e:Nat}(g:O=PO++e :: lO){st:St}{i:Nat}{o I:wg}{d:Tmp}(J:i∈PO)(R:ops[i]?=some o)(j:ops[e]?=some I)(hd:o.dst=some d){m m':Mu}{v:AV}(h:DG P pl ops o st d m) :
  DG P pl ops o (st.put I.dst v m') d m:=by
 obtain⟨b,hb,l,h2⟩:=h;have p:e∈e :: lO:=qR ..;have T:i≠e:=fun h=>K.disj g p (h ▸ J)
 have U:i<ops.size:=K.lt i (by rw[g];simp[J]);have r:e<ops.size:=K.lt e (by rw[g];simp);have a0:zr ops i=some d:=by simp[zr,R,hd]
 have C:zr ops e=I.dst:=by simp[zr,j]
 have e1:(st.put I.dst v m').tm d=st.tm d:=jb (fun h=>(K.du i e d U r a0).1 T (by rw[C];exact h));refine⟨b,?_,fun e=>SegI.keepDS K g J R j hd (l e),fun e=>by rw[e1];exact h2 e⟩;rw[Ju fun t ht=>?_]
 .exact hb
 .refine jb fun h=>?_
  have l:=K.rd g J p (by rw[C];exact h);simp only[yJ,R]at l;rw[ht]at l;cases l
theorem SegI.advP(K:vP pl ops O){PO T:List Nat}{e:Nat}{st:St}{G:Gh}{B:Nat->Nat}(h:SegI P pl ops O ro G0 mu0 w0 n Q Qp pre a w PO (e :: T) st G B)(hk:ze pl ops e=0) :
  ∃ a5,SegI P pl ops O ro G0 mu0 w0 n Q Qp pre a w (PO++[e]) T a5 G B:=by
 have a6:e∈e :: T:=qR ..;have R:=K.disj h.split a6;have a7:e ∉ pre:=fun U=>R (h.d e U zOm)
 have r:e<ops.size:=K.lt e (by rw[h.split];simp);have ho:ops[e]?=some ops[e]:=zP1 r;generalize ops[e]=o at ho;have hw:=h.awp;simp only[plan,hk,awpT,ho]at hw;obtain⟨b,hb,a8,ad⟩:=hw;have hw:∃ v,(b=true->DS P pl o st.ev st.mu v st.mu)/\(b=false->v = .sc va)/\awpT P pl ops Q Qp (plan pl ops (PO++[e]) T) (st.put o.dst v st.mu):=by
  cases b with
  |false=>grind
  |true =>
   obtain⟨v,m,a0,a4⟩:=qw.det (o:=o) (h:=a8 rfl);obtain rfl:=(a0.mem (Ux ho hk)).1
   grind
 obtain⟨v,a0,a9,a4⟩:=hw;have C:zr ops e=o.dst:=by simp[zr,ho]
 cases hd:o.dst with
 |none=>have:=K.dn e r (by rw[C,hd]);omega
 |some d =>
  rw[hd]at C;have aa:O=(PO++[e])++T:=by rw[h.split];simp
  refine⟨st.put o.dst v st.mu,aa,a4,fun i l a1=>?_,fun i l a1=>?_,fun i o' d' l a2 I J=>?_,fun i l a2=>h.al i (qK _ l) a2,fun i j l hj=>h.inj i j (qK _ l) (qK _ hj),?_⟩
  .rcases qC.1 l with l|l
   .exact h.s i l a1
   grind
  .exact yA _ (h.d i l a1)
  .show DG P pl ops o' (st.put o.dst v st.mu) d' st.mu
   rcases qC.1 l with l|l
   .exact SegI.keepDG K h.split l I ho J (h.p i o' d' l a2 I J)
   .rw [qN]at l;subst l
    rw[ho]at I;cases I;rw[hd]at J;cases J;have e1:(st.put o.dst v st.mu).tm d=v:=by simp[St.put,hd]
    have ab:∀ t,yJ ops i t=true->(st.put o.dst v st.mu).tm t=st.tm t:=fun t ht=>by
     refine jb fun U=>?_
     have a3:t=d:=by rw[hd]at U;cases U;rfl
     subst a3;exact R ((K.ord PO T i h.split).2.1 i t r C ht)
    refine⟨b,by grind [Ju,yJ],fun e=>?_,fun e=>by rw[e1];exact a9 e⟩;rw[e1];refine(a0 e).congr fun x hx=>?_
    cases x with
    |tmp t =>
     show st.tm t=(st.put o.dst v st.mu).tm t;exact(ab t (Jv ho hx)).symm
    |const v=>rfl
    |global g=>rfl
    |func f=>rfl
  .refine h.rel.weak rfl fun t=>?_
   by_cases hb:behind pl ops (PO++[e]) T pre t
   .exact .inl (Qr hb)
   .right
    rw[jL hb];have a3:o.dst≠some t:=fun U=>hb (.inl ⟨e,zSp,a7,by rw[C];rw[hd]at U;exact U⟩)
    rw[jb a3,jL];rintro (⟨i,h1,h2,h3⟩|⟨i,h1,h2,h3⟩)
    .exact hb (.inl ⟨i,yA _ h1,h2,h3⟩)
    .rcases qu.1 h1 with rfl|h1
     .omega
     .exact hb (.inr ⟨i,h1,h2,h3⟩)
theorem SegI.advA(K:vP pl ops O)(ag:∀ i k,(zN ops k).testBit i=true->k∈pre->i∈pre){PO lO:List Nat}{e:Nat}{st:St}{G:Gh}{B:Nat->Nat}(h:SegI P pl ops O ro G0 mu0 w0 n Q Qp pre a w PO (e :: lO) st G B)(hk:ze pl ops e=2)(a3:e∈pre) :
  ∃ a8 G',SegI P pl ops O ro G0 mu0 w0 n Q Qp pre a w (PO++[e]) lO a8 G' B:=by
 have a1:e∈e :: lO:=qR ..;have ah:=K.disj h.split a1;have ai:e<ops.size:=K.lt e (by rw[h.split];simp);have C:=h.al e a1 a3;obtain⟨o,ty,d,zv,ho,a4,hd,hz,hp,U⟩:=C.x;have a9:zr ops e=some d:=by simp[zr,ho,hd]
 have I:=h.awp;simp only[plan,hk,awpT,ho]at I;rw[qcM (K.guards e o ho (by simp[wO,a4]))]at I;obtain⟨b,aa,I,_⟩:=I;have I:=I (by cases aa;rfl);simp only[a4]at I;simp only[qw]at I;obtain⟨z,aj,h1,ab,ad⟩:=I;have:z=ofV zv:=by
  grind
 subst this;have a5:O=(PO++[e])++lO:=by rw[h.split];simp
 have a6:=Rel.reveal (st:=yK pl ops PO (e :: lO) pre st) h.rel h1 hp U C.base C.nl C.ni;refine⟨st.put o.dst (.ptr st.mu.length 0) (st.mu++[.arr (ofV zv).cells]),⟨G.imm,G.blk++[(B e,zv.cells.size)]⟩,a5,ad,fun i g l=>?_,fun i g l=>?_,fun i o' d' g r J a2=>?_,fun i g r=>?_,fun i j g hj=>h.inj i j (qK _ g) (qK _ hj),?_⟩
 .rcases qC.1 g with g|g
  .exact h.s i g l
  grind
 .exact yA _ (h.d i g l)
 .have g:i∈PO:=by
   grind
  have l:ze pl ops i=0:=by
   by_cases hh:ze pl ops i=0
   .exact hh
   .exact absurd (h.s i g hh) r
  refine(SegI.keepDG K h.split g J ho a2 (h.p i o' d' g r J a2)).re (Ux J l) fun hm U=>?_
  refine Uw ab (i:=i) ?_ J a2 U;rw[zIn];refine jg.2 ⟨g,?_⟩
  grind [zN,absurd,Uv]
 .have ae:i≠e:=fun hh=>by
   subst hh;exact K.disj a5 g zSp
  have R:=h.al i (qK _ g) r;refine⟨R.x,R.base,fun hl=>?_,R.ni⟩;obtain⟨j,c,t,hc,af,a7⟩:=hl;have a0:=h.rel.stp.sim.len;have a0:G.blk.length=st.mu.length:=a0;rcases zy hc with ⟨q1,q2⟩|⟨q1,q2⟩
  .rcases zy a7 with ⟨_,q3⟩|⟨q3,_⟩
   .exact R.nl ⟨j,c,t,q2,af,q3⟩
   .omega
  .rcases zy a7 with ⟨q3,_⟩|⟨_,q3⟩
   .omega
   .exact h.inj i e (qK _ g) a1 r a3 ae (Prod.mk.inj q3).1
 .refine a6.weak rfl fun t=>?_
  by_cases U:behind pl ops (PO++[e]) lO pre t
  .exact .inl (Qr U)
  .right
   rw[jL U,hd];by_cases T:t=d
   .subst T;simp[St.put];rfl
   .rw [jb (fun h'=>T (by cases h';rfl)),jb (fun h'=>T (by cases h';rfl)),jL]
    rintro (⟨i,h1,h2,h3⟩|⟨i,h1,h2,h3⟩)
    .exact U (.inl ⟨i,yA _ h1,h2,h3⟩)
    .rcases qu.1 h1 with rfl|h1
     .rw [a9]at h3;cases h3;exact T rfl
     .exact U (.inr ⟨i,h1,h2,h3⟩)
theorem SegI.advs(K:vP pl ops O)(g:∀ i k,(zN ops k).testBit i=true->k∈pre->i∈pre){B:Nat->Nat}:∀(es j l:List Nat) (st:St) (G:Gh),SegI P pl ops O ro G0 mu0 w0 n Q Qp pre a w j (es++l) st G B->(∀ i,i∈es->ze pl ops i≠1/\(ze pl ops i=2->i∈pre)) ->
  ∃ p G',SegI P pl ops O ro G0 mu0 w0 n Q Qp pre a w (j++es) l p G' B
 | [],j,l,st,G,h,_=>⟨st,G,zUs h⟩
 |e :: es,j,l,st,G,h,r=>by
  obtain⟨c1,c2⟩:=r e (qR ..);rcases KQ pl ops e with o|o|o
  .obtain ⟨st1,t⟩:=SegI.advP K h o
   obtain⟨st2,I,J⟩:=SegI.advs K g es (j++[e]) l st1 G t fun i C=>r i (qK _ C)
   grind
  .exact absurd o c1
  .obtain ⟨st1,R,t⟩:=SegI.advA K g h o (c2 o)
   obtain⟨st2,I,J⟩:=SegI.advs K g es (j++[e]) l st1 R t fun i C=>r i (qK _ C)
   grind
end
end
section
variable {ops:Array wg}{P:qf}
theorem Stp.allocNone{G:Gh}{mu:Mu}{w:j2}(s:Sim G mu w.heap)(o:Obj):Stp G mu w G mu (w.alloc o):=by
 have g:=VV s o;refine⟨.refl G,⟨s.len,fun b j=>VQ (s.imm b j) g.size,?_,s.live,s.inj,s.tab.mono (fun _ h=>h) g.keep⟩,fun b j _=>wE w o b j,g.size,fun b h => .inl h,fun b h => .inl h,rfl,rfl,rfl,qn _⟩;intro i c l p r t C;obtain⟨I,P,J⟩:=s.obj i c l p r t C;exact⟨I,by grind [wE,zM],J.mono (.refl G) g⟩
theorem qcO{ro:Ro}{o:wg}{e:j1}(g:o.op = .alloc e){z:AV}(j:qx P e=some z){a:Act}{w:j2}{next:Act->j2->Prop}{Q:Exit->Act->j2->Prop}
  (h:∀ zv,z=ofV zv->next (a.put o.dst (.pointer (some ⟨w.heap.size,0,none⟩))) (w.alloc (.cells zv.cells e))):o.wpIn (WF ro) 0 P a w next Q:=by
 obtain⟨l,op,r,pos,after,guard⟩:=o;simp only at g h;subst g;refine⟨fun _ _=>trivial,?_⟩;rw[show (WF ro).round=ro.rd from rfl,Oper.semAt_eq _ _ _ (fun c e=>by cases e)];obtain⟨zv,i,p⟩:=wF j w;refine Kt ?_;have t:(newVar e zv).run P w = .ok ⟨w.heap.size,0,none⟩ (w.alloc (.cells zv.cells e)):=rfl;simp_all[execOp,Instr.alloc,qE,qG,Oper.upon]
theorem qcP{pl:Pol}{ro:Ro}{G0:Gh}{aa:Mu}{w0:j2}{n:Nat}(s0:Sim G0 aa w0.heap)(b8:(ops.toList.all fun o=>dOk n o.dst)=true)
  {Q:St->Prop} {Qp:AV->St->Prop} {QQ:Exit->Act->j2->Prop} (hQ:∀ st a w G,Q st->Rel ro G0 aa w0 n G st a w->QQ .normal a w)
  (bk:∀ v st a w G u,Qp v st->Rel ro G0 aa w0 n G st a w->VRel G w.heap v u->QQ (.panic [{ v:=u,recovered:=false }]) a w) {st:St} {a:Act} {w:j2} {G:Gh} (r:Rel ro G0 aa w0 n G st a w)
  (h:SegA P pl ops Q Qp st) (ab:Bool) (t:Nat):wpOpsIn (WF ro) 0 P ops QQ (Region.schedule ab ops t) a w:=by
 obtain⟨O,bm,b9,h⟩:=h;have K:=qcL bm;obtain⟨h1,h2⟩:=Ky K.edges ab t;obtain⟨h3,h4⟩:=Topo.closed K.edges _ _ rfl h1;have h3:=fun k hk=>(h3 k hk).1
 generalize Region.schedule ab ops t=L at *
 have bb:∀ i,i<ops.size->i∈L:=by
  intro i C;refine vD fun hn=>?_
  have bn:(i :: L).length<=(qo ops.size).length:=jR (jw.2 ⟨hn,h4⟩) (fun k hk=>by
   grind)
  simp at bn;omega
 have ay:∀(i:Nat) (o:wg) (e:j1),ops[i]?=some o->o.op = .alloc e->∃ z,qx P e=some z:=by
  have gen:∀(O pre:List Nat),vQ P ops (plan pl ops pre O)->∀ i,i∈O->∀(o:wg) (e:j1),ops[i]?=some o->o.op = .alloc e->∃ z,qx P e=some z:=by
   intro O;induction O with
   |nil=>grind
   |cons j O ih =>
    intro pre hn i C o e ho a9;simp only[plan,vQ]at hn;rcases qu.1 C with rfl|C
    .have hk:ze pl ops i=2:=by
      unfold ze;rw[ho];simp[ZP,wO,a9]
     have hn:=hn.1;rw[hk,ho]at hn;simp only[a9]at hn;obtain⟨z,hz,_⟩:=hn;exact⟨z,hz⟩
    grind
  exact fun i o e ho a9=>gen O [] b9 i (K.all i (zM.1 ho).1) o e ho a9
 have key:∀(post pre:List Nat) (a:Act) (w:j2) (G:Gh) (PO lO:List Nat) (ad:St) (B:Nat->Nat),L=pre++post->SegI P pl ops O ro G0 aa w0 n Q Qp pre a w PO lO ad G B->wpOpsIn (WF ro) 0 P ops QQ post a w:=by
  intro post;induction post with
  |nil =>
   intro pre a w G PO lO ad B hL I;rw[zL]at hL;subst hL;have az:∀ i,i<ops.size->i∈L:=bb;obtain⟨st2,G2,I2⟩:=SegI.advs K (fun i k hb hk=>h3 k hk |> fun _=>by
    have:=h1.bef K.edges hb;obtain⟨s,t,e⟩:=List.append_of_mem hk;have:=this s t e
    grind) lO PO [] ad G (by simpa using I) (fun i C=>by
    have bc:=K.lt i (by rw[I.split];simp[C]);refine⟨fun hk=>K.disj I.split C (I.d i (az i bc) zOm),fun _=>az i bc⟩)
   simp only[wpOpsIn];have hw:=I2.awp;simp only[plan,awpT]at hw;refine hQ st2 a w G2 hw (I2.rel.weak rfl fun t => .inr ?_);refine(jL ?_).symm;rintro (⟨i,q1,q2,q3⟩|⟨i,q1,_⟩)
   .exact q2 (az i (K.lt i (by rw[I2.split];simp;simpa using q1)))
   grind
  |cons k post ih =>
   intro pre a w G PO lO ad B hL I;have hk:k<ops.size:=h3 k (by rw[hL];simp);have cd:(pre++k :: post).Nodup:=by rw[<-hL];exact h4
   have b0:k ∉ pre:=fun hh=>by
    grind
   have ho:ops[k]?=some ops[k]:=zP1 hk;generalize cb:ops[k]=o at ho;have aj:dOk n o.dst=true:=qJ.1 b8 o (by grind);have bef:∀ i,(zN ops k).testBit i=true->i∈pre:=fun i C=>h1.bef K.edges C pre post hL
   have be:∀ i j,(zN ops j).testBit i=true->j∈pre->i∈pre:=fun i j hb hj=>by
    obtain⟨s,t,e⟩:=List.append_of_mem hj;have:=h1.bef K.edges hb s (t++k :: post) (by rw[hL,e];simp);rw[e];exact yA _ this
   have b1:L=(pre++[k])++post:=by rw[hL];simp
   have ae:zr ops k=o.dst:=by simp[zr,ho]
   have ak:∀(i:Nat) (d:Tmp),i<ops.size->i≠k->zr ops i=some d->∀ u,(a.put o.dst u).tmps.getD d va=a.tmps.getD d va:=fun i d C R hd u=>by
    cases bo:o.dst with
    |none=>rfl
    |some x =>
     have bq:x≠d:=fun e=>(K.du i k d C hk hd).1 R (by rw[ae,bo,e])
     simp only[Act.put,qB];rw[Array.getElem?_setIfInBounds_ne bq]
   have au:∀(T a0:List Nat),lO=T++a0->(∀ i,i∈T->ze pl ops i≠0->(zN ops k).testBit i=true)->∃ b2 G',SegI P pl ops O ro G0 aa w0 n Q Qp pre a w (PO++T) a0 b2 G' B:=fun T a0 e hm=>by
    subst e;refine SegI.advs K be T PO a0 ad G I fun i C=>⟨fun U=>?_,fun U=>bef i (hm i C zOm)⟩
    have:=I.d i (bef i (hm i C zOm)) zOm;exact K.disj I.split (yA _ C) this
   have av:∀(PO lO:List Nat) (G:Gh) (st:St),SegI P pl ops O ro G0 aa w0 n Q Qp pre a w PO lO st G B->(∀ i d,i<ops.size->zr ops i=some d->yJ ops k d=true->i∈PO)->∀ t,yJ ops k t=true->(yK pl ops PO lO pre st).tm t=st.tm t:=by
    intro PO lO G st I aw t ht;refine jL ?_;rintro (⟨i,q1,q2,q3⟩|⟨i,q1,q2,q3⟩)
    .exact q2 (bef i ((K.du i k t (K.lt i (by rw[I.split];simp[q1])) hk q3).2 ht))
    .exact K.disj I.split q1 (aw i t (K.lt i (by rw[I.split];simp[q1])) q3 ht)
   rcases KQ pl ops k with af|af|af
   ·
    have:∃ PO lO st G,k∈PO/\SegI P pl ops O ro G0 aa w0 n Q Qp pre a w PO lO st G B:=by
     by_cases a5:k∈PO
     .exact ⟨PO,lO,ad,G,a5,I⟩
     .have an:k∈lO:=by
       have:=K.all k hk;rw[I.split]at this;exact(qC.1 this).resolve_left a5
      obtain⟨T,a0,rfl⟩:=List.append_of_mem an;have bg:=(K.ord (PO++T) a0 k (by rw[I.split];simp)).2.2 zOm;obtain⟨b2,G',I'⟩:=au (T++[k]) a0 zSp fun i C U=>by
       rcases qC.1 C with C|C
       .exact bg i (List.mem_append_right _ C) U
       .rw [qN]at C;subst C;exact absurd af U
      exact⟨_,_,b2,G',zSp,I'⟩
    clear I au;obtain⟨PO,lO,st,G,a5,I⟩:=this;cases hd:o.dst with
    |none=>have:=K.dn k hk (by rw[ae,hd]);omega
    |some d =>
    have aw:∀ i d,i<ops.size->zr ops i=some d->yJ ops k d=true->i∈PO:=fun i d C br hr=>by
     obtain⟨s,t,hs⟩:=List.append_of_mem a5;have:=(K.ord s (t++lO) k (by rw[I.split,hs];simp)).2.1 i d C br hr;rw[hs];exact yA _ this
    obtain⟨b,hb,hT,hF⟩:=I.p k o d a5 b0 ho hd;have b3:zE ops (yK pl ops PO lO pre st) o=some b:=by
     rw[Ju fun t ht=>av PO lO G st I aw t (by simp only[yJ,ho];exact ht)];exact hb
    have a7:=Jn I.rel b3;have ao:∀(G':Gh) (w':j2) (u:j3),Stp G (yK pl ops PO lO pre st).mu w G' (yK pl ops PO lO pre st).mu w'->VRel G' w'.heap (st.tm d) u->wpOpsIn (WF ro) 0 P ops QQ post (a.put o.dst u) w':=by
     intro G' w' u a1 hv;refine ih (pre++[k]) _ _ G' PO lO st B b1 ?_;have aq:=I.rel.put s0 a1 hv aj;refine⟨I.split,I.awp,fun i C U=>yA _ (I.s i C U),fun i C U=>?_,fun i o' d' C J=>I.p i o' d' C (fun hh=>J (yA _ hh)),fun i C J=>?_,fun i j C hj J ai=>?_,?_⟩
     .rcases qC.1 C with C|C
      .exact I.d i C U
      .rw [qN]at C;subst C;exact a5
     .have R:i≠k:=fun e=>K.disj I.split C (e ▸ a5)
      have a4:i∈pre:=by
       rcases qC.1 J with h|h
       .exact h
       .rw [qN]at h;exact absurd h R
      exact(I.al i C a4).step a1 fun d' a3=>ak i d' (K.lt i (by rw[I.split];simp[C])) R a3 u
     .have R:∀ i,i∈lO->i∈pre++[k]->i∈pre:=fun i C J=>by
       rcases qC.1 J with h|h
       .exact h
       .rw [qN]at h
        subst h;exact absurd a5 (K.disj I.split C)
      exact I.inj i j C hj (R i C J) (R j hj ai)
     .refine aq.weak rfl fun t=>?_
      by_cases hb:behind pl ops PO lO (pre++[k]) t
      .exact .inl (Qr hb)
      .right
       rw[jL hb];by_cases a6:o.dst=some t
       .rw [hd]at a6;cases a6
        simp[St.put,hd]
       .rw [jb a6,jL]
        rintro (⟨i,q1,q2,q3⟩|q)
        .refine hb (.inl ⟨i,q1,fun hh=>?_,q3⟩)
         rcases qC.1 hh with hh|hh
         .exact q2 hh
         .rw [qN]at hh;subst hh;exact a6 (by rw[<-ae];exact q3)
        .exact hb (.inr q)
    simp only[wpOpsIn,ho,a7];cases b with
    |false =>
     rw[if_neg zSp];exact⟨fun _ _=>trivial,ao G w va (Stp.refl I.rel.stp.sim) (by rw[hF rfl];exact .sc _ rfl)⟩
    |true =>
    have bs:=hT rfl;rw[if_pos rfl];have bh:DS P pl o (yK pl ops PO lO pre st).ev (yK pl ops PO lO pre st).mu (st.tm d) (yK pl ops PO lO pre st).mu:=bs.congr fun x hx=>by
     cases x with
     |tmp t =>
      show st.tm t=(yK pl ops PO lO pre st).tm t;exact(av PO lO G st I aw t (Jv ho hx)).symm
     |const v=>rfl
     |global g=>rfl
     |func f=>rfl
    refine Jm I.rel.stp.sim I.rel.ev bh ?_ ?_
    .rintro v' l G' w' u ⟨rfl,rfl⟩ a1 hv
     exact ao G' w' u a1 hv
    .intro _ _ _ _ _ hh;exact hh.elim
   ·
    have a5:k ∉ PO:=fun hh=>b0 (I.s k hh zOm)
    have an:k∈lO:=by
     have:=K.all k hk;rw[I.split]at this;exact(qC.1 this).resolve_left a5
    obtain⟨T,a0,rfl⟩:=List.append_of_mem an;have ag:=K.ord (PO++T) a0 k (by rw[I.split];simp);obtain⟨st,G,I⟩:=au T (k :: a0) rfl fun i C U=>ag.2.2 zOm i (List.mem_append_right _ C) U
    clear au;generalize cf:PO++T=a2 at *
    have hw:=I.awp;simp only[plan,af,awpT,ho]at hw;obtain⟨b,hb,hw,bt⟩:=hw;have b3:zE ops (yK pl ops a2 (k :: a0) pre st) o=some b:=by
     rw[Ju fun t ht=>av a2 (k :: a0) G st I ag.2.1 t (by simp only[yJ,ho];exact ht)];exact hb
    have a7:=Jn I.rel b3;have ao:∀(v:AV) (m:Mu) (G':Gh) (w':j2) (u:j3),awpT P pl ops Q Qp (plan pl ops (a2++[k]) a0) (st.put o.dst v m)->(∀ i o' d',i∈a2->i ∉ pre->ze pl ops i=0->ops[i]?=some o'->o'.dst=some d'->DG P pl ops o' (st.put o.dst v m) d' m) ->
      Stp G st.mu w G' m w'->VRel G' w'.heap v u->wpOpsIn (WF ro) 0 P ops QQ post (a.put o.dst u) w':=by
     intro v m G' w' u b4 bu a1 hv;refine ih (pre++[k]) _ _ G' (a2++[k]) a0 (st.put o.dst v m) B b1 ?_;have aq:=I.rel.put s0 a1 hv aj;have b5:O=(a2++[k])++a0:=by rw[I.split];simp
     refine⟨b5,b4,fun i C U=>?_,fun i C U=>?_,fun i o' d' C J a8 a3=>?_,fun i C J=>?_,fun i j C hj J ai=>?_,?_⟩
     .rcases qC.1 C with C|C
      .exact yA _ (I.s i C U)
      .exact List.mem_append_right _ C
     .rcases qC.1 C with C|C
      .exact yA _ (I.d i C U)
      .exact List.mem_append_right _ C
     .have a4:i ∉ pre:=fun hh=>J (yA _ hh)
      have bi:i∈a2:=by
       rcases qC.1 C with C|C
       .exact C
       .exact absurd (List.mem_append_right _ C) J
      have U:ze pl ops i=0:=by
       by_cases hh:ze pl ops i=0
       .exact hh
       .exact absurd (I.s i bi hh) a4
      exact bu i o' d' bi a4 U a8 a3
     .have R:i≠k:=fun e=>by
       subst e;exact K.disj b5 C zSp
      have a4:i∈pre:=by
       rcases qC.1 J with h|h
       .exact h
       .rw [qN]at h;exact absurd h R
      exact(I.al i (qK _ C) a4).step a1 fun d' a3=>ak i d' (K.lt i (by rw[I.split];simp[C])) R a3 u
     .have R:∀ i,i∈a0->i∈pre++[k]->i∈pre:=fun i C J=>by
       rcases qC.1 J with h|h
       .exact h
       .rw [qN]at h
        subst h;exact absurd (show i∈a2++[i] by simp) (K.disj b5 C)
      exact I.inj i j (qK _ C) (qK _ hj) (R i C J) (R j hj ai)
     .refine aq.weak rfl fun t=>?_
      by_cases hb:behind pl ops (a2++[k]) a0 (pre++[k]) t
      .exact .inl (Qr hb)
      .right
       rw[jL hb];by_cases a6:o.dst=some t
       .simp [St.put,a6]
       .rw [jb a6,jb a6,jL]
        rintro (⟨i,q1,q2,q3⟩|⟨i,q1,q2,q3⟩)
        .refine hb (.inl ⟨i,yA _ q1,fun hh=>?_,q3⟩)
         rcases qC.1 hh with hh|hh
         .exact q2 hh
         .rw [qN]at hh;subst hh;exact a6 (by rw[<-ae];exact q3)
        .rcases qu.1 q1 with rfl|q1
         .omega
         .exact hb (.inr ⟨i,q1,q2,q3⟩)
    simp only[wpOpsIn,ho,a7];cases b with
    |false =>
     rw[if_neg zSp];exact⟨fun _ _=>trivial,ao (.sc va) st.mu G w va (bt rfl) (fun i o' d' C J U a8 a3=>SegI.keepDG K I.split C a8 ho a3 (I.p i o' d' C J a8 a3)) (Stp.refl I.rel.stp.sim) (.sc _ rfl)⟩
    |true =>
    rw[if_pos rfl];have hw:qw P pl false o.dst o.op st.ev st.mu (fun v m=>jV P pl ops (if 1=0 then [] else pend pl ops a2 k) (st.put o.dst v m)/\awpT P pl ops Q Qp (plan pl ops (a2++[k]) a0) (st.put o.dst v m)) (fun v m=>True/\∀ tm,Qp v ⟨tm,m⟩):=hw rfl;have bv:=hw.congr (ev':=(yK pl ops a2 (k :: a0) pre st).ev) (fun x hx=>by
     cases x with
     |tmp t=>exact(av a2 (k :: a0) G st I ag.2.1 t (Jv ho hx)).symm
     |const v=>rfl
     |global g=>rfl
     |func f=>rfl)
    have cc:k∈k :: a0:=qR ..;refine Jm (mu:=(yK pl ops a2 (k :: a0) pre st).mu) I.rel.stp.sim I.rel.ev bv ?_ ?_
    .rintro v m G' w' u ⟨bj,b4⟩ a1 hv
     rw[if_neg zDe]at bj;refine ao v m G' w' u b4 (fun i o' d' C J U a8 a3=>?_) a1 hv;refine(SegI.keepDG K I.split C a8 ho a3 (I.p i o' d' C J a8 a3)).re (Ux a8 U) fun hm hb=>?_
     refine Uw bj (i:=i) (jg.2 ⟨C,?_⟩) a8 a3 hb;have b6:(zN ops k).testBit i=false:=by
      cases hq:(zN ops k).testBit i with
      |false=>rfl
      |true=>exact absurd (bef i hq) J
     simp[U,Uv,a8,hm,b6]
    .rintro v m G' w' u ⟨_,hp⟩ a1 hv
     refine bk v ⟨(yK pl ops a2 (k :: a0) pre st).tm,m⟩ a w' G' u (hp _) ?_ hv;exact I.rel.put (d:=none) s0 a1 (.any va) rfl
   ·
    have a5:k ∉ PO:=fun hh=>b0 (I.s k hh zOm)
    have an:k∈lO:=by
     have:=K.all k hk;rw[I.split]at this;exact(qC.1 this).resolve_left a5
    obtain⟨ty,a9⟩:=qcN ho af;obtain⟨z,hz⟩:=ay k o ty ho a9;cases hd:o.dst with
    |none=>have:=K.dn k hk (by rw[ae,hd]);omega
    |some d =>
    have a7:Region.wanted o (yielded ops a.tmps)=true:=by unfold Region.wanted;rw[K.guards k o ho (by simp[wO,a9])]
    simp only[wpOpsIn,ho,a7,if_true];refine qcO a9 hz fun zv bw=>?_
    subst bw;have a1:=Stp.allocNone I.rel.stp.sim (.cells zv.cells ty);have aq:=I.rel.put (v := .any) (u := .pointer (some ⟨w.heap.size,0,none⟩)) (d:=o.dst) s0 a1 (.any _) aj;refine ih (pre++[k]) _ _ G PO lO ad (fun i=>if i=k then w.heap.size else B i) b1 ?_;refine⟨I.split,I.awp,fun i C U=>yA _ (I.s i C U),fun i C U=>?_,fun i o' d' C J=>I.p i o' d' C (fun hh=>J (yA _ hh)),fun i C J=>?_,fun i j C hj J ai b7=>?_,?_⟩
    .rcases qC.1 C with C|C
     .exact I.d i C U
     .rw [qN]at C;subst C;exact absurd af U
    .by_cases R:i=k
     .subst R
      rw[if_pos rfl];refine⟨⟨o,ty,d,zv,ho,a9,hd,hz,?_,YR w _⟩,I.rel.stp.size,fun hl=>?_,fun C=>?_⟩
      .rw [hd]
       have ca:d<n:=by rw[hd]at aj;simpa[dOk] using aj
       have:d<a.tmps.size:=by rw[I.rel.size];exact ca
       simp[Act.put,qB,this]
      .have:=I.rel.stp.sim.livesize hl;omega
      .have:=I.rel.stp.sim.imm _ C;omega
     .rw [if_neg R]
      have a4:i∈pre:=by
       rcases qC.1 J with h|h
       .exact h
       .rw [qN]at h;exact absurd h R
      exact(I.al i C a4).step a1 fun d' a3=>ak i d' (K.lt i (by rw[I.split];simp[C])) R a3 _
    .have ah:∀ i,i∈pre++[k]->i≠k->i∈pre:=fun i J R=>by
      rcases qC.1 J with h|h
      .exact h
      .rw [qN]at h;exact absurd h R
     by_cases R:i=k
     .rw [if_pos R,if_neg (fun e=>b7 (R.trans e.symm))]
      have ar:j≠k:=fun e=>b7 (R.trans e.symm)
      have:=(I.al j hj (ah j ai ar)).lt;omega
     .rw [if_neg R]
      by_cases ar:j=k
      .rw [if_pos ar]
       have:=(I.al i C (ah i J R)).lt;omega
      .rw [if_neg ar]
       exact I.inj i j C hj (ah i J R) (ah j ai ar) b7
    .refine aq.weak rfl fun t=>?_
     by_cases hb:behind pl ops PO lO (pre++[k]) t
     .exact .inl (Qr hb)
     .right
      rw[jL hb];have a6:o.dst≠some t:=fun e=>hb (.inr ⟨k,an,af,by rw[ae];exact e⟩)
      rw[jb a6,jL];rintro (⟨i,q1,q2,q3⟩|q)
      .refine hb (.inl ⟨i,q1,fun hh=>?_,q3⟩)
       rcases qC.1 hh with hh|hh
       .exact q2 hh
       .rw [qN]at hh;subst hh;exact a6 (by rw[<-ae];exact q3)
      .exact hb (.inr q)
 refine key L [] a w G [] O st (fun _=>0) zSp ⟨rfl,h,fun i C=>absurd C qD,fun i C=>absurd C qD,fun i o d C=>absurd C qD,fun i _ C=>absurd C qD,fun i j _ _ C=>absurd C qD,?_⟩;refine r.weak rfl fun t=>?_
 grind [behind,Qr,jL]
def Jw(P:qf)(pl:Pol)(ops:Array wg)(Q:St->Prop)(g:AV->St->Prop)(st:St):Prop:=KO P pl ops Q g st\/SegA P pl ops Q g st
theorem qcQ{pl:Pol}{ro:Ro}{C:Gh}{i:Mu}{I:j2}{n:Nat}(J:Sim C i I.heap)(j:(ops.toList.all fun o=>dOk n o.dst)=true)
  {Q:St->Prop} {R:AV->St->Prop} {QQ:Exit->Act->j2->Prop} (T:∀ st a w G,Q st->Rel ro C i I n G st a w->QQ .normal a w)
  (p:∀ v st a w G u,R v st->Rel ro C i I n G st a w->VRel G w.heap v u->QQ (.panic [{ v:=u,recovered:=false }]) a w) {st:St} {a:Act} {w:j2} {G:Gh} (r:Rel ro C i I n G st a w)
  (h:Jw P pl ops Q R st) (g:Bool) (t:Nat):wpOpsIn (WF ro) 0 P ops QQ (Region.schedule g ops t) a w:=by
 rcases h with h|h
 .exact qcJ J j T p r h g t
 .exact qcP J j T p r h g t
end
end Go.Ev
namespace Go.Ev
open Go Go.RowKit
section
variable {c:vn}
inductive qM where
 |normal
 |exit (id:Nat)
 |ret
 |pan (v:AV)
def seqQ(n:St->Prop)(Q:qM->St->Prop):qM->St->Prop
 | .normal,st=>n st
 |e,st=>Q e st
def jW(id:Nat)(Q:qM->St->Prop):qM->St->Prop
 | .exit i,st=>if i=id then Q .normal st else Q (.exit i) st
 |e,st=>Q e st
def uA(I:Nat->St->Prop)(n:Nat)(Q:qM->St->Prop):qM->St->Prop
 | .normal,st=>∃ m,m<n/\I m st
 |e,st=>Q e st
def Frz(st g:St):Prop:=∃ give,g.mu=cutM (fun i=>!give i) st.mu 0/\∀ i,Gv st.mu give (st.tm i) (g.tm i)
inductive Fz:St->St->Prop where
 |refl (st:St):Fz st st
 |step {a b c:St} (f:Frz a b) (k:Fz b c):Fz a c
def FzQ(Q:qM->St->Prop)(e:qM)(st:St):Prop:=∃ g,Frz st g/\(match e with | .pan _=>g=st|_=>True)/\Q e g
def fzQ:Bool->(qM->St->Prop)->qM->St->Prop
 |true,Q=>FzQ Q
 |false,Q=>Q
def Stb(I:Mu->Prop):Prop:=∀ g,I g->I (g++[.dead])
def Yld(P:qf)(i:Nat)(rows:List (List AV))(I:Nat->Mu->Prop)(j:Mu->Prop):Prop:=
 ∀ k x g,rows[k]?=some x->I k g->u9 P i x g fun b l=>(b=true/\I (k+1) l)\/(b=false/\j l)
def jl(P:qf)(f:us)(caps:List AV)(rows:List (List AV)):Prop:=yd P f /\
 ∀(i:Nat) (I:Nat->Mu->Prop) (g:Mu->Prop),(∀ k,Stb (I k))->Stb g->Yld P i rows I g->∀ j,I 0 j ->
  qL P f (.yl i :: caps) j fun e l=>∃ r,e = .ret r/\(I rows.length l\/g l)
def Uy(P:qf)(f:us)(caps:List AV)(rows:List (List AV)):Prop:=yd P f /\
 ∀(i:Nat) (I:Nat->Mu->Prop) (g:Mu->Prop),Yld P i rows I g->∀ j,I 0 j ->
  qL P f (.yl i :: caps) j fun e l=>∃ r,e = .ret r/\(I rows.length l\/g l)
def KR(P:qf)(f:us)(caps:List AV)(rows:List (List AV))(I:Nat->Mu->Prop)(g:qM->Mu->Prop):Prop:=(jl P f caps rows/\(∀ k,Stb (I k))/\∀ e,Stb (g e))\/Uy P f caps rows
def vh(j:Nat->AV):List Tmp->List AV->(Nat->AV)
 |t :: J,x :: g=>vh (fun i=>if i=t then x else j i) J g
 |_,_=>j
def asQ(n:St->Prop):qM->St->Prop
 | .normal,st=>n st
 |_,_=>False
def rndQ(I:Nat->Mu->Prop)(g:qM->Mu->Prop)(k:Nat):qM->St->Prop
 | .normal,st=>I (k+1) st.mu
 | .pan _,_=>False
 |e,st=>g e st.mu
def awp(P:qf)(pl:Pol):vn->(qM->St->Prop)->St->Prop
 | .skip,Q,st=>Q .normal st
 | .label _,Q,st=>Q .normal st
 | .region _ R l,Q,st=>(l=false/\awpS P pl false R R.toList (Q .normal) (fun v st=>Q (.pan v) st) st)\/(l=true/\∃ j,Fz st j/\Jw P pl R (Q .normal) (fun v st=>Q (.pan v) st) j)
 | .seq a b,Q,st=>awp P pl a (seqQ (awp P pl b Q) Q) st
 | .cond c a b,Q,st=>∃ t,st.ev c = .sc (.bool t)/\Br t (awp P pl a Q st) (awp P pl b Q st)
 | .block id i,Q,st=>awp P pl i (jW id Q) st
 | .loop i,Q,st=>∃(z:Bool) (I:Nat->St->Prop) (n:Nat) (j:St),Fz st j/\I n j/\∀ n st,I n st->awp P pl i (uA I n (fzQ z Q)) st
 | .exit id,Q,st=>Q (.exit id) st
 | .ret,Q,st=>Q .ret st
 | .scope i,Q,st=>awp P pl i Q st
 | .rangeFunc g J r i,Q,st=>∃(z:Bool) (T:us) (o:List AV) (rows:List (List AV)) (I:Nat->Mu->Prop) (C:qM->Mu->Prop),
   st.ev g = .fn (.func T) [] o/\KR P T o rows I C/\I 0 (st.mu++[.dead]) /\
   (∀ k x p,rows[k]?=some x->I k p->x.length=J.size/\awp P pl r (asQ (fun st=>awp P pl i (rndQ I C k) st)) ⟨vh st.tm J.toList x,p⟩) /\
   (∀ p,I rows.length p->fzQ z Q .normal ⟨st.tm,p⟩)/\(∀ e p,C e p->fzQ z Q e ⟨st.tm,p⟩)
 |_,_,_=>False
def noRF:vn->Bool
 | .seq a b=>noRF a&&noRF b
 | .cond _ a b=>noRF a&&noRF b
 | .block _ b=>noRF b
 | .loop b=>noRF b
 | .scope b=>noRF b
 | .rangeFunc .. => false
 |_=>true
def dOkC(n:Nat):vn->Bool
 | .region _ R _=>R.toList.all fun o=>dOk n o.dst
 | .seq a b=>dOkC n a&&dOkC n b
 | .cond _ a b=>dOkC n a&&dOkC n b
 | .block _ b=>dOkC n b
 | .loop b=>dOkC n b
 | .scope b=>dOkC n b
 | .rangeFunc _ i g b=>(i.toList.all fun t=>decide (t<n))&&dOkC n g&&dOkC n b&&noRF g&&noRF b
 |_=>true
def ERel(G:Gh)(w:j2):qM->Exit->Prop
 | .normal,.normal=>True
 | .exit i,.exit j=>i=j
 | .ret,.ret=>True
 | .pan x,.panic chain=>∃ v,chain=[{ v,recovered:=false }]/\VRel G w.heap x v
 |_,_=>False
def Fit(ro:Ro)(j:Gh)(g:Mu)(l:j2)(n:Nat)(Q:qM->St->Prop)(QQ:Exit->Act->j2->Prop):Prop:=
 ∀ i e st a w G,Q i st->Rel ro j g l n G st a w->ERel G w i e->QQ e a w
theorem Rel.frz{ro:Ro}{l:Gh}{g:Mu}{o:j2}{n:Nat}{G:Gh}{st j:St}{a:Act}{w:j2}(C:Sim l g o.heap)(r:Rel ro l g o n G st a w)(f:Frz st j):∃ G',Rel ro l g o n G' j a w:=by
 obtain⟨give,t,I⟩:=f;refine⟨Go.Ev.frz G give st.mu,fun i=>(I i).sound r.stp.sim (r.tm i),?_,r.size,?_,fun p J=>(u6 r.stp.sim give).vrel r.stp.sim (r.kp p J)⟩
 .intro h
  have:=(r.df h).step (u6 r.stp.sim give);rw[t];exact this
 rw[t];exact r.stp.trans C (u6 r.stp.sim give)
theorem Rel.fz{ro:Ro}{j:Gh}{g:Mu}{l:j2}{n:Nat}{G:Gh}{st i:St}{a:Act}{w:j2}(o:Sim j g l.heap)(r:Rel ro j g l n G st a w)(f:Fz st i):∃ G',Rel ro j g l n G' i a w:=by
 induction f generalizing G with
 |refl st=>exact⟨G,r⟩
 |step f k p =>
  obtain⟨C,t⟩:=r.frz o f;exact p t
theorem Fit.fz{ro:Ro}{t:Gh}{g:Mu}{C:j2}{n:Nat}{Q:qM->St->Prop}{QQ:Exit->Act->j2->Prop}(I:Sim t g C.heap)(h:Fit ro t g C n Q QQ)(z:Bool):Fit ro t g C n (fzQ z Q) QQ:=by
 cases z with
 |false=>exact h
 |true =>
  intro P e st a w G j r p;obtain⟨R,f,J,j⟩:=j;cases P with
  |pan v =>
   simp only at J;subst J;exact h _ e _ a w G j r p
  |normal =>
   obtain⟨l,o⟩:=r.frz I f;exact h _ e _ a w l j o (by cases e<;>exact p)
  |ret =>
   obtain⟨l,o⟩:=r.frz I f;exact h _ e _ a w l j o (by cases e<;>exact p)
  |exit i =>
   obtain⟨l,o⟩:=r.frz I f;exact h _ e _ a w l j o (by cases e<;>exact p)
section
variable {F:Fence} {rm:Nat} {P:qf} {b:Frame} {a:Act} {k:List Item} {cs:List Frame} {w:j2} {Q:Exit->Act->j2->Prop}
theorem Qs:step P (lone (b.atR a (.code (.scope c) :: k)) cs w) = .next (lone (b.atR a (.code c :: .inScope c :: k)) cs w):=
 step_lone_go (by simp[stepG,stepG.exec,Frame.atR])
theorem qcR:step P (lone (b.atR a (.inScope c :: k)) cs w) = .next (lone (b.atR a k) cs w):=
 step_lone_go (by simp[stepG,stepG.exec,Frame.atR])
theorem qcS(h:c.wpIn F rm P (Exit.noGoto Q) a w):(Code.scope c).wpIn F rm P Q a w:=by
 intro b k cs t C I;have o:(lone (b.atR a (.code (.scope c) :: k)) cs w).fenced P F:=fenced_calm C I rfl;obtain⟨e,i,j,p,g⟩:=h b (.inScope c :: k) cs t C I;cases e with
 |normal=>exact⟨.normal,i,j,p,.head o Qs (StepsIn.trans g (.one (fenced_calm C I rfl) qcR))⟩
 |exit id=>exact⟨.exit id,i,j,p,fun T J => .head o Qs (g.1 T (by simp[exitTo,J])),
   fun R J=>let ⟨r,U,h2⟩:=g.2 R (by simp[exitTo,J]);⟨r,U,.head o Qs h2⟩⟩
 |goto l=>exact p.elim
 |ret=>exact⟨_,i,j,p,.of_steps (.one o Qs) g⟩
 |panic ch=>exact⟨_,i,j,p,.of_steps (.one o Qs) g⟩
 |outgrown=>exact⟨_,i,j,p,.of_steps (.one o Qs) g⟩
end
end
section
variable {R:AEnd->Mu->Prop}{r:AV}{a:Act}{c:vn}{f:us}{G:Gh}{args:List AV}{mu:Mu}{pl:Pol}{P:qf}{w:j2}
def Uz(P:qf)(pl:Pol)(n:Nat)(c:vn):Prop:=∀{ro:Ro} {i:Gh} {g:Mu} {j:j2} (_:Sim i g j.heap) (Q:qM->St->Prop) (l:Exit->Act->j2->Prop) (st:St) (a:Act) (w:j2) (G:Gh),
  Fit ro i g j n Q l->Rel ro i g j n G st a w->dOkC n c=true->((ro.rd=none/\ro.mks=true)\/noRF c=true)->awp P pl c Q st->c.wpIn (WF ro) 0 P l a w
def ZR:qM->Option vn
 | .ret=>some .ret
 | .exit id=>some (.exit id)
 |_=>none
def JJ(n:Nat)(ps:Array Tmp)(j body:vn)(p:Nat->AV)(o:Nat)(I:Nat->Mu->Prop)(k:Nat)(M:Mu):Prop:=
 ∃ fn tmps d,M[o]?=some (.lp { state := .ready,pending:=none,fn,tmps,params:=ps,assign:=j,body,defers:=d } p)/\tmps.size=n/\I k (M.set o .dead)
def JX(ps:Array Tmp)(j body:vn)(p:Nat->AV)(o:Nat)(r:qM->Mu->Prop)(M:Mu):Prop:=
 ∃ fn tmps d e c,M[o]?=some (.lp { state := .done,pending:=some c,fn,tmps,params:=ps,assign:=j,body,defers:=d } p)/\ZR e=some c/\r e (M.set o .dead)
theorem KS{h:Array Obj}:∀(ts:List Tmp) (xs:List AV) (j:List j3) (o:Nat->AV) (g:Array j3),xs.length=ts.length->j.length=ts.length ->
  (∀(k:Nat) x,xs[k]?=some x->VRel G h x (j.getD k va))->(∀ i,VRel G h (o i) (g.getD i va))->(∀ t,t∈ts->t<g.size) ->
  (∀ i,VRel G h (vh o ts xs i) (((ts.zip j).foldl (fun g (x:Tmp×j3)=>g.setIfInBounds x.1 x.2) g).getD i va))/\((ts.zip j).foldl (fun g (x:Tmp×j3)=>g.setIfInBounds x.1 x.2) g).size=g.size
 | [],xs,j,o,g,_,_,_,p,_=>by
  refine⟨?_,rfl⟩;cases xs<;>exact p
 |t :: ts,x :: xs,v :: j,o,g,r,l,C,p,I=>by
  have hv:VRel G h x v:=by simpa using C 0 x rfl
  obtain⟨J,P⟩:=KS ts xs j (fun i=>if i=t then x else o i) (g.setIfInBounds t v) (zUs r) (zUs l) (fun k y R=>by simpa using C (k+1) y (zUs R)) (fun i=>by
   by_cases T:i=t
   .simp_all
   .rw [if_neg T]
    have:(g.setIfInBounds t v).getD i va=g.getD i va:=by
     simp only[qB]
     grind
    rw[this];exact p i) (fun s U=>by simpa using I s (zP1 U))
  exact⟨J,zUs P⟩
 |_ :: _,[],_,_,_,r,_,_,_,_=>by simp at r
 |_ :: _,_ :: _,[],_,_,_,l,_,_,_=>by simp at l
theorem KT{n:Nat}{ps:Array Tmp}{C body:vn}{rows:List (List AV)}{I:Nat->Mu->Prop}{Ix:qM->Mu->Prop}{tm:Nat->AV}{R:Nat}
  (h1:Uz P pl n C) (h2:Uz P pl n body) (al:dOkC n C=true) (an:dOkC n body=true) (ao:noRF C=true) (aq:noRF body=true) (ar:∀ t,t∈ps.toList->t<n)
  (a3:∀ k x mu,rows[k]?=some x->I k mu->x.length=ps.size/\awp P pl C (asQ (fun st=>awp P pl body (rndQ I Ix k) st)) ⟨vh tm ps.toList x,mu⟩) :
  Yld P R rows (JJ n ps C body tm R I) (JX ps C body tm R Ix):=by
 rintro k x M hx ⟨fn,tmps,d,hM,af,hI⟩ G w vs s ra l a0 hb;obtain⟨o,ho,au⟩:=s.obj R _ l a0 hM zSp hb;obtain⟨rfl,aa⟩:=au;obtain⟨a8,ag⟩:=a3 k x _ hx hI;have ah:vs.size=ps.size:=by rw[ra.1,a8]
 refine⟨_,_,_,_,run_yield ho ah,?_⟩;refine roundIn_of_wpIn (F:=Fence.wide) trivial ?_;simp only;have av:(ps.zip vs).foldl (fun tmps (x:Tmp×j3)=>tmps.setIfInBounds x.1 x.2) tmps=(ps.toList.zip vs.toList).foldl (fun tmps (x:Tmp×j3)=>tmps.setIfInBounds x.1 x.2) tmps:=by
  rw[<-Array.foldl_toList,Array.toList_zip]
 have b4:=KS (G:=G) (h:=w.heap) ps.toList x vs.toList tm tmps (zUs a8) (zUs ah) (fun k y hy=>by simpa[qB,q8] using ra.2 k y hy) aa (fun t ht=>by rw[af];exact ar t ht);refine h1 (ro:=Ro.round l) (s.hid R) _ _ ⟨vh tm ps.toList x,M.set R .dead⟩ _ w G ?_ ⟨?_,fun h=>absurd h (by simp[Ro.round]),?_,Stp.refl (s.hid R),fun p hp=>by simp[Ro.round]at hp⟩ al (.inr ao) ag
 rotate_left
 .grind
 .grind
 intro ae e st1 a1 w1 G1 hq r1 he;cases ae with
 |normal =>
  cases e<;>simp only[ERel]at he
  obtain⟨aw,ax,T1⟩:=r1.stp.unhid s hM zSp hb;have ai:w1.heap[l]?=some (.loop { state := .ready,pending:=none,fn,tmps,params:=ps,assign:=C,body,defers:=d }):=by rw[ax];exact ho
  refine⟨_,run_beginRound ai rfl,?_⟩;simp only;have aj:R<st1.mu.length:=(qe.1 aw).1;have ab:G1.blk[R]?=some (l,a0):=r1.stp.le.blk _ _ hb;have ak:l<w1.heap.size:=(zM.1 ai).1;have W1:=Stp.write (w:=w1) (w':=w1.putObj l (.loop { state := .busy,pending:=none,fn,tmps,params:=ps,assign:=C,body,defers:=d })) T1.sim R _
   (.lp { state := .busy,pending:=none,fn,tmps,params:=ps,assign:=C,body,defers:=d } tm) l a0 _ (zo aj) zSp zSp ab zSp (World.putObj_heap_same ak)
   (fun b ad=>vJ ad) rfl rfl rfl ⟨rfl,fun i=>((aa i).mono r1.stp.le (r1.stp.ext (s.hid R)))⟩
  simp only[List.set_set]at W1;have a9:∀ c:Cell,(st1.mu.set R c).set R .dead=st1.mu:=by
   intro c;rw[List.set_set];apply jx
   grind
  have s1:=W1.sim.hid R;rw[a9]at s1;refine h2 (ro:=Ro.round l) s1 _ _ st1 a1 _ G1 ?_ ⟨fun i=>(r1.tm i).mono (.refl G1) (W1.ext T1.sim),fun h=>absurd h (by simp[Ro.round]),r1.size,Stp.refl s1,fun p hp=>by simp[Ro.round]at hp⟩ an (.inr aq) hq;intro ay e2 st2 a2 w2 G2 a4 r2 a5;have az:Stp G1 ((st1.mu.set R (.lp { state := .busy,pending:=none,fn,tmps,params:=ps,assign:=C,body,defers:=d } tm)).set R .dead) (w1.putObj l (.loop { state := .busy,pending:=none,fn,tmps,params:=ps,assign:=C,body,defers:=d })) G2 st2.mu w2:=by
   rw[a9];exact r2.stp
  obtain⟨b0,b1,T2⟩:=az.unhid W1.sim (zo aj) zSp ab;have a6:w2.heap[l]?=some (.loop { state := .busy,pending:=none,fn,tmps,params:=ps,assign:=C,body,defers:=d }):=by rw[b1];exact World.putObj_heap_same ak
  have a7:R<st2.mu.length:=(qe.1 b0).1;have b2:G2.blk[R]?=some (l,a0):=T2.le.blk _ _ ab;have b3:l<w2.heap.size:=(zM.1 a6).1;have T:Stp G M w G2 (st2.mu.set R (.lp { state := .busy,pending:=none,fn,tmps,params:=ps,assign:=C,body,defers:=d } tm)) w2:=(T1.trans s W1).trans s T2;have U:∀ c:Cell,(st2.mu.set R c).set R .dead=st2.mu:=by
   intro c;rw[List.set_set];apply jx
   grind
  have fin:∀(J:Option vn),Stp G M w G2 (st2.mu.set R (.lp { state:=if J.isNone then .ready else .done,pending:=J,fn,tmps,params:=ps,assign:=C,body,defers:=d } tm))
    (w2.putObj l (.loop { state:=if J.isNone then .ready else .done,pending:=J,fn,tmps,params:=ps,assign:=C,body,defers:=d })):=by
   intro J;have W2:=Stp.write (w:=w2) (w':=w2.putObj l (.loop { state:=if J.isNone then .ready else .done,pending:=J,fn,tmps,params:=ps,assign:=C,body,defers:=d })) T2.sim R _
    (.lp { state:=if J.isNone then .ready else .done,pending:=J,fn,tmps,params:=ps,assign:=C,body,defers:=d } tm) l a0 _ (zo a7) zSp zSp b2 zSp (World.putObj_heap_same b3)
    (fun b ad=>vJ ad) rfl rfl rfl ⟨rfl,fun i=>((aa i).mono T.le (T.ext s))⟩
   simp only[List.set_set]at W2;exact T.trans s W2
  cases ay with
  |normal =>
   cases e2<;>simp only[ERel]at a5
   refine⟨_,_,run_endRound none a6,true,G2,_,rfl,fin none,.inl ⟨rfl,fn,tmps,d,zo a7,af,?_⟩⟩;rw[U];exact a4
  |ret =>
   cases e2<;>simp only[ERel]at a5
   refine⟨_,_,run_endRound (some .ret) a6,false,G2,_,rfl,fin (some .ret),.inr ⟨rfl,fn,tmps,d,.ret,.ret,zo a7,rfl,?_⟩⟩;rw[U];exact a4
  |exit id =>
   cases e2<;>simp only[ERel]at a5
   subst a5;refine⟨_,_,run_endRound (some (.exit id)) a6,false,G2,_,rfl,fin (some (.exit id)),.inr ⟨rfl,fn,tmps,d,.exit id,.exit id,zo a7,rfl,?_⟩⟩;rw[U];exact a4
  |pan v=>exact a4.elim
 |ret=>exact hq.elim
 |exit id=>exact hq.elim
 |pan v=>exact hq.elim
theorem UA{n:Nat}:∀(c:vn),Uz P pl n c:=by
  intro c;induction c with
  |skip=>intro ro G0 U w0 s0 Q QQ st a w G hf r _ _ h;exact wpIn_skip (hf .normal .normal st a w G h r trivial)
  |label l=>intro ro G0 U w0 s0 Q QQ st a w G hf r _ _ h;exact wpIn_label (hf .normal .normal st a w G h r trivial)
  |exit id=>intro ro G0 U w0 s0 Q QQ st a w G hf r _ _ h;exact wpIn_exit (hf (.exit id) (.exit id) st a w G h r rfl)
  |ret=>intro ro G0 U w0 s0 Q QQ st a w G hf r _ _ h;exact wpIn_ret (hf .ret .ret st a w G h r trivial)
  |region id R cv =>
    intro ro G0 U w0 s0 Q QQ st a w G hf r hd hn h;rcases h with ⟨rfl,h2⟩|⟨rfl,h2⟩
    · refine wpIn_region_list (Um s0 (fun st a w G hq r=>hf .normal .normal st a w G hq r trivial) (fun v st a w G u hq r hv=>hf (.pan v) (.panic _) st a w G hq r ⟨u,rfl,hv⟩) _ st a w G r hd h2)
    · obtain⟨st1,ax,h2⟩:=h2
      obtain⟨G1,r1⟩:=r.fz s0 ax;refine wpIn_region_draw fun t=>?_
      exact qcQ s0 hd (fun st a w G hq r=>hf .normal .normal st a w G hq r trivial) (fun v st a w G u hq r hv=>hf (.pan v) (.panic _) st a w G hq r ⟨u,rfl,hv⟩) (r1.drew s0) h2 _ t
  |seq x y ay az =>
    intro ro G0 U w0 s0 Q QQ st a w G hf r hd hn h;simp only[dOkC,qq]at hd;simp only[noRF,qq]at hn;refine wpIn_seq (ay s0 _ _ st a w G ?_ r hd.1 (hn.imp id And.left) h);intro ae e T a' w' G' hq r' he;cases ae<;>cases e<;>simp only[ERel]at he
    · exact az s0 Q QQ T a' w' G' hf r' hd.2 (hn.imp id And.right) hq
    · exact hf (.exit _) (.exit _) T a' w' G' hq r' he
    · exact hf .ret .ret T a' w' G' hq r' trivial
    · exact hf (.pan _) (.panic _) T a' w' G' hq r' he
  |cond b0 x y ay az =>
    intro ro G0 U w0 s0 Q QQ st a w G hf r hd hn h;simp only[dOkC,qq]at hd;simp only[noRF,qq]at hn;obtain⟨t,ht,h1,h2⟩:=h;have rc:=r.ev b0;rw[ht]at rc;have ec:a.eval b0 = .bool t:=by generalize a.eval b0=v at rc;cases rc;rfl
    refine wpIn_cond_split ec (fun e=>ay s0 Q QQ st a w G hf r hd.1 (hn.imp id And.left) (h1 e)) (fun e=>az s0 Q QQ st a w G hf r hd.2 (hn.imp id And.right) (h2 e))
  |block id J ih =>
    intro ro G0 U w0 s0 Q QQ st a w G hf r hd hn h;refine wpIn_block (ih s0 _ _ st a w G ?_ r hd hn h);intro ae e T a' w' G' hq r' he;cases ae<;>cases e<;>simp only[ERel]at he
    · exact hf .normal .normal T a' w' G' hq r' trivial
    · subst he
      simp only[jW]at hq;simp only[Exit.inBlock];split at hq
      · rename_i hid;rw[if_pos hid];exact hf .normal .normal T a' w' G' hq r' trivial
      · rename_i hid;rw[if_neg hid];exact hf (.exit _) (.exit _) T a' w' G' hq r' rfl
    · exact hf .ret .ret T a' w' G' hq r' trivial
    · exact hf (.pan _) (.panic _) T a' w' G' hq r' he
  |loop J ih =>
    intro ro G0 U w0 s0 Q QQ st a w G hf r hd hn h;obtain⟨z,I,n0,st1,ax,hI,a1⟩:=h;obtain⟨G1,r1⟩:=r.fz s0 ax;have hf:=hf.fz s0 z;refine wpIn_loop_ghost (fun k a w=>∃ st G,I k st/\Rel ro G0 U w0 n G st a w) n0 ⟨st1,G1,hI,r1⟩ ?_;intro k a' w' ⟨T,G',bv,r'⟩;refine ih s0 _ _ T a' w' G' ?_ r' hd hn (a1 k T bv);intro ae e st2 a2 w2 G2 hq r2 he;cases ae<;>cases e<;>simp only[ERel]at he
    · obtain⟨m,hm,bw⟩:=hq
      exact⟨m,hm,st2,G2,bw,r2⟩
    · exact hf (.exit _) (.exit _) st2 a2 w2 G2 hq r2 he
    · exact hf .ret .ret st2 a2 w2 G2 hq r2 trivial
    · exact hf (.pan _) (.panic _) st2 a2 w2 G2 hq r2 he
  |scope J ih =>
    intro ro G0 U w0 s0 Q QQ st a w G hf r hd hn h;refine qcS (ih s0 Q _ st a w G ?_ r hd hn h);intro ae e T a' w' G' hq r' he;cases ae<;>cases e<;>simp only[ERel]at he
    · exact hf .normal .normal T a' w' G' hq r' trivial
    · exact hf (.exit _) (.exit _) T a' w' G' hq r' he
    · exact hf .ret .ret T a' w' G' hq r' trivial
    · exact hf (.pan _) (.panic _) T a' w' G' hq r' he
  |rangeFunc g ps a6 J b8 b9 =>
    intro ro G0 U w0 s0 Q QQ st a w G hf r hd hn h;have b1:ro.rd=none/\ro.mks=true:=by
      rcases hn with hn|hn
      · exact hn
      · simp[noRF]at hn
    simp only[dOkC,qq,qJ,decide_eq_true_eq]at hd;obtain⟨⟨⟨⟨bb,bc⟩,be⟩,bg⟩,bh⟩:=hd;obtain⟨z,gf,av,rows,I,Ix,hg,af,h0,a1,bi,ah⟩:=h;have hf:=hf.fz s0 z;refine wpIn_rangeFunc fun fn _=>?_
    have eg:=r.ev g;rw[hg]at eg;generalize hq:a.eval g=gv at eg;cases eg with
    |fn _ _ _ ca ag cb hm hv hw =>
    have e0:ca=#[]:=Array.eq_empty_of_size_eq_zero (zUs cb);subst e0;have bj:yd P gf:=by rcases af with h|h;exact h.1.1;exact h.1
    generalize ai:(Loop.mk .ready none fn a.tmps ps a6 J w.heap.size)=C;have a3:∃ w1,w1=(w.alloc (.deferred (some []))).alloc (.loop C):=⟨_,rfl⟩;obtain⟨w1,a3⟩:=a3;have cw:w1.heap.size=w.heap.size+2:=by rw[a3];simp
    have aj:∀ b,b<w.heap.size->w1.heap[b]?=w.heap[b]?:=by
      intro b hb;rw[a3,Below.heap_alloc _ _ b zSo,Below.heap_alloc _ _ b hb]
    have cc:w1.heap[w.heap.size]?=some (.deferred (some [])):=by
      rw[a3,Below.heap_alloc _ _ _ zSp];exact World.alloc_heap_new w _
    have cd:w1.heap[w.heap.size+1]?=some (.loop C):=by
      rw[a3];have:=World.alloc_heap_new (w.alloc (.deferred (some []))) (.loop C);simpa using this
    have sG:=r.stp.sim;have a7:∀ b,Live G st.mu b->b<w.heap.size:=fun b hb=>sG.livesize hb
    have a4:∃ G1:Gh,G1=⟨G.imm,G.blk++[(w.heap.size+1,0)]⟩:=⟨_,rfl⟩;obtain⟨G1,a4⟩:=a4;have ak:G.le G1:=by
      rw[a4];exact⟨fun _ h=>h,fun i x hx=>by simp only;rw[qI (qe.1 hx).1];exact hx⟩
    have ab:Ext G w.heap w1.heap:=⟨zOm,fun b hb=>aj b (sG.imm b hb)⟩;have a8:G1.blk[st.mu.length]?=some (w.heap.size+1,0):=by rw[a4,<-sG.len];simp
    have a0:∀(j:Nat) (c:Cell) (bt:Nat×Nat),(st.mu++[Cell.lp C st.tm])[j]?=some c->G1.blk[j]?=some bt->(st.mu[j]?=some c/\G.blk[j]?=some bt)\/(j=st.mu.length/\c = .lp C st.tm/\bt=(w.heap.size+1,0)):=by
      intro j c bt hj a9;by_cases bk:j<st.mu.length
      · rw[qI bk]at hj
        rw[a4]at a9;simp only at a9;rw[qI (by rw[sG.len];exact bk)]at a9;exact .inl ⟨hj,a9⟩
      · have cf:=(qe.1 hj).1
        simp at cf;have:j=st.mu.length:=zOm;subst this;rw[a8]at a9;simp at hj a9;exact .inr ⟨rfl,hj.symm,a9.symm⟩
    have s1:Sim G1 (st.mu++[Cell.lp C st.tm]) w1.heap:=by
      refine⟨by rw[a4];simp[sG.len],fun b hb=>?_,?_,?_,?_,sG.tab.mono ak.imm ab.keep⟩
      · rw[a4]at hb;have:=sG.imm b hb;omega
      · intro j c b2 al g1 g2 g3
        rcases a0 j c _ g1 g3 with ⟨q1,q2⟩|⟨rfl,rfl,q⟩
        · obtain⟨o,k1,k2⟩:=sG.obj j c b2 al q1 g2 q2
          exact⟨o,by rw[aj _ (zM.1 k1).1];exact k1,k2.mono ak ab⟩
        · obtain⟨rfl,rfl⟩:=Prod.mk.inj q
          refine⟨_,cd,rfl,fun i=>?_⟩;rw[<-ai];exact(r.tm i).mono ak ab
      · intro j c b2 al g1 g2 g3
        rcases a0 j c _ g1 g3 with ⟨q1,q2⟩|⟨rfl,rfl,q⟩
        · have:=sG.live j c b2 al q1 g2 q2
          rw[a4];exact this
        · obtain⟨rfl,rfl⟩:=Prod.mk.inj q
          rw[a4];intro bm;have:=sG.imm _ bm;omega
      · intro i j ci cj b ti tj g1 g2 g3 g4 g5 g6
        rcases a0 i ci _ g1 g5 with ⟨q1,q2⟩|⟨rfl,rfl,q⟩<;>rcases a0 j cj _ g2 g6 with ⟨p1,p2⟩|⟨rfl,rfl,p⟩
        · exact sG.inj i j ci cj b ti tj q1 p1 g3 g4 q2 p2
        · obtain⟨rfl,rfl⟩:=Prod.mk.inj p
          have:=a7 _ ⟨i,ci,ti,q1,g3,q2⟩;omega
        · obtain⟨rfl,rfl⟩:=Prod.mk.inj q
          have:=a7 _ ⟨j,cj,tj,p1,g4,p2⟩;omega
        · rfl
    have ad:∀ b,Live G1 (st.mu++[Cell.lp C st.tm]) b->Live G st.mu b\/b=w.heap.size+1:=by
      rintro b ⟨j,c,al,g1,g2,g3⟩;rcases a0 j c _ g1 g3 with ⟨q1,q2⟩|⟨rfl,rfl,q⟩
      · exact .inl ⟨j,c,al,q1,g2,q2⟩
      · exact .inr (Prod.mk.inj q).1
    have t1:Stp G st.mu w G1 (st.mu++[Cell.lp C st.tm]) w1:=by
      refine⟨ak,s1,fun b hb _=>aj b hb,zOm,fun b hb=>?_,fun b hb=>?_,by rw[a3];rfl,by rw[a3];rfl,by rw[a3];rfl,by rw[a3];exact qn _⟩
      · rcases ad b hb with h|h
        · exact .inl h
        · exact .inr zOm
      · rw[a4]at hb;exact .inl hb
    have cg:Mk G1 (st.mu++[Cell.lp C st.tm]) w1.heap w.heap.size:=by
      refine⟨cc,fun hb=>?_,fun hb=>?_⟩
      · rcases ad _ hb with h|h
        · have:=a7 _ h;omega
        · omega
      · rw[a4]at hb;have:=sG.imm _ hb;omega
    have bn:JJ n ps a6 J st.tm st.mu.length I 0 (st.mu++[Cell.lp C st.tm]):=by
      refine⟨fn,a.tmps,w.heap.size,by rw[ai];simp,r.size,?_⟩;have:(st.mu++[Cell.lp C st.tm]).set st.mu.length .dead=st.mu++[.dead]:=zSp;rw[this];exact h0
    have bo:∀(X:Mu->Prop) (M:Mu) (c:Cell),Stb X->M[st.mu.length]?=some c->X (M.set st.mu.length .dead)->X ((M++[Cell.dead]).set st.mu.length Cell.dead):=by
      intro X M c hX hM hx;rw[List.set_append_left _ _ (qe.1 hM).1];exact hX _ hx
    have ch:qL P gf (.yl st.mu.length :: av) (st.mu++[Cell.lp C st.tm]) fun e bq=>∃ r,e = .ret r/\(JJ n ps a6 J st.tm st.mu.length I rows.length bq\/JX ps a6 J st.tm st.mu.length Ix bq):=by
      rcases af with ⟨af,hS,ck⟩|af
      rotate_left
      · exact af.2 st.mu.length _ _ (KT b8 b9 bc be bg bh bb a1) _ bn
      exact af.2 st.mu.length (JJ n ps a6 J st.tm st.mu.length I) (JX ps a6 J st.tm st.mu.length Ix)
       (fun k M ⟨f',t',d',q1,q2,q3⟩=>⟨f',t',d',by rw[qI (qe.1 q1).1];exact q1,q2,bo _ M _ (hS k) q1 q3⟩)
       (fun M ⟨f',t',d',e',c',q1,q2,q3⟩=>⟨f',t',d',e',c',by rw[qI (qe.1 q1).1];exact q1,q2,bo _ M _ (ck e') q1 q3⟩)
       (KT b8 b9 bc be bg bh bb a1) _ bn
    have b3:zz G1 w1.heap (.yl st.mu.length :: av) (#[Value.func (.yield (w.heap.size+1)) #[] #[]]++ag):=by
      refine⟨by simp[hm];omega,fun k x hx=>?_⟩;cases k with
      |zero =>
        simp at hx;subst hx;have e:(#[Value.func (.yield (w.heap.size+1)) #[] #[]]++ag).getD 0 va=Value.func (.yield (w.heap.size+1)) #[] #[]:=by
          simp only[qB];rw[Array.getElem?_append_left zSp];simp
        rw[e];exact VRel.yl _ _ 0 a8
      |succ k =>
        have:=(hw k x (zUs hx)).mono ak ab;have e:(#[Value.func (.yield (w.heap.size+1)) #[] #[]]++ag).getD (k+1) va=ag.getD k va:=by
          simp only[qB];rw[Array.getElem?_append_right zSp];simp
        rw[e];exact this
    refine⟨w.heap.size+1,[mkOf w.heap.size],w1,⟨.fn (.func gf) ag,#[Value.func (.yield (w.heap.size+1)) #[] #[]]⟩,w1,gf,#[Value.func (.yield (w.heap.size+1)) #[] #[]]++ag,w1,?_,?_,fun _ _=>trivial,?_,fun h=>by simp[WF,Fence.wide]at h,?_⟩
    · rw[a3,<-ai,show (WF ro).round=none from b1.1];exact run_enterLoop_outer fn a.tmps ps a6 J
    · simp only[resolve,zh,hq,Deferred.ofValue]
      simp[Act.eval]
    · simp only[invoke]
      exact bj _ w1
    · have aq:=ch.2 G1 w1 _ s1 b3
      have:=(callsIn_wide (n:=0)).2 (aq.mono (R':=rangePost (WF ro) 0 P (w.heap.size+1) QQ { a with defers:=mkOf w.heap.size :: a.defers }) ?_)
      · exact this
      rintro e w3 ⟨G3,a5,t3,br⟩;have hR:(∃ v,e = .returned v)/\(JJ n ps a6 J st.tm st.mu.length I rows.length a5\/JX ps a6 J st.tm st.mu.length Ix a5):=by
        rcases br with ⟨rv,v,⟨cl,he,hR⟩,rfl,cx⟩|⟨rv,v,⟨cl,he,_⟩,_⟩
        · exact⟨⟨v,rfl⟩,hR⟩
        · exact absurd he zSp
      clear br;obtain⟨⟨v,rfl⟩,hR⟩:=hR;have tt:Stp G st.mu w G3 a5 w3:=t1.trans sG t3;have cm:Stp G0 U w0 G3 a5 w3:=r.stp.trans s0 tt;have b4:G3.blk[st.mu.length]?=some (w.heap.size+1,0):=t3.le.blk _ _ a8
      have fin:∀(rc:Loop) (e:qM) (ee:Exit),a5[st.mu.length]?=some (.lp rc st.tm)->fzQ z Q e ⟨st.tm,a5.set st.mu.length .dead⟩->(∀ G w,ERel G w e ee)->QQ ee { a with defers:=mkOf w.heap.size :: a.defers } (w3.putObj (w.heap.size+1) (.loop { rc with state := .exhausted })):=by
        intro rc e ee au cn cp;have cq:=t3.sim.hid_not au zSp b4;have bs:=t3.sim.live _ _ _ _ au zSp b4;have td:Stp G0 U w0 G3 (a5.set st.mu.length .dead) w3:=cm.trans s0 (Stp.drop t3.sim st.mu.length);have b5:w0.heap.size<=w.heap.size:=r.stp.size;have tp:Stp G0 U w0 G3 (a5.set st.mu.length .dead) (w3.putObj (w.heap.size+1) (.loop { rc with state := .exhausted })):=by
          refine⟨td.le,td.sim.putOther cq bs,fun b b6 hl=>?_,by simpa using td.size,td.live,td.inew,td.tape,td.os,td.output,td.drawn⟩;rw[vJ zOm];exact td.keep b b6 hl
        have an:Ext G3 w3.heap (w3.putObj (w.heap.size+1) (.loop { rc with state := .exhausted })).heap:=
          ⟨zSp,fun b b6=>vJ (fun (e:b=_)=>bs (e ▸ b6))⟩
        have bu:∀ D,Mk G1 (st.mu++[Cell.lp C st.tm]) w1.heap D->D≠w.heap.size+1->Mk G3 (a5.set st.mu.length .dead) (w3.putObj (w.heap.size+1) (.loop { rc with state := .exhausted })).heap D:=by
          intro D m cr;have m3:=m.step t3;exact⟨by rw[vJ cr];exact m3.obj,fun h=>m3.nlive h.hid,m3.nimm⟩
        refine hf e ee ⟨st.tm,a5.set st.mu.length .dead⟩ _ _ G3 cn ⟨fun i=>?_,fun _=>?_,r.size,tp,fun p hp=>(tt.vrel sG (r.kp p hp)).mono (.refl G3) an⟩ (cp _ _)
        · exact(tt.vrel sG (r.tm i)).mono (.refl G3) an
        · obtain⟨Ds,⟨cs,_⟩,ct,b7⟩:=r.df b1.1
          have aw:∀ D,D∈Ds->D<w.heap.size:=fun D hD=>(zM.1 (b7 D hD).2.obj).1
          refine⟨w.heap.size :: Ds,⟨zP1 cs,fun h=>by rw[b1.2]at h;cases h⟩,jw.2 ⟨fun h=>absurd (aw _ h) zOm,ct⟩,fun D hD=>?_⟩;rcases qu.1 hD with rfl|hD
          · exact⟨b5,bu _ cg zOm⟩
          · exact⟨(b7 D hD).1,bu _ ((b7 D hD).2.step t1) (zW1 (aw D hD))⟩
      have ao:∀(rc:Loop),a5[st.mu.length]?=some (.lp rc st.tm)->w3.heap[w.heap.size+1]?=some (.loop rc):=by
        intro rc au;obtain⟨o,ho,cu⟩:=t3.sim.obj _ _ _ _ au zSp b4;obtain⟨rfl,_⟩:=cu;exact ho
      rcases hR with ⟨f',t',d',q1,q2,q3⟩|⟨f',t',d',e',c',q1,q2,q3⟩
      · refine⟨_,_,run_endLoop (ao _ q1) zSp,?_⟩
        exact fin _ .normal .normal q1 (bi _ q3) (fun _ _=>trivial)
      · refine⟨_,_,run_endLoop (ao _ q1) zSp,?_⟩
        cases e' with
        |ret =>
          simp only[ZR,qj]at q2;subst q2;exact wpIn_ret (fin _ .ret .ret q1 (ah _ _ q3) (fun _ _=>trivial))
        |exit id =>
          simp only[ZR,qj]at q2;subst q2;exact wpIn_exit (fin _ (.exit id) (.exit id) q1 (ah _ _ q3) (fun _ _=>rfl))
        |normal=>simp[ZR]at q2
        |pan v=>simp[ZR]at q2
  |goto l=>intro ro G0 U w0 s0 Q QQ st a w G hf r hd hn h;exact h.elim
  |refuse cy=>intro ro G0 U w0 s0 Q QQ st a w G hf r hd hn h;exact h.elim
def resV(P:qf)(st:St):ResultVar->Option AV
 | .tmp t=>some (st.tm t)
 | .cell a t=>vK P st.mu t (st.tm a)
def resL(P:qf)(st:St):List ResultVar->Option (List AV)
 | []=>some []
 |r :: i=>match resV P st r,resL P st i with|some x,some g=>some (x :: g)|_,_=>none
def yU(P:qf)(st:St):List ResultVar->Option AV
 | [r]=>resV P st r
 |g=>(resL P st g).map .tup
def ZS(g:Array j3):ResultVar->Sem j3
 | .tmp t=>pure (g.getD t va)
 | .cell a t=>do loadVar t (<-asAddr (g.getD a va))
theorem KU{ro:Ro}{i:Gh}{g:Mu}{j:j2}{n:Nat}{st:St}(r:Rel ro i g j n G st a w){x:ResultVar}{z:AV}(h:resV P st x=some z) :
  ∃ u,(ZS a.tmps x).run P w = .ok u w/\VRel G w.heap z u:=by
 cases x with
 |tmp t=>simp only[resV,qj]at h;subst h;exact⟨_,rfl,r.tm t⟩
 |cell l t =>
  obtain⟨b,u,o,p,C⟩:=XL (P:=P) r.stp.sim (r.tm l) h
  grind [ZS,asAddr,qE,zh,qG]
theorem qcT{ro:Ro}{o:Gh}{i:Mu}{p:j2}{n:Nat}{st:St}(r:Rel ro o i p n G st a w):∀(l:List ResultVar) (zs:List AV),resL P st l=some zs ->
  ∃ g:List j3,(l.mapM (ZS a.tmps)).run P w = .ok g w/\g.length=zs.length/\g.length=l.length/\∀(k:Nat) z,zs[k]?=some z->∃ u,g[k]?=some u/\VRel G w.heap z u:=by
 intro l;induction l with
 |nil=>intro zs h;simp only[resL,qj]at h;simp_all
 |cons x l t =>
  intro zs h;simp only[resL]at h;split at h
  .rename_i z j C I
   simp only[qj]at h;subst h;obtain⟨u,g1,U⟩:=KU r C;obtain⟨g,J,R,T,k4⟩:=t j I;refine⟨u :: g,by simp[List.mapM_cons,g1,J],zP1 R,zP1 T,fun k z' hz=>?_⟩
   grind
  grind
theorem ZT{fn:Func}{ro:Ro}{C:Gh}{j:Mu}{I:j2}{n:Nat}{st:St}(r:Rel ro C j I n G st a w){z:AV}(h:yU P st fn.results.toList=some z) :
  ∃ u,(results fn a.tmps).run P w = .ok u w/\VRel G w.heap z u:=by
 have i:∀ g:List j3,(fn.results.toList.mapM (ZS a.tmps)).run P w = .ok g w->(results fn a.tmps).run P w = .ok (if h:g.toArray.size=1 then g.toArray[0] else .tuple g.toArray) w:=by
  intro g l;have e:results fn a.tmps=(do let o <-fn.results.mapM (ZS a.tmps);pure (if h:o.size=1 then o[0] else .tuple o)):=rfl;rw[e];simp only[Array.mapM_eq_mapM_toList,qE,Sem.run_map,l,qG,zh]
 unfold yU at h;split at h
 .rename_i x hx
  obtain⟨u,h1,h2⟩:=KU r h;simp_all
 .rename_i rs J
  cases p:resL P st fn.results.toList with
  |none=>simp[p]at h
  |some zs =>
   simp only[p,qS,qj]at h;subst h;obtain⟨g,R,T,k3,U⟩:=qcT r _ _ p;have t:g.toArray.size≠1:=by
    grind [List.size_toArray,List.length_eq_one_iff]
   refine⟨_,i g R,?_⟩;rw[dif_neg t];refine .tup _ _ (zP1 T) (fun k z hz=>?_);obtain⟨u,hu,hv⟩:=U k z hz;have:g.toArray.getD k va=u:=by simp[qB,hu]
   rw[this];exact hv
def st0(args:List AV)(mu:Mu):St:=⟨fun i=>(args[i]?).getD (.sc va),mu⟩
def we(P:qf)(g:List ResultVar)(R:AEnd->Mu->Prop):qM->St->Prop
 | .normal,st | .ret,st=>OptK (yU P st g) fun r=>R (.ret r) st.mu
 | .pan v,st=>R (.pan v) st.mu
 | .exit _,_=>False
theorem Rel.left{ro:Ro}(o:ro.rd=none){C:Gh}{j:Mu}{I:j2}{n:Nat}{G:Gh}{st:St}{a:Act}{w:j2}(r:Rel ro C j I n G st a w):∃(g:List Nat),a.defers=g.map mkOf++ro.dl/\g.Nodup/\(∀ D,D∈g->w.heap[D]?=some (.deferred (some []))) /\
  Rel ro C j I n G st { a with defers:=ro.dl } (vO g w)/\∀ x v,VRel G w.heap x v->VRel G (vO g w).heap x v:=by
 obtain⟨g,⟨R,_⟩,J,P⟩:=r.df o;obtain⟨T,t⟩:=KC g w J P r.stp;exact⟨g,R,J,fun D U=>(P D U).2.obj,⟨fun i=>(r.tm i).mono (.refl G) t,fun _=>Dfs.nil _ _ _ _ _ _,r.size,T,fun p hp=>(r.kp p hp).mono (.refl G) t⟩,fun x v h=>h.mono (.refl G) t⟩
theorem Rel.start{ro:Ro}{fn:Func}{g:Array j3}(s:Sim G mu w.heap)(l:zz G w.heap args g)(J:args.length<=fn.ntmps)(o:ro.dl=[]:=by rfl)(r:ro.kp=[]:=by rfl) :
  Rel ro G mu w fn.ntmps G (st0 args mu) { tmps:=g++Array.replicate (fn.ntmps-g.size) va,defers:=[] } w:=by
 have P:g.size<=fn.ntmps:=by rw[l.1];exact J
 refine⟨fun i=>?_,fun _=>⟨[],⟨zP1 o,fun _=>rfl⟩,List.nodup_nil,zSp⟩,zSo,Stp.refl s,fun p C=>by rw[r]at C;simp at C⟩;simp only[st0];by_cases R:i<args.length
 .have I:args[i]?=some args[i]:=by simp[R]
  have e:(g++Array.replicate (fn.ntmps-g.size) va).getD i va=g.getD i va:=by
   simp only[qB]
   grind
  rw[I,e];exact l.2 i _ I
 .rw [List.getElem?_eq_none zOm]
  have e:(g++Array.replicate (fn.ntmps-g.size) va).getD i va=va:=by
   simp only[qB];rw[Array.getElem?_append_right (by rw[l.1];omega),Array.getElem?_replicate];split<;>rfl
  rw[e];exact .sc _ rfl
theorem qL.of_awp{fn:Func}(g:yd P f)(hf:P.funcs[f]?=some fn)(hb:fn.body=some c)
  (hn:args.length<=fn.ntmps) (hd:dOkC fn.ntmps c=true) (h:awp P pl c (we P fn.results.toList R) (st0 args mu)):qL P f args mu R:=by
 refine⟨g,fun G w vs s ra=>?_⟩;refine(callsIn_wide (n:=0)).1 (callsIn_of_wp_marks hf hb trivial ?_);refine UA (n:=fn.ntmps) c (ro:=Ro.fn) s _ _ (st0 args mu) _ w G ?_ ?_ hd (.inl ⟨rfl,rfl⟩) h
 .intro ae e st a l o j r T
  obtain⟨U,g1,g2,g3,i,p⟩:=r.left rfl;have key:∀(u:FrameMode) (R:Ending->j2->Prop),u ≠ .run->LeavesIn Fence.wide 0 P fn a.tmps R [] u (vO U l)->LeavesInM Fence.wide 0 P fn a.tmps R a.defers u l:=by
   intro u R hu hl;rw[g1];exact Ul hu U l g2 g3 hl
  cases ae<;>cases e<;>simp only[ERel]at T
  .obtain ⟨z,t,C⟩:=j
   obtain⟨u,I,J⟩:=ZT i t;exact key .returning _ zSp ⟨u,I,o,st.mu,i.stp,.inl ⟨z,u,C,rfl,J⟩⟩
  .exact j.elim
  .obtain ⟨z,t,C⟩:=j
   obtain⟨u,I,J⟩:=ZT i t;exact key .returning _ zSp ⟨u,I,o,st.mu,i.stp,.inl ⟨z,u,C,rfl,J⟩⟩
  .obtain ⟨v,rfl,hv⟩:=T
   exact key (.panicking _) _ zSp ⟨o,st.mu,i.stp,.inr ⟨_,v,j,rfl,p _ _ hv⟩⟩
 .exact Rel.start s ra hn
theorem Sim.empty{g:Nat->Prop}{h:Array Obj}(l:∀ b,g b->b<h.size)(o:wD g h):Sim ⟨g,[]⟩ [] h:=
 ⟨rfl,l,fun i c b t h=>by simp at h,fun i c b t h=>by simp at h,fun i j ci p b t r h=>by simp at h,o⟩
theorem qd.of_sound(h:qL P f args [] fun e l=>∃ C,e = .ret C/\Rd l C r):qd P f args r:=by
 obtain⟨o,h⟩:=h;refine⟨o,fun p w U hi ra=>?_⟩;refine(h ⟨p,[]⟩ w U hi ra).mono fun e w' ⟨R,l,st,hR⟩=>?_
 have g:∀ b,¬Live ⟨p,[]⟩ [] b:=fun b ⟨i,c,t,hc,_⟩=>by simp at hc
 rcases hR with ⟨C,v,⟨I,T,J⟩,rfl,hv⟩|⟨C,v,⟨I,T,_⟩,_⟩
 .cases T
  refine⟨fun b=>R.imm b\/Live R l b,v,rfl,fun b j => .inl (st.le.imm b j),fun b j=>?_,⟨⟨st.os,st.tape,st.output,st.size,fun k hk=>st.keep k hk (g k)⟩,st.drawn⟩,J.sound st.sim hv⟩;rcases j with j|j
  .refine ⟨st.sim.imm b j,?_⟩
   rcases st.inew b j with h|h|h
   .exact .inl h
   .exact absurd h (g b)
   .exact .inr h
  .refine ⟨st.sim.livesize j,?_⟩
   rcases st.live b j with h|h
   .exact absurd h (g b)
   .exact .inr h
 grind
theorem qSW{fn:Func}(g:yd P f)(hf:P.funcs[f]?=some fn)(i:fn.body=some c)(pl:Pol)(h:awp P pl c (we P fn.results.toList R) (st0 args mu))(j:Nat.ble args.length fn.ntmps=true:=by kernel_rfl)(l:dOkC fn.ntmps c=true:=by kernel_rfl):qL P f args mu R:=qL.of_awp g hf i (Nat.le_of_ble_eq_true j) l h
theorem qSQ{fn:Func}(g:yd P f)(hf:P.funcs[f]?=some fn)(j:fn.body=some c)(pl:Pol)(h:awp P pl c (we P fn.results.toList fun e l=>∃ i,e = .ret i/\Rd l i r) (st0 args []))(o:Nat.ble args.length fn.ntmps=true:=by kernel_rfl)(p:dOkC fn.ntmps c=true:=by kernel_rfl):qd P f args r:=qd.of_sound (qSW g hf j pl h o p)
theorem qSV{fn:Func}(g:yd P f)(hf:P.funcs[f]?=some fn)(j:fn.body=some c)(h:awp P {} c (we P fn.results.toList fun e l=>∃ i,e = .ret i/\Rd l i r) (st0 args []))(o:Nat.ble args.length fn.ntmps=true:=by kernel_rfl)(p:dOkC fn.ntmps c=true:=by kernel_rfl):qd P f args r:=qd.of_sound (qSW g hf j {} h o p)
theorem qSU{fn:Func}{Q:Prop}(g:yd P f)(hf:P.funcs[f]?=some fn)(j:fn.body=some c)(k:Q)(e:awp P {} c (we P fn.results.toList fun e l=>∃ i,e = .ret i/\Rd l i r) (st0 args [])=Q:=by simp[go_sem];rfl)(o:Nat.ble args.length fn.ntmps=true:=by kernel_rfl)(p:dOkC fn.ntmps c=true:=by kernel_rfl):qd P f args r:=qSV g hf j (e.mpr k) o p
def RdN(mu:Mu)(x y:AV):Prop:=∀(G:Gh) (h:Array Obj) (v:j3),Sim G mu h->VRel G h x v->VRel ⟨Live G mu,[]⟩ h y v
theorem RdN.sl{b sz off len:Nat}{cells:List AV}{ys:List (List AV)}(t:mu[b]?=some (.arr cells))(hl:off+len*sz<=cells.length)(J:ys.length=len)(C:zX sz ys)
  (hf:∀(k:Nat) y,ys.flatten[k]?=some y->FL y) (h:∀(k:Nat) x y,cells[off+k]?=some x->ys.flatten[k]?=some y->x=y):RdN mu (.sl b sz off len) (.lst false ys):=by
 intro G hp v s r;subst J;cases r with
 |sl _ _ _ _ i j cap I ht l =>
 obtain⟨arr,e,P,h2,h3,R⟩:=s.arr b cells i j t I;by_cases T:ys=[]
 .subst T;exact .emp false _ cap zSp
 .have U:=zW C
  have g:∀(k:Nat) y,ys.flatten[k]?=some y->∃ x,cells[off+k]?=some x:=by
   grind
  refine .lst false ys sz ⟨i,off,none⟩ cap arr e (0,0) (fun k=>arr.getD (off+k) va) P rfl l zSp ⟨b,_,j,t,zSp,I⟩ C ?_ ?_
  .intro k y o
   obtain⟨x,p⟩:=g k y o;have:off+k<arr.size:=by grind
   simp_all
  .intro k y o
   obtain⟨x,p⟩:=g k y o;have:=h k x y p o;subst this;exact hf k x o _ _ _ _ _ (R _ x p).2
end
end Go.Ev
