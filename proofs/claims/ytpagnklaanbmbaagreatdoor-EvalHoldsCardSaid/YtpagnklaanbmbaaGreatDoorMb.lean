/-
  Own library, part 2: an abstract reading of values and a calculus over it; contracts of functions; plain lemmas.
-/
import Derived.TacticsIn
import Derived.Deep.LoopGhost
import Derived.Scope
import Derived.Sort.LoopGhostIn
import Derived.Test.YtpagnklaanbmbaaGreatDoorMa
set_option linter.unusedVariables false
set_option linter.unusedSimpArgs false
set_option maxRecDepth 100000
open Go renaming Program->j1,TypeId->j2,World->j3,Value->uk,Operand->us,undef->xa,Oper->xd,FuncId->wh
open List renaming getElem?_eq_some_iff->qk,getElem?_append_left->qo,mem_map->qr,mem_cons->qt,range->qu,getElem?_set_ne->qv,getElem?_eq_getElem->qA,not_mem_nil->qE,all_eq_true->qI,getElem?_set_self->qJ,mem_singleton->qL,mem_append->qM,mem_cons_of_mem->qY,mem_cons_self->q8,getElem?_append_right->zf,append_assoc->zE,getD_eq_getElem?_getD->zT,append_nil->zV,mem_range->yx,mem_append_left->jc,cons_append->jd,nil_append->jq,getElem?_cons_succ->j7,nodup_cons->vb,mem_filter->vt,eq_nil_of_length_eq_zero->ug,ext_getElem?->ui,nodup_append->uL,mem_iff_getElem->ZM
open Nat renaming le_refl->qm,lt_of_lt_of_le->ZL
open Option.some renaming injEq->qp
open Bool renaming and_eq_true->qB,or_eq_true->wr
open Array renaming getD_eq_getD_getElem?->qH,getElem?_eq_some_iff->yf,getElem?_eq_getElem->uM,getElem?_setIfInBounds_ne->K8
open Go.Sem renaming run_bind->qT,run_pure->zD
open Go.Result renaming andThen_ok->qW
open Option renaming map_some->zd
open List.Nodup renaming length_le_of_subset->jT
open Classical renaming byContradiction->uJ
open List.cons renaming injEq->uN
open Go.World renaming putObj_heap_other->uO
namespace Go.Ev
open Go Go.RowKit
section
variable {x:AV}{K:AV->Prop}{h:Array Obj}{g:Array uk}{G:Gh}{xs:List (List AV)}{mu:Mu}{P:j1}{t:j2}{w:j3}
@[go_sem] def wC(P:j1)(op:BinOp)(t:j2)(x y:AV):Option AV:=
 match x,y with
 | .agg p,.agg j=>match U0 P t with
  |some n=>if p.length=n then (match op with
   | .eql=>(aEqs p j).map fun b => .sc (.bool b)
   | .neq=>(aEqs p j).map fun b => .sc (.bool !b)
   |_=>none) else none
  |none=>none
 |x,y=>aBin P op t x y
theorem qd8{n:Nat}(h:U0 P t=some n):P.eqGuardType P.depth t=false/\((∃ e q,P.underlying t=some (.array n e)/\P.underlying e=some (.int q)/\szOf P e=some 1) \/
  ∃ fs,P.underlying t=some (.struct fs)/\ZP P fs.toList 0=true/\P.stoodInHeld t=false/\fs.size=n):=by
 unfold U0 at h;split at h
 .rename_i fs g
  split at h
  .rename_i hf
   simp only[qp]at h;subst h;exact⟨hf.2.2,.inr ⟨fs,g,hf.1,hf.2.1,rfl⟩⟩
  .exact absurd h zSp
 .rename_i l e g
  split at h
  .rename_i q i j
   split at h
   .rename_i hg
    simp only[qp]at h;subst h;exact⟨hg,.inl ⟨e,q,g,i,j⟩⟩
   .exact absurd h zSp
  .exact absurd h zSp
 .exact absurd h zSp
theorem qd9{op:BinOp}{y z:AV}{ox oy:us}{u v:uk}(o:VRel G w.heap x u)(C:VRel G w.heap y v)(h:wC P op t x y=some z) :
    ∃ r,(do eqGuard op t ox oy u v;binOp op t u v:Sem uk).run P w = .ok r w/\VRel G w.heap z r:=by
  unfold wC at h;split at h
  · rename_i p j
    split at h
    · rename_i n I
      obtain⟨hg,I⟩:=qd8 I;split at h
      · rename_i hl
        have i:=o;have l:=C;cases o with
        |agg _ J hn hv =>
        cases C with
        |agg _ R hm hw =>
        have T:(eqGuard op t ox oy (.agg J) (.agg R)).run P w = .ok () w:=run_eqGuard_agg w op t ox oy J R hg;simp only[qT,T,qW];have heq:∀ b,aEqs p j=some b->(Op.equal t (.agg J) (.agg R)).run P w = .ok b w:=fun b g=>by
          rcases I with ⟨e,q,U,he,hs⟩|⟨fs,U,hf,hp,a0⟩
          · exact kK (G:=G) 9998 U he hs hl i l g
          · exact qdI (G:=G) 9998 U hf hp zOm i l g
        cases op<;>simp only at h<;>first
          | (simp at h;done)
          | (cases g:aEqs p j with
             |none=>simp[g]at h
             |some b =>
               simp only[g,zd,qp]at h;subst h;refine⟨_,?_,.sc _ rfl⟩;simp[binOp,heq b g];done)
      · exact absurd h zSp
    · exact absurd h zSp
  · exact qcV o C h
def uR:us->Bool
 | .const (.slice none 0 0)=>true
 |_=>false
def jJ(P:j1)(det:Bool)(op:BinOp)(t:j2)(x:AV)(K:AV->Prop):Prop:=
 (qN P t).isSome=true/\(op = .eql\/op = .neq) /\
 match x with
 | .lst _ []=>det=false/\K (.sc (.bool true))/\K (.sc (.bool false))
 | .lst _ (_ :: _) | .sl .. => K (.sc (.bool (decide (op = .neq))))
 |_=>False
theorem qeA(d:Nat){t e:j2}(g:P.underlying t=some (.slice e))(b:Option Addr)(len cap:Nat) :
  (Op.equalIn (d+1) t (.slice b len cap) (.slice none 0 0)).run P w = .ok b.isNone w:=by
 cases b<;>simp[Op.equalIn,run_underlying g]
theorem jJ.sound{det:Bool}{op:BinOp}{ox oy:us}{u:uk}(T:VRel G w.heap x u)(h:jJ P det op t x K) :
  ∃ z r,K z/\(do eqGuard op t ox oy u (.slice none 0 0);binOp op t u (.slice none 0 0):Sem uk).run P w = .ok r w/\VRel G w.heap z r:=by
 obtain⟨U,ho,h⟩:=h;obtain⟨e,hu⟩:∃ e,P.underlying t=some (.slice e):=by
  cases I:qN P t with
  |none=>simp[I]at U
  |some q=>obtain⟨J,a0,a1⟩:=q;obtain⟨i',i,_⟩:=vQ I;exact⟨J,i⟩
 have key:∀(b:Option Addr) (len cap:Nat),u = .slice b len cap->(do eqGuard op t ox oy u (.slice none 0 0);binOp op t u (.slice none 0 0):Sem uk).run P w = .ok (.bool (if op = .neq then b.isSome else b.isNone)) w:=by
  intro b len cap C;subst C;have hg:(eqGuard op t ox oy (.slice b len cap) (.slice none 0 0)).run P w = .ok () w:=by
   unfold eqGuard;cases op<;>rfl
  have R:(Op.equal t (.slice b len cap) (.slice none 0 0)).run P w = .ok b.isNone w:=qeA 9999 hu b len cap;rcases ho with rfl|rfl
  .simp [hg,binOp,R]
  .cases b<;>simp[hg,binOp,R]
 have fin:∀(b:Bool),K (.sc (.bool b))->∀(c:Option Addr) (len cap:Nat),u = .slice c len cap->(if op = .neq then c.isSome else c.isNone)=b ->
   ∃ z r,K z/\(do eqGuard op t ox oy u (.slice none 0 0);binOp op t u (.slice none 0 0):Sem uk).run P w = .ok r w/\VRel G w.heap z r:=
  fun b hk c len cap C e2=>⟨_,_,hk,key c len cap C,by rw[e2];exact .sc _ rfl⟩
 cases T with
 |nil full =>
  obtain⟨_,i,o⟩:=h;by_cases g:op = .neq
  .exact fin false o none 0 0 rfl (by rw[if_pos g];rfl)
  .exact fin true i none 0 0 rfl (by rw[if_neg g];rfl)
 |emp full a cap hc =>
  obtain⟨_,i,o⟩:=h;by_cases g:op = .neq
  .exact fin true i (some a) 0 cap rfl (by rw[if_pos g];rfl)
  .exact fin false o (some a) 0 cap rfl (by rw[if_neg g];rfl)
 |lst full p l a cap cs J fr rd hb a2 hl hc hi hz hr hv =>
  cases p with
  |nil =>
   obtain⟨_,i,o⟩:=h;by_cases g:op = .neq
   .exact fin true i (some a) _ cap rfl (by rw[if_pos g];rfl)
   .exact fin false o (some a) _ cap rfl (by rw[if_neg g];rfl)
  |cons y j =>
   refine fin _ h (some a) _ cap rfl ?_;by_cases g:op = .neq
   .rw [if_pos g];simp[g]
   .rw [if_neg g];simp[g]
 |sl b l off len a3 a4 cap hb ht hl =>
  refine fin _ h (some _) _ cap rfl ?_;by_cases g:op = .neq
  .rw [if_pos g];simp[g]
  .rw [if_neg g];simp[g]
 |_=>exact h.elim
theorem jJ.det{op:BinOp}(h:jJ P true op t x K):∃ z,K z/\∀ i:AV->Prop,i z->jJ P true op t x i:=by
 obtain⟨l,g,h⟩:=h;unfold jJ;split at h
 .exact absurd h.1 zSp
 .exact ⟨_,h,fun i j=>⟨l,g,j⟩⟩
 .exact ⟨_,h,fun i j=>⟨l,g,j⟩⟩
 .exact h.elim
theorem jJ.mono{det:Bool}{op:BinOp}{j:AV->Prop}(h:jJ P det op t x K)(g:∀ z,K z->j z):jJ P det op t x j:=by
 obtain⟨l,i,h⟩:=h;unfold jJ;refine⟨l,i,?_⟩;split at h
 .exact ⟨h.1,g _ h.2.1,g _ h.2.2⟩
 .exact g _ h
 .exact g _ h
 .exact h.elim
theorem qeB{y:us}(h:uR y=true):y = .const (.slice none 0 0):=by
 unfold uR at h;split at h
 .rfl
 .exact absurd h zSp
def WK(x y:AV):Prop:=∀(G:Gh) (h:Array Obj) (v:uk),VRel G h x v->VRel ⟨G.imm,[]⟩ h y v
theorem WK.hf(h:HF x):WK x x:=h
theorem VRel.ro{full:Bool}{v:uk}(r:VRel G h (.lst full xs) v):VRel G h (.lst false xs) v:=by
 cases r with
 |nil=>exact .nil _
 |emp _ a cap g=>exact .emp _ a cap zSp
 |lst _ _ l a cap i e j rd o p t g C I J P=>exact .lst _ _ l a cap i e j rd o p t zSp C I J P
theorem WK.lst{full:Bool}(h:∀ r,r∈xs->∀ c,c∈r->HF c):WK (.lst full xs) (.lst false xs):=fun G hp v r=>VRel.ro (HF.lst h G hp v r)
theorem WK.agg{xs ys:List AV}(j:ys.length=xs.length)(h:∀(k:Nat) x y,xs[k]?=some x->ys[k]?=some y->WK x y):WK (.agg xs) (.agg ys):=fun G hp v r=>by
 cases r with
 |agg _ l o i =>
  refine .agg _ _ zOm (fun k y g=>?_);have p:k<ys.length:=(qk.1 g).1;have hx:xs[k]?=some (xs[k]' zOm):=by simp[show k<xs.length by omega]
  exact h k _ y hx g G hp _ (i k _ hx)
def WKs:List AV->List AV->Prop
 | [],[]=>True
 |x :: p,y :: j=>WK x y/\WKs p j
 |_,_=>False
theorem WKs.get:∀{xs ys:List AV},WKs xs ys->ys.length=xs.length/\∀(k:Nat) x y,xs[k]?=some x->ys[k]?=some y->WK x y
 | [],[],_=>⟨rfl,zSp⟩
 |x :: xs,y :: ys,⟨h,t⟩=>by
  obtain⟨j,l⟩:=WKs.get t;refine⟨zP1 j,fun k a b g i=>?_⟩;cases k with
  |zero=>simp at g i;subst g;subst i;exact h
  |succ k=>exact l k a b (zUs g) (zUs i)
 | [],_ :: _,h=>h.elim
 |_ :: _,[],h=>h.elim
theorem WK.aggs{xs ys:List AV}(h:WKs xs ys):WK (.agg xs) (.agg ys) := .agg h.get.1 h.get.2
def Rds(mu:Mu):List AV->List AV->Prop
 | [],[]=>True
 |x :: p,y :: j=>Rd mu x y/\Rds mu p j
 |_,_=>False
theorem Rds.get:∀{xs ys:List AV},Rds mu xs ys->ys.length=xs.length/\∀(k:Nat) x y,xs[k]?=some x->ys[k]?=some y->Rd mu x y
 | [],[],_=>⟨rfl,zSp⟩
 |x :: xs,y :: ys,⟨h,t⟩=>by
  obtain⟨j,l⟩:=Rds.get t;refine⟨zP1 j,fun k a b g i=>?_⟩;cases k with
  |zero=>simp at g i;subst g;subst i;exact h
  |succ k=>exact l k a b (zUs g) (zUs i)
 | [],_ :: _,h=>h.elim
 |_ :: _,[],h=>h.elim
def MuLe(mu mu':Mu):Prop:=∀(b:Nat) c,mu[b]?=some c->mu'[b]?=some c
theorem MuLe.push(mu:Mu)(c:Cell):MuLe mu (mu++[c]):=fun b x h=>by rw[qo (qk.1 h).1];exact h
def YT(P:j1)(mu:Mu)(f:AV)(args:List AV)(v:AV):Prop:=
 (∃ g first j i,f = .fn (.func g) first j/\qd P g i v/\(WKs (first++args++j) i\/(Rds mu (first++args++j) i/\FL v))) \/
 ∃ g first j i,f = .fn (.func g) first j/\qdD P g i v/\Rds mu (first++args++j) i
def Vk(P:j1)(i:Nat)(args:List AV)(mu:Mu)(R:Bool->Mu->Prop):Prop:=
 ∀(G:Gh) (w:j3) (p:Array uk),Sim G mu w.heap->zM G w.heap args p->∀(l o:Nat),G.blk[i]?=some (l,o) ->
  ∃ fn g assign j,(Instr.yield l p).run P w = .ok (.round l fn g assign j) w /\
   RoundIn Fence.wide 0 P l fn g assign j w fun e t=>∃ b C r,e = .returned (.bool b)/\Stp G mu w C r t/\R b r
def qc(P:j1)(det:Bool)(mu:Mu)(f:AV)(args:List AV)(K o:AV->Mu->Prop):Prop:=
 (∃ v,YT P mu f args v/\K v mu) \/
 (det=false/\((∃ g first l R,f = .fn (.func g) first l/\qe P g (first++args++l) mu R/\(∀ r j,R (.ret r) j->K r j)/\(∀ r j,R (.pan r) j->o r j)) \/
  ∃ i R,f = .yl i/\Vk P i args mu R/\∀ b j,R b j->K (.sc (.bool b)) j))
def OptK{J:Type}(o:Option J)(k:J->Prop):Prop:=∃ v,o=some v/\k v
@[go_sem] def lenA(P:j1)(mu:Mu)(t:j2):AV->Option AV
 | .lst _ p=>if (qN P t).isSome then some (.sc (.int .i64 p.length)) else none
 | .sl _ _ _ len=>if (qN P t).isSome then some (.sc (.int .i64 len)) else none
 | .sc (.string s)=>match P.underlying t with|some .string=>some (.sc (.int .i64 s.size))|_=>none
 | .im I=>match P.underlying t with|some (.map _ _)=>some (.sc (.int .i64 I.length))|_=>none
 | .ims I=>match P.underlying t with|some (.map _ _)=>some (.sc (.int .i64 I.length))|_=>none
 | .mp b=>match P.underlying t,mu[b]? with|some (.map _ _),some (.mp I)=>some (.sc (.int .i64 I.length))|_,_=>none
 |_=>none
@[go_sem] def minA:AV->AV->Option AV
 | .sc (.int k x),.sc (.int _ y)=>some (.sc (.int k (if y<x then y else x)))
 |_,_=>none
@[go_sem] def maxA:AV->AV->Option AV
 | .sc (.int k x),.sc (.int _ y)=>some (.sc (.int k (if y > x then y else x)))
 |_,_=>none
@[go_sem] def um(P:j1)(mu:Mu)(b:Builtin)(g:Array j2)(args:List AV):Option AV:=
 match b,args,g[0]? with
 | .len,[x],some t=>lenA P mu t x
 | .cap,[.lst true p],some t=>if (qN P t).isSome then some (.sc (.int .i64 p.length)) else none
 | .min,[x,y],_=>minA x y
 | .max,[x,y],_=>maxA x y
 |_,_,_=>none
theorem Wj(h:(qN P t).isSome=true):∃ e,P.underlying t=some (.slice e):=by
 cases g:qN P t with
 |none=>simp[g]at h
 |some q=>obtain⟨i,j,l⟩:=q;obtain⟨p,o,_⟩:=vQ g;exact⟨i,o⟩
theorem zM.one_inv(r:zM G h [x] g):∃ v,g=#[v]/\VRel G h x v:=by
 obtain⟨l,o⟩:=r;have:=o 0 x rfl;refine⟨g.getD 0 xa,?_,this⟩;have j:g.size=1:=zUs l;apply Array.ext
 .simpa using j
 .intro i p t
  have:i=0:=zOm;subst this;simp[qH,p]
theorem zM.two_inv{y:AV}(r:zM G h [x,y] g):∃ u v,g=#[u,v]/\VRel G h x u/\VRel G h y v:=by
 obtain⟨o,l⟩:=r;have a:=l 0 x rfl;have b:=l 1 y rfl;refine⟨g.getD 0 xa,g.getD 1 xa,?_,a,b⟩;have j:g.size=2:=zUs o;apply Array.ext
 .simpa using j
 .intro i p t
  have:i=0\/i=1:=zOm;rcases this with rfl|rfl<;>simp[qH,p]
theorem qeC(s:Sim G mu w.heap){t ty:j2}{x z:AV}{v:uk}(r:VRel G w.heap x v)(h:lenA P mu t x=some z)(l:Array j2)(j:l[0]?=some t) :
  ∃ u,(Builtin.len_ l ty #[v]).run P w = .ok u w/\VRel G w.heap z u:=by
 unfold lenA at h;split at h
 .split at h
  .rename_i p
   simp only[qp]at h;subst h;obtain⟨e,i⟩:=Wj p;obtain⟨a,cap,rfl,_⟩:=r.lst_inv;exact⟨_,by simp[Builtin.len_,j,run_underlying i,goInt],.sc _ rfl⟩
  .exact absurd h zSp
 .split at h
  .rename_i p
   simp only[qp]at h;subst h;obtain⟨e,i⟩:=Wj p;cases r;exact⟨_,by simp[Builtin.len_,j,run_underlying i,goInt],.sc _ rfl⟩
  .exact absurd h zSp
 .split at h
  .rename_i i
   simp only[qp]at h;subst h;cases r;exact⟨_,by simp[Builtin.len_,j,run_underlying i,goInt],.sc _ rfl⟩
  .exact absurd h zSp
 .split at h
  .rename_i i
   simp only[qp]at h;subst h;cases r with
   |im _ g ce clock o R C T U hd =>
   have hg:(getObj g).run P w = .ok (.map ce clock) w:=by simp[getObj,Sem.run,o]
   exact⟨_,by simp[Builtin.len_,j,run_underlying i,goInt,hg,C],.sc _ rfl⟩
  .exact absurd h zSp
 .split at h
  .rename_i i
   simp only[qp]at h;subst h;cases r with
   |ims _ a0 σ τ _ hp hd r =>
   cases r with
   |im _ g ce clock o R C T U a1 =>
   have hg:(getObj g).run P w = .ok (.map ce clock) w:=by simp[getObj,Sem.run,o]
   exact⟨_,by simp[Builtin.len_,j,run_underlying i,goInt,hg,C,hp.1],.sc _ rfl⟩
  .exact absurd h zSp
 .split at h
  .rename_i I i hm
   simp only[qp]at h;subst h;cases r with
   |mp _ g J o =>
   obtain⟨ce,cl,h1,h2,_⟩:=s.mp _ I g J hm o;have hg:(getObj g).run P w = .ok (.map ce cl) w:=by simp[getObj,Sem.run,h1]
   exact⟨_,by simp[Builtin.len_,j,run_underlying i,goInt,hg,h2],.sc _ rfl⟩
  .exact absurd h zSp
 .exact absurd h zSp
theorem qeD(s:Sim G mu w.heap){b:Builtin}{g:Array j2}{ty:j2}{cs:Array Bool}{args:List AV}{o:Array uk}{z:AV}(r:zM G w.heap args o)
  (h:um P mu b g args=some z):∃ u,(builtin b g ty cs o).run P w = .ok (.value u) w/\VRel G w.heap z u:=by
 unfold um at h;split at h
 .rename_i j
  obtain⟨v,rfl,i⟩:=r.one_inv;obtain⟨u,p,t⟩:=qeC s i h g j (ty:=ty);exact⟨u,by simp[builtin,p],t⟩
 .rename_i j
  obtain⟨v,rfl,i⟩:=r.one_inv;split at h
  .rename_i C
   simp only[qp]at h;subst h;obtain⟨e,I⟩:=Wj C;obtain⟨a,cap,rfl,_,J,_⟩:=i.lst_inv;have:=J rfl;subst this;exact⟨_,by simp[builtin,Builtin.cap_,j,run_underlying I,goInt],.sc _ rfl⟩
  .exact absurd h zSp
 .obtain ⟨u,v,rfl,l,i⟩:=r.two_inv
  unfold minA at h;split at h
  .simp only[qp]at h;subst h
   cases l;cases i;exact⟨_,by simp[builtin,Builtin.min_,Builtin.min2],.sc _ rfl⟩
  .exact absurd h zSp
 .obtain ⟨u,v,rfl,l,i⟩:=r.two_inv
  unfold maxA at h;split at h
  .simp only[qp]at h;subst h
   cases l;cases i;exact⟨_,by simp[builtin,Builtin.max_,Builtin.max2],.sc _ rfl⟩
  .exact absurd h zSp
 .exact absurd h zSp
end
end Go.Ev
namespace Go.Ev
open Go Go.RowKit
section
variable {next:Act->j3->Prop}{h:Array Obj}{Q:Exit->Act->j3->Prop}{G:Gh}{ρ:us->uk}{P:j1}{w:j3}
@[go_sem] def Vl:AV->Option AV
 | .ip g=>some (.ip g)
 | .ptr b o=>some (.ptr b o)
 | .ifc t x=>some (.ifc t x)
 | .fn (.func f) a b=>some (.fn (.func f) a b)
 |_=>none
@[go_sem] def Wk(i:Nat):AV->Option AV
 | .tup g=>g[i]?
 |_=>none
def Zl(P:j1)(t:j2):Bool:=match P.underlying t with|some (.interface _)=>false|some _=>true|none=>false
@[go_sem] def Vm(P:j1)(t:j2)(ok:Bool)(x:AV):Option AV:=
 if Zl P t=true then
  match x with
  | .ifc u v=>if u=t then some (if ok then .tup [v,.sc (.bool true)] else v) else if ok then (qC P t).map fun z => .tup [z,.sc (.bool false)] else none
  | .sc .nilIface=>if ok then (qC P t).map fun z => .tup [z,.sc (.bool false)] else none
  |_=>none
 else none
@[go_sem] def kX(P:j1)(t:j2)(x:AV):Prop:=
 match x with
 | .lst _ p=>∃ e l g,qN P t=some (e,l,g)/\jH l p
 |_=>True
def ym(P:j1)(t:j2):Bool:=match qC P t with|some z=>z.cells.all AV.one|none=>false
def evs(ev:us->AV)(l:List us):List AV:=l.map ev
def un(P:j1)(mu:Mu)(b:Builtin)(g:Array j2)(args:List AV)(K:AV->Mu->Prop):Prop:=∃ z m,ExtB P mu b g args z m/\K z m
def qD(P:j1)(pl:Pol)(det:Bool)(g:Option Tmp)(op:Op)(ev:us->AV)(mu:Mu)(K C:AV->Mu->Prop):Prop:=
 match op with
 | .move x | .assign x=>K (ev x) mu
 | .pick c a b=>∃ t,ev c = .sc (.bool t)/\K (if t then ev a else ev b) mu
 | .alloc e=>OptK (qC P e) fun z=>z.cells.all AV.one=true/\K (.ptr mu.length 0) (mu++[.arr z.cells])
 | .box e x=>(ev x).cells.all AV.one=true/\(if (g.any pl.mt.contains)=true then K (.ptr mu.length 0) (mu++[.arr (ev x).cells]) else K (.ip (ev x).cells) mu)
 | .build t o=>ym P t=true/\OptK (Vc P t (o.toList.map fun p=>(p.1,ev p.2))) fun z=>K z mu
 | .buildSlice t n o=>OptK (Vd P t n (o.toList.map fun p=>(p.1,ev p.2))) fun z=>K z mu
 | .load t a=>OptK (wu P mu t (ev a)) fun z=>K z mu
 | .store t a x=>OptK (J4 P mu t (ev a) (ev x)) fun m=>K (.sc xa) m
 | .nilCheck x=>OptK (Vl (ev x)) fun z=>K z mu
 | .binOp op t x y _=>if uR y=true then jJ P det op t (ev x) (fun z=>K z mu) else OptK (wC P op t (ev x) (ev y)) fun z=>K z mu
 | .unOp op _ x=>OptK (aUn op (ev x)) fun z=>K z mu
 | .convert src g x=>(P.underlying src).isSome=true/\OptK (J5 P src g (ev x)) fun z=>K z mu
 | .makeInterface t x=>Zl P t=true/\K (.ifc t (ev x)) mu
 | .makeFunc f first j=>K (.fn f (evs ev first.toList) (evs ev j.toList)) mu
 | .makeSlice t l c=>OptK (YN P mu t (ev l) (ev c)) fun z=>K z.1 z.2
 | .slice t x I J R=>kX P t (ev x)/\OptK (Vb P t (ev x) (I.map ev) (J.map ev) (R.map ev)) fun z=>K z mu
 | .fieldAddr s x f=>OptK (J6 P s f (ev x)) fun z=>K z mu
 | .field t x f=>OptK (J9 P t f (ev x)) fun z=>K z mu
 | .indexAddr t x i=>OptK (J7 P t (ev x) (ev i)) fun z=>K z mu
 | .index t x i=>OptK (Va P t (ev x) (ev i)) fun z=>K z mu
 | .extract t i=>OptK (Wk i (ev t)) fun z=>K z mu
 | .typeAssert x _ t ok=>OptK (Vm P t ok (ev x)) fun z=>K z mu
 | .makeMap _ r=>r=none/\K (.mp mu.length) (mu++[.mp []])
 | .lookup t m k ok=>OptK (yg P mu t (ev m) (ev k) ok) fun z=>K z mu
 | .mapUpdate t m k v=>OptK (jt P mu t (ev m) (ev k) (ev v)) fun m=>K (.sc xa) m
 | .insert t m k v=>OptK (jt P mu t (ev m) (ev k) (ev v)) fun m=>K (.sc xa) m
 | .mapEntry t m k=>OptK (ZW P mu t (ev m) (ev k)) fun z=>K z.1 z.2
 | .entryStore _ m s v=>OptK (Wh mu (ev m) (ev s) (ev v)) fun m=>K (.sc xa) m
 | .range t m=>OptK (Vj P mu t (ev m)) fun z=>K z.1 z.2
 | .next i str=>det=false/\str=false/\Wi mu (ev i) K
 | .entry i=>OptK (Zk mu (ev i)) fun z=>K z mu
 | .panic x=>det=false/\∃ t v,ev x = .ifc t v/\C (.ifc t v) mu
 | .call c=>match c.callee with
  | .value f=>qc P det mu (ev f) (evs ev c.args.toList) K C
  | .builtin b=>match b with
   | .append=>∃ s x,evs ev c.args.toList=[s,x]/\qF P mu c.argTypes s x K
   | .copy=>un P mu .copy c.argTypes (evs ev c.args.toList) K
   | .delete=>un P mu .delete c.argTypes (evs ev c.args.toList) K
   | .clear=>un P mu .clear c.argTypes (evs ev c.args.toList) K
   |b=>OptK (um P mu b c.argTypes (evs ev c.args.toList)) fun z=>K z mu
  | .invoke _ _=>False
 |_=>False
theorem qeE{o:xd}{a:Act}{s:Sem uk}{u:uk}{w':j3}(g:s.run P w = .ok u w')(i:next (a.put o.dst u) w') :
  o.upon P a next Q ((do pure (Next.value (<-s)):Sem Next).run P w):=by
 simp only[qT,g,qW,zD,Oper.upon];exact i
theorem Vn{o:xd}{a:Act}{s:Sem Unit}{w':j3}(g:s.run P w = .ok () w')(i:next (a.put o.dst xa) w') :
  o.upon P a next Q ((do s;pure Next.skip:Sem Next).run P w):=by
 simp only[qT,g,qW,zD,Oper.upon];exact i
theorem wD{ev:us->AV}(g:∀ x,VRel G h (ev x) (ρ x))(l:Array us):zM G h (evs ev l.toList) (l.map ρ):=by
 refine⟨by simp[evs],fun k x hx=>?_⟩;simp only[evs,List.getElem?_map,Option.map_eq_some_iff,Array.getElem?_toList]at hx;obtain⟨y,i,rfl⟩:=hx;have:(l.map ρ).getD k xa=ρ y:=by simp[qH,i]
 rw[this];exact g y
theorem kY{ev:us->AV}(g:∀ x,VRel G h (ev x) (ρ x))(l:Array (Nat×us)) :
  YJ G h (l.toList.map fun p=>(p.1,ev p.2)) ((l.map fun (x:Nat×us)=>(x.1,ρ x.2)).toList):=by
 rw[Array.toList_map];induction l.toList with
 |nil=>trivial
 |cons p j i=>exact⟨rfl,g _,i⟩
theorem zM.append3{xs ys zs:List AV}{a b c:Array uk}(j:zM G h xs a)(l:zM G h ys b)(o:zM G h zs c):zM G h (xs++ys++zs) (a++b++c):=by
 obtain⟨g,g1⟩:=j;obtain⟨i,p⟩:=l;obtain⟨r,t⟩:=o;refine⟨by simp[g,i,r],fun k x hx=>?_⟩;simp only[qH]at *
 by_cases C:k<xs.length
 .rw [zE,qo C]at hx
  rw[Array.append_assoc,Array.getElem?_append_left zOm];exact g1 k x hx
 .by_cases J:k<xs.length+ys.length
  .rw [qo zSo,zf zOm]at hx
   rw[Array.getElem?_append_left zSo,Array.getElem?_append_right zOm,g];exact p _ x hx
  .rw [zf zSo]at hx
   rw[Array.getElem?_append_right zSo];have I:(xs++ys).length=(a++b).size:=by simp[g,i]
   rw[I]at hx;exact t _ x hx
theorem kZ{mu:Mu}(s:Sim G mu w.heap){f:AV}{args:List AV}{v:AV}{fv:uk}{vs:Array uk}(rf:VRel G w.heap f fv)(ra:zM G w.heap args vs)
  (h:YT P mu f args v):∃ g first caps,fv = .func (.func g) first caps/\je P g/\Calls P g (first++vs++caps) w fun e w'=>∃ G' u,e = .returned u/\Stp G mu w G' mu w'/\VRel G' w'.heap v u:=by
 have step:∀(a0 l:Nat->Prop) (w':j3),(∀ b,G.imm b->a0 b)->(∀ b,l b->b<w'.heap.size/\(a0 b\/w.heap.size<=b))->ZS w.heap.size w w'->(∀ b,a0 b->G.imm b\/Live G mu b) ->
   Stp G mu w ⟨fun b=>G.imm b\/(l b/\w.heap.size<=b),G.blk⟩ mu w':=by
  intro a0 l w' h1 T r h3;have a2:G.le ⟨fun b=>G.imm b\/(l b/\w.heap.size<=b),G.blk⟩:=⟨fun b h => .inl h,fun _ _ h=>h⟩;have he:Ext G w.heap w'.heap:=⟨r.size,fun b p=>r.block b (s.imm b p)⟩;have key:∀ b,Live G mu b->w'.heap[b]?=w.heap[b]?:=fun b hl=>r.block b (s.livesize hl)
  refine⟨a2,⟨s.len,?_,?_,?_,s.inj,s.tab.mono a2.imm (fun b p=>r.block b (s.imm b p))⟩,fun b a3 _=>r.block b a3,r.size,fun b h => .inl h,fun b h=>h.elim .inl (fun e => .inr (.inr e.2)),r.tape,r.os,r.output,r.drawn⟩
  .intro b p
   rcases p with p|p
   .exact ZL (s.imm b p) r.size
   .exact (T b p.1).1
  .intro i c a1 I hc hd hk
   obtain⟨o',g1,g2⟩:=s.obj i c a1 I hc hd hk;exact⟨o',by rw[key a1 ⟨i,_,I,hc,hd,hk⟩];exact g1,g2.mono a2 he⟩
  .intro i c a1 I hc hd hk p
   rcases p with p|p
   .exact s.live i c a1 I hc hd hk p
   .have:=s.livesize ⟨i,c,I,hc,hd,hk⟩;omega
 rcases h with h|⟨g,fi,ca,j,rfl,⟨J,hs⟩,h⟩
 case inr =>
  cases rf with
  |fn _ _ _ t C hn hm hv hw =>
  refine⟨g,t,C,rfl,J,?_⟩;have o:=zM.append3 (G:=G) (h:=w.heap) ⟨hn,hv⟩ ra ⟨hm,hw⟩;obtain⟨hl,hg⟩:=h.get;have R:zM ⟨fun b=>G.imm b\/Live G mu b,[]⟩ w.heap j (t++vs++C):=by
   refine⟨by rw[o.1,hl],fun k y hy=>?_⟩;have hk:k<j.length:=(qk.1 hy).1;have hx:(fi++args++ca)[k]?=some ((fi++args++ca)[k]' zOm):=by rw[qA]
   exact(hg k _ y hx hy).sound s (o.2 k _ hx)
  refine(hs _ w _ (s.all) R).mono fun e w' ⟨nw,u,he,T,r,hr⟩=>?_
  have U:=step (fun b=>G.imm b\/Live G mu b) nw w' (fun b h => .inl h) (fun b h=>⟨(T b h).2,.inr (T b h).1⟩) r (fun b h=>h);refine⟨_,u,he,U,hr.le (G':=⟨fun b=>G.imm b\/(nw b/\w.heap.size<=b),G.blk⟩) ⟨fun b p => .inr ⟨p,(T b p).1⟩,fun i x h=>by simp at h⟩⟩
 obtain⟨g,fi,ca,j,rfl,⟨J,hs⟩,h⟩:=h;cases rf with
 |fn _ _ _ t C hn hm hv hw =>
 refine⟨g,t,C,rfl,J,?_⟩;have o:=zM.append3 (G:=G) (h:=w.heap) ⟨hn,hv⟩ ra ⟨hm,hw⟩;rcases h with h|⟨h,a4⟩
 .obtain ⟨hl,hg⟩:=h.get
  have R:zM ⟨G.imm,[]⟩ w.heap j (t++vs++C):=by
   refine⟨by rw[o.1,hl],fun k y hy=>?_⟩;have hk:k<j.length:=(qk.1 hy).1;have hx:(fi++args++ca)[k]?=some ((fi++args++ca)[k]' zOm):=by rw[qA]
   exact hg k _ y hx hy G w.heap _ (o.2 k _ hx)
  refine(hs G.imm w _ s.bare R).mono fun e w' ⟨l,u,he,h1,T,r,hr⟩=>?_
  have U:=step G.imm l w' (fun b h=>h) T r (fun b h => .inl h);refine⟨_,u,he,U,?_⟩;refine hr.le ⟨fun b p=>?_,fun i x h=>by simp at h⟩;rcases (T b p).2 with h|h
  .exact .inl h
  .exact .inr ⟨p,h⟩
 .obtain ⟨hl,hg⟩:=h.get
  have R:zM ⟨fun b=>G.imm b\/Live G mu b,[]⟩ w.heap j (t++vs++C):=by
   refine⟨by rw[o.1,hl],fun k y hy=>?_⟩;have hk:k<j.length:=(qk.1 hy).1;have hx:(fi++args++ca)[k]?=some ((fi++args++ca)[k]' zOm):=by rw[qA]
   exact(hg k _ y hx hy).sound s (o.2 k _ hx)
  refine(hs _ w _ (s.all) R).mono fun e w' ⟨l,u,he,h1,T,r,hr⟩=>?_
  have U:=step _ l w' (fun b h => .inl h) T r (fun b h=>h);exact⟨_,u,he,U,a4 _ _ _ _ _ hr⟩
end
end Go.Ev
namespace Go.Ev
open Go Go.RowKit
section
variable {K Kp:AV->Mu->Prop}{a:Act}{G:Gh}{o:xd}{P:j1}{w:j3}
theorem qeF{h:Array Obj}{x z:AV}{v:uk}(r:VRel G h x v)(e:Vl x=some z) :
  z=x/\((∃ a,v = .pointer (some a))\/(∃ t u,v = .iface t u)\/(∃ f a b,v = .func (.func f) a b)):=by
 unfold Vl at e;split at e<;>simp only[qp,reduceCtorEq]at e<;>subst e
 .cases r;exact⟨rfl,.inl ⟨_,rfl⟩⟩
 .cases r;exact⟨rfl,.inl ⟨_,rfl⟩⟩
 .cases r;exact⟨rfl,.inr (.inl ⟨_,_,rfl⟩)⟩
 .cases r;exact⟨rfl,.inr (.inr ⟨_,_,_,rfl⟩)⟩
theorem k5{t:j2}(h:Zl P t=true):∃ d,P.underlying t=some d/\∀ g,d ≠ .interface g:=by
 unfold Zl at h;split at h
 .exact absurd h zSp
 .rename_i d i j
  exact⟨d,j,fun g e=>i g e⟩
 .exact absurd h zSp
theorem qeG{U t:j2}{ok:Bool}{x z:AV}{v:uk}(r:VRel G w.heap x v)(h:Vm P t ok x=some z) :
  ∃ u,(Instr.typeAssert v U t ok).run P w = .ok u w/\VRel G w.heap z u:=by
 unfold Vm at h;have tup:∀(y:AV) (u:uk) (b:Bool),VRel G w.heap y u->VRel G w.heap (.tup [y,.sc (.bool b)]) (.tuple #[u,.bool b]):=by
  intro y u b ry;refine .tup _ _ rfl (fun k c l=>?_);cases k with
  |zero=>simp at l;subst l;exact ry
  |succ k=>cases k with
   |zero=>simp at l;subst l;exact .sc _ rfl
   |succ k=>simp at l
 split at h
 .rename_i hc
  obtain⟨d,p,C⟩:=k5 hc;have zero:∀ z,qC P t=some z->∃ g,(zeroValue t).run P w = .ok g w/\VRel G w.heap z g:=by
   intro z i;obtain⟨g,o,rfl⟩:=Zh i w;exact⟨g,o,.ofV g⟩
  split at h
  .rename_i ut uv
   cases r with
   |ifc _ _ v T =>
   split at h
   .rename_i I
    subst I;simp only[qp]at h;subst h;cases ok
    .refine ⟨v,?_,T⟩
     simp only[Instr.typeAssert,qT,run_underlying p,qW];cases d<;>first | (exact absurd rfl (C _))|simp
    .refine ⟨.tuple #[v,.bool true],?_,tup _ _ _ T⟩
     simp only[Instr.typeAssert,qT,run_underlying p,qW];cases d<;>first | (exact absurd rfl (C _))|simp
   .rename_i I
    split at h
    .rename_i j
     subst j;cases i:qC P t with
     |none=>simp[i]at h
     |some J =>
      simp only[i,zd,qp]at h;subst h;obtain⟨g,o,R⟩:=zero J i;refine⟨.tuple #[g,.bool false],?_,tup _ _ _ R⟩;simp only[Instr.typeAssert,qT,run_underlying p,qW];cases d<;>first | (exact absurd rfl (C _))|simp[I,o]
    .exact absurd h zSp
  .cases r
   split at h
   .rename_i j
    subst j;cases i:qC P t with
    |none=>simp[i]at h
    |some J =>
     simp only[i,zd,qp]at h;subst h;obtain⟨g,o,R⟩:=zero J i;refine⟨.tuple #[g,.bool false],?_,tup _ _ _ R⟩;simp only[Instr.typeAssert,qT,run_underlying p,qW];cases d<;>first | (exact absurd rfl (C _))|simp[o]
   .exact absurd h zSp
  .exact absurd h zSp
 .exact absurd h zSp
def k6(P:j1)(op:Op)(ev:us->AV)(mu:Mu)(K:AV->Mu->Prop):Prop:=
 ∃ f args j i R,op = .call { callee := .value f,args,argTypes:=j }/\ev f = .yl i/\Vk P i (evs ev args.toList) mu R/\∀ b m,R b m->K (.sc (.bool b)) m
theorem qeH{pl:Pol}{det:Bool}{mu:Mu}{ev:us->AV}(s:Sim G mu w.heap)(j:∀ x,VRel G w.heap (ev x) (a.eval x))
  (h:qD P pl det o.dst o.op ev mu K Kp) (hy:¬k6 P o.op ev mu K) {next:Act->j3->Prop} {Q:Exit->Act->j3->Prop}
  (hK:∀ v mu' G' w' u,K v mu'->Stp G mu w G' mu' w'->VRel G' w'.heap v u->next (a.put o.dst u) w')
  (a3:∀ v mu' G' w' u,Kp v mu'->Stp G mu w G' mu' w'->VRel G' w'.heap v u->Q (.panic [{ v:=u,recovered:=false }]) a w'):o.wp P a w next Q:=by
 obtain⟨dst,op,ty,pos,after,guard⟩:=o;simp only at h hK a3 hy;have T:∀{c:Sem uk} {x:AV} {mu':Mu},Good P G mu w c x mu'->K x mu'->∀{o':xd},o'.dst=dst->o'.upon P a next Q ((do pure (Next.value (<-c)):Sem Next).run P w):=by
  intro c x mu' ⟨u,w',G',h1,h2,h3⟩ C o' ho;exact qeE h1 (by rw[ho];exact hK _ _ _ _ _ C h2 h3)
 have quiet:∀{c:Sem uk} {x:AV} {u:uk},c.run P w = .ok u w->VRel G w.heap x u->K x mu->∀{o':xd},o'.dst=dst->o'.upon P a next Q ((do pure (Next.value (<-c)):Sem Next).run P w):=
  fun h1 h2 C _ ho=>T (Good.quiet s h1 h2) C ho
 unfold Oper.wp;cases op<;>simp only[qD]at h<;>try (exact h.elim)
 case move x=>exact hK _ _ _ _ _ h (Stp.refl s) (j x)
 case assign x=>exact hK _ _ _ _ _ h (Stp.refl s) (j x)
 case pick c x y =>
  obtain⟨t,hc,C⟩:=h;have rc:=j c;rw[hc]at rc;have ec:a.eval c = .bool t:=by generalize a.eval c=cv at rc;cases rc;rfl
  simp only[execOp,ec,asBool];refine hK _ _ _ _ _ C (Stp.refl s) ?_;cases t
  .exact j y
  .exact j x
 case alloc e =>
  obtain⟨z,I,h1,C⟩:=h;obtain⟨zv,a8,rfl⟩:=Zh I w;obtain⟨G',g1,J,g3⟩:=ky (P:=P) s e (VRel.ofV zv) h1;refine T ⟨_,_,G',?_,J,g3⟩ C rfl;simp only[Instr.alloc,qT,a8,qW,g1,zD]
 case box e x =>
  obtain⟨h1,C⟩:=h;split at C
  .obtain ⟨G',g1,J,g3⟩:=ky (P:=P) s e (j x) h1
   refine T ⟨_,_,G',?_,J,g3⟩ C rfl;simp only[Instr.box,qT,qW,g1,zD]
  .obtain ⟨G',g1,J,g3⟩:=qc7 (P:=P) s e (j x) h1
   refine T ⟨_,_,G',?_,J,g3⟩ C rfl;simp only[Instr.box,qT,qW,g1,zD]
 case build t ps =>
  obtain⟨h1,z,I,C⟩:=h;obtain⟨u,g1,J⟩:=qc6 (P:=P) (w:=w) (kY j ps) (fun y hy=>by unfold ym at h1;rw[hy]at h1;exact h1) I;exact quiet g1 J C rfl
 case buildSlice t n ps =>
  obtain⟨z,I,C⟩:=h;exact T (qdA s (kY j ps) I) C rfl
 case load t x =>
  obtain⟨z,I,C⟩:=h;obtain⟨ad,u,g0,g1,J⟩:=kh (P:=P) s (j x) I;refine quiet ?_ J C rfl;simp only[Instr.loadAt,g0,Instr.sureAddr,qT,zD,qW,g1]
 case store t x y =>
  obtain⟨m,hm,C⟩:=h;obtain⟨ad,w',g0,g1,J⟩:=qcN (P:=P) s (j x) (j y) hm;refine Vn (w':=w') ?_ ?_
  .simp only[Instr.storeAt,g0,Instr.sureAddr,qT,zD,qW,g1]
  .exact hK _ _ _ _ _ C J (.sc _ rfl)
 case nilCheck x =>
  obtain⟨z,I,C⟩:=h;obtain⟨rfl,hv⟩:=qeF (j x) I;have:(execOp a.eval { dst,op := .nilCheck x,type:=ty,pos,after,guard }).run P w = .ok (.value (a.eval x)) w:=by
   rcases hv with ⟨ad,hv⟩|⟨t,u,hv⟩|⟨f,b,c,hv⟩<;>simp[execOp,hv]
  rw[this];exact hK _ _ _ _ _ C (Stp.refl s) (j x)
 case binOp op t x y yt =>
  split at h
  .rename_i hy
   obtain rfl:=qeB hy;obtain⟨z,r,C,g1,J⟩:=jJ.sound (ox:=x) (oy := .const (.slice none 0 0)) (j x) h;exact quiet g1 J C rfl
  obtain⟨z,I,C⟩:=h;obtain⟨u,g1,J⟩:=qd9 (P:=P) (ox:=x) (oy:=y) (j x) (j y) I;exact quiet g1 J C rfl
 case unOp op t x =>
  obtain⟨z,I,C⟩:=h;obtain⟨u,g1,J⟩:=qcW (P:=P) (j x) I;exact quiet g1 J C rfl
 case convert src af x =>
  obtain⟨h1,z,I,C⟩:=h;obtain⟨u,g1,J⟩:=qcX (P:=P) (src:=src) (j x) (Option.isSome_iff_exists.1 h1) I;exact quiet g1 J C rfl
 case makeInterface t x =>
  obtain⟨h1,C⟩:=h;obtain⟨d,hu,hd⟩:=k5 h1;refine quiet (u := .iface t (a.eval x)) ?_ (.ifc t _ _ (j x)) C rfl;simp only[Instr.makeInterface,qT,run_underlying hu,qW];cases d<;>first | (exact absurd rfl (hd _))|simp
 case makeFunc f first a2 =>
  refine quiet (u := .func f (first.map a.eval) (a2.map a.eval)) rfl ?_ h rfl;have r1:=wD j first;have r2:=wD j a2;exact .fn f _ _ _ _ r1.1 r2.1 r1.2 r2.2
 case makeSlice t l c =>
  obtain⟨z,I,C⟩:=h;exact T (qdB s (j l) (j c) I) C rfl
 case slice t x lo hi mx =>
  obtain⟨hr,z,I,C⟩:=h;obtain⟨u,g1,J⟩:=qc2 (P:=P) (w:=w) (vlo:=lo.map a.eval) (vhi:=hi.map a.eval) (vmx:=mx.map a.eval) (j x)
   (fun y hy=>by cases lo with|none=>simp at hy|some q=>simp at hy;subst hy;exact⟨_,rfl,j q⟩) (fun h=>by cases lo with|none=>rfl|some q=>simp at h)
   (fun y hy=>by cases hi with|none=>simp at hy|some q=>simp at hy;subst hy;exact⟨_,rfl,j q⟩) (fun h=>by cases hi with|none=>rfl|some q=>simp at h)
   (fun y hy=>by cases mx with|none=>simp at hy|some q=>simp at hy;subst hy;exact⟨_,rfl,j q⟩) (fun h=>by cases mx with|none=>rfl|some q=>simp at h)
   (fun full p e=>by rw[e]at hr;exact hr) I
  exact quiet g1 J C rfl
 case fieldAddr t x f =>
  obtain⟨z,I,C⟩:=h;obtain⟨u,g1,J⟩:=qcY (P:=P) (j x) I;exact quiet g1 J C rfl
 case field t x f =>
  obtain⟨z,I,C⟩:=h;obtain⟨u,g1,J⟩:=qc0 (P:=P) (j x) I;exact quiet g1 J C rfl
 case indexAddr t x i =>
  obtain⟨z,I,C⟩:=h;obtain⟨u,g1,J⟩:=qcZ (P:=P) (j x) (j i) I;exact quiet g1 J C rfl
 case index t x i =>
  obtain⟨z,I,C⟩:=h;obtain⟨u,g1,J⟩:=qc1 (P:=P) (j x) (j i) I;exact quiet g1 J C rfl
 case extract t i =>
  obtain⟨z,I,C⟩:=h;have rt:=j t;unfold Wk at I;split at I
  .rename_i cs e
   rw[e]at rt;generalize hq:a.eval t=tv at rt;cases rt with
   |tup _ vs hn hv =>
   have aj:i<cs.length:=(qk.1 I).1;have a9:i<vs.size:=zOm;refine quiet (u:=vs.getD i xa) ?_ (hv i z I) C rfl;simp[hq,Instr.extract,a9,qH]
  .exact absurd I zSp
 case typeAssert x xt t ok =>
  obtain⟨z,I,C⟩:=h;obtain⟨u,g1,J⟩:=qeG (P:=P) (j x) I;exact quiet g1 J C rfl
 case makeMap t r =>
  obtain⟨rfl,C⟩:=h;exact T (qd1 (P:=P) (t:=t) s) C rfl
 case lookup t m k ok =>
  obtain⟨z,I,C⟩:=h;obtain⟨u,g1,J⟩:=qdQ (P:=P) s (j m) (j k) I;exact quiet g1 J C rfl
 case mapUpdate t m k v =>
  obtain⟨m',hm,C⟩:=h;obtain⟨w',g1,J⟩:=kU (P:=P) s (j m) (j k) (j v) hm;exact Vn (w':=w') g1 (hK _ _ _ _ _ C J (.sc _ rfl))
 case insert t m k v =>
  obtain⟨m',hm,C⟩:=h;obtain⟨w',g1,J⟩:=kU (P:=P) s (j m) (j k) (j v) hm;exact Vn (w':=w') g1 (hK _ _ _ _ _ C J (.sc _ rfl))
 case mapEntry t m k =>
  obtain⟨z,I,C⟩:=h;exact T (qdZ s (j m) (j k) I) C rfl
 case entryStore t m U v =>
  obtain⟨m',hm,C⟩:=h;obtain⟨w',g1,J⟩:=qd0 (P:=P) (t:=t) s (j m) (j U) (j v) hm;exact Vn (w':=w') g1 (hK _ _ _ _ _ C J (.sc _ rfl))
 case range t m =>
  obtain⟨z,I,C⟩:=h;exact T (qd2 s (j m) I) C rfl
 case next i str =>
  obtain⟨_,rfl,hn⟩:=h;obtain⟨z,mu',C,hg⟩:=qd3 (P:=P) (ty:=ty) s (j i) hn;exact T hg C rfl
 case entry i =>
  obtain⟨z,I,C⟩:=h;obtain⟨u,g1,J⟩:=qd4 (P:=P) s (j i) I;exact quiet g1 J C rfl
 case panic x =>
  obtain⟨_,t,v,hx,C⟩:=h;have rx:=j x;rw[hx]at rx;generalize hq:a.eval x=xv at rx;cases rx with
  |ifc _ _ u hu =>
  simp only[execOp,hq,Instr.panic];exact a3 _ _ _ _ _ C (Stp.refl s) (.ifc t v u hu)
 case call c =>
  obtain⟨callee,args,argTypes⟩:=c;simp only at h;cases callee with
  |invoke r m=>exact h.elim
  |builtin b =>
   have fin:∀ z,um P mu b argTypes (evs ev args.toList)=some z->K z mu->Oper.upon P { dst,op := .call { callee := .builtin b,args,argTypes },type:=ty,pos,after,guard } a next Q
     ((execOp a.eval { dst,op := .call { callee := .builtin b,args,argTypes },type:=ty,pos,after,guard }).run P w):=by
    intro z I C;obtain⟨u,g1,J⟩:=qeD (P:=P) (ty:=ty) (cs:=args.map fun | .const _=>true|_=>false) s (wD j args) I;have:(execOp a.eval { dst,op := .call { callee := .builtin b,args,argTypes },type:=ty,pos,after,guard }).run P w = .ok (.value u) w:=by
     simp only[execOp,resolve,qT,zD,qW,invoke];exact g1
    rw[this];exact hK _ _ _ _ _ C (Stp.refl s) J
   have aa:un P mu b argTypes (evs ev args.toList) K->Oper.upon P { dst,op := .call { callee := .builtin b,args,argTypes },type:=ty,pos,after,guard } a next Q
     ((execOp a.eval { dst,op := .call { callee := .builtin b,args,argTypes },type:=ty,pos,after,guard }).run P w):=by
    intro⟨z,m,I,C⟩;have ra:=wD j args;obtain⟨u,w',g1,J,g3⟩:=qd6 (P:=P) (ty:=ty) (cs:=args.map fun | .const _=>true|_=>false) s ra.1 ra.2 I;have:(execOp a.eval { dst,op := .call { callee := .builtin b,args,argTypes },type:=ty,pos,after,guard }).run P w = .ok (.value u) w':=by
     simp only[execOp,resolve,qT,zD,qW,invoke];exact g1
    rw[this];exact hK _ _ _ _ _ C J g3
   cases b<;>simp only at h<;>try (first|exact aa h | (obtain⟨z,I,C⟩:=h;exact fin z I C))
   obtain⟨sv,xv,hl,ab⟩:=h;have ra:=wD j args;rw[hl]at ra;obtain⟨u,v,e1,ru,rv⟩:=ra.two_inv;obtain⟨z,mu',C,v',w',G',g1,J,g3⟩:=qdF (ty:=ty) s ru rv ab;have:(execOp a.eval { dst,op := .call { callee := .builtin .append,args,argTypes },type:=ty,pos,after,guard }).run P w = .ok (.value v') w':=by
    simp only[execOp,resolve,qT,zD,qW,invoke,builtin,e1,g1]
   rw[this];exact hK _ _ _ _ _ C J g3
  |value f =>
   rcases h with ⟨v,hp,C⟩|⟨_,⟨g,fi,ca,R,hf,hs,hr,ae⟩|⟨i,R,hf,hs,C⟩⟩
   .obtain ⟨g,a5,a6,e1,a0,hc⟩:=kZ s (j f) (wD j args) hp
    have:(execOp a.eval { dst,op := .call { callee := .value f,args,argTypes },type:=ty,pos,after,guard }).run P w = .ok (.enter g (a5++args.map a.eval++a6)) w:=by
     simp only[execOp,resolve,qT,zD,qW,e1,Deferred.ofValue,invoke,a0 _ w]
    rw[this];refine hc.mono fun e w' ⟨G',u,he,a1,hu⟩=>?_
    subst he;exact hK _ _ _ _ _ C a1 hu
   .have rf:=j f
    rw[hf]at rf;generalize hq:a.eval f=fv at rf;cases rf with
    |fn _ _ _ a5 a6 hn hm hv hw =>
    obtain⟨a0,hs⟩:=hs;have:(execOp a.eval { dst,op := .call { callee := .value f,args,argTypes },type:=ty,pos,after,guard }).run P w = .ok (.enter g (a5++args.map a.eval++a6)) w:=by
     simp only[execOp,resolve,qT,zD,qW,hq,Deferred.ofValue,invoke,a0 _ w]
    rw[this];refine(hs G w _ s (zM.append3 ⟨hn,hv⟩ (wD j args) ⟨hm,hw⟩)).mono fun e w' ⟨G',mu',a1,h⟩=>?_
    rcases h with ⟨r,v,hR,rfl,a7⟩|⟨r,v,hR,rfl,a7⟩
    .exact hK _ _ _ _ _ (hr r mu' hR) a1 a7
    .exact a3 _ _ _ _ _ (ae r mu' hR) a1 a7
   .exact (hy ⟨f,args,argTypes,i,R,rfl,hf,hs,C⟩).elim
structure Ro where
 rd:Option Nat
 dl:List Deferred
 mks:Bool
 kp:List (AV×uk)
def Ro.fn:Ro:=⟨none,[],true,[]⟩
def Ro.round(l:Nat):Ro:=⟨some l,[],true,[]⟩
def WF(ro:Ro):Fence:={ Fence.wide with round:=ro.rd }
theorem k7{ro:Ro}{next:Act->j3->Prop}{Q:Exit->Act->j3->Prop}{g:Result Next}(h:o.upon P a next Q g):o.uponIn (WF ro) 0 P a next Q g:=by
 have j:((WF ro).depth.isSome=true->1<=0):=fun h=>by simp[WF,Fence.wide]at h
 cases g with
 |halt i w=>cases i<;>first|exact h|exact h.elim
 |ok n w =>
  cases n
  case value v=>exact h
  case skip=>exact h
  case defer d=>exact h
  case enter f args =>
   refine⟨j,?_⟩;have:=(callsIn_wide (n:=0)).2 h;exact this
  case row row args =>
   refine⟨j,fun c l _=>?_⟩;obtain⟨v,p,r,t⟩:=h c l;exact⟨v,p,r,stepsIn_wide.2 t⟩
  all_goals exact h.elim
theorem Vo{pl:Pol}{det:Bool}{ro:Ro}{mu:Mu}{ev:us->AV}(s:Sim G mu w.heap)(g:∀ x,VRel G w.heap (ev x) (a.eval x))
  (h:qD P pl det o.dst o.op ev mu K Kp) {next:Act->j3->Prop} {Q:Exit->Act->j3->Prop}
  (I:∀ v mu' G' w' u,K v mu'->Stp G mu w G' mu' w'->VRel G' w'.heap v u->next (a.put o.dst u) w')
  (r:∀ v mu' G' w' u,Kp v mu'->Stp G mu w G' mu' w'->VRel G' w'.heap v u->Q (.panic [{ v:=u,recovered:=false }]) a w'):o.wpIn (WF ro) 0 P a w next Q:=by
 have J:∀ c,o.op ≠ .defer c:=by
  intro c e;rw[e]at h;simp only[qD]at h
 refine⟨fun _ _=>trivial,?_⟩;rw[show (WF ro).round=ro.rd from rfl,Oper.semAt_eq _ _ _ J];by_cases hy:k6 P o.op ev mu K
 .obtain ⟨f,args,T,i,R,ho,hf,hs,hk⟩:=hy
  obtain⟨dst,op,ty,pos,after,guard⟩:=o;simp only at ho I r⊢;subst ho;have U:=g f;rw[hf]at U;generalize hq:a.eval f=fv at U;cases U with
  |yl _ l a0 hb =>
  obtain⟨fn,t,a1,C,h1,h2⟩:=hs G w (args.map a.eval) s (wD g args) l a0 hb;have:(execOp a.eval { dst,op := .call { callee := .value f,args,argTypes:=T },type:=ty,pos,after,guard }).run P w = .ok (.round l fn t a1 C) w:=by
   simp only[execOp,resolve,qT,zD,qW,hq,Deferred.ofValue,invoke];simpa using h1
  rw[this];refine⟨fun h=>by simp[WF,Fence.wide]at h,?_⟩;refine RoundIn.mono (F:=WF ro) (n:=0) h2 ?_;rintro e w' ⟨b,G',mu',rfl,a2,hR⟩;exact I _ _ _ _ _ (hk b mu' hR) a2 (.sc _ rfl)
 .exact k7 (qeH s g h hy I r)
end
end Go.Ev
namespace Go.Ev
open Go Go.RowKit
section
variable {ops:Array xd}
def pe(o:xd):List Edge:=o.after.toList.filter (Region.binds .any)
theorem Vp{e:Edge}(h:Region.binds .any e=true)(m:Region.Mode):Region.binds m e=true:=by
 unfold Region.binds at *
 split at h
 .exact absurd h zSp
 .exact absurd h zSp
 .rfl
def Qk(ops:Array xd)(i:Nat):List Nat:=match ops[i]? with|some o=>(pe o).map (·.on)|none=>[]
def k8(ops:Array xd):Bool:=(qu ops.size).all fun i=>match ops[i]? with|some o=>o.after.toList.all fun e=>decide (e.on<i)||!Region.binds .text e|none=>true
def k9(ops:Array xd):Bool:=(qu ops.size).all fun i=>match ops[i]? with|some o=>o.after.toList.all fun e=>decide (e.on<i)|none=>true
def pa(ops:List xd):Nat->List Nat->List Nat
 | 0,g=>g.reverse
 |n+1,g=>match (qu ops.length).find? fun i=>!g.contains i&&(match ops[i]? with|some o=>o.after.toList.all fun e=>!Region.binds .gc e||g.contains e.on|none=>false) with
  |some i=>pa ops n (i :: g)
  |none=>g.reverse
def Wl(ops:Array xd)(L:List Nat):Bool:=decide (L.length=ops.size)&&(qu L.length).all fun p=>match L[p]? with
 |some i=>!(L.take p).contains i&&(match ops[i]? with|some o=>o.after.toList.all fun e=>!Region.binds .gc e||(L.take p).contains e.on|none=>false)
 |none=>false
def jm(ops:Array xd):Bool:=k8 ops&&(k9 ops||Wl ops (pa ops.toList ops.size []))
theorem Wm(h:jm ops=true):∀(i:Nat) (o:xd),ops[i]?=some o->∀ e,e∈o.after.toList->Region.binds .text e=true->e.on<i:=by
 intro i o g e j l;unfold jm at h;rw[qB]at h;have h:=h.1;unfold k8 at h;rw[qI]at h;have:=h i (by simpa using (yf.1 g).1);rw[g]at this;simp only[qI]at this;have:=this e j;rw[l]at this;simpa using this
theorem pb{o:xd}{e:Edge}(h:e∈pe o):e∈o.after.toList/\Region.binds .text e=true:=⟨(vt.1 h).1,Vp (vt.1 h).2 .text⟩
def Topo(ops:Array xd)(L:List Nat):Prop:=∀ pre j post,L=pre++j :: post->j<ops.size/\j ∉ pre/\∀ e,e∈Qk ops j->e∈pre
theorem Topo.nil(ops:Array xd):Topo ops []:=fun pre j post h=>by simp at h
theorem Topo.snoc{L:List Nat}{j:Nat}(h:Topo ops L)(i:j<ops.size)(l:j ∉ L)(o:∀ e,e∈Qk ops j->e∈L):Topo ops (L++[j]):=by
 intro pre k post e;rcases List.eq_nil_or_concat post with rfl|⟨g,x,rfl⟩
 .have:=List.append_inj' e rfl
  obtain⟨rfl,h⟩:=this;simp only[uN,and_true]at h;subst h;exact⟨i,l,o⟩
 .rw [<-List.concat_eq_append,List.concat_eq_append,List.concat_eq_append,<-jd,<-zE]at e
  have:=List.append_inj' e rfl;exact h pre k g this.1
theorem qeI(acc:List Nat){n:Nat}:∀ i,i<n->i ∉ acc->∃ j,j<n/\j ∉ acc/\∀ k,k<j->k∈acc:=by
 intro i;induction i using Nat.strongRecOn with
 |_ i p =>
  intro r g;by_cases h:∀ k,k<i->k∈acc
  .exact ⟨i,r,g,h⟩
  .obtain ⟨k,t⟩:=Classical.not_forall.1 h
   obtain⟨l,o⟩:=Classical.not_imp.1 t;exact p k l zOm o
theorem Wn{m:Region.Mode}(g:∀(i:Nat) (o:xd),ops[i]?=some o->∀ e,e∈o.after.toList->Region.binds m e=true->e.on<i)(acc:List Nat)(p:∃ i,i<ops.size/\i ∉ acc) :
  ∃ j,j<ops.size/\j ∉ acc/\∀ o,ops[j]?=some o->∀ e,e∈o.after.toList->Region.binds m e=true->e.on∈acc:=by
 obtain⟨i,C,r⟩:=p;obtain⟨j,I,t,l⟩:=qeI acc i C r;exact⟨j,I,t,fun o J e P R=>l _ (g j o J e P R)⟩
theorem qeJ{L:List Nat}(h:Wl ops L=true)(acc:List Nat)(R:∃ i,i<ops.size/\i ∉ acc) :
  ∃ j,j<ops.size/\j ∉ acc/\∀ o,ops[j]?=some o->∀ e,e∈o.after.toList->Region.binds .gc e=true->e.on∈acc:=by
 unfold Wl at h;rw[qB,decide_eq_true_eq,qI]at h;obtain⟨a5,hp⟩:=h;have hp:∀ p,p<L.length->∃ i,L[p]?=some i/\i ∉ L.take p/\∃ o,ops[i]?=some o/\∀ e,e∈o.after.toList->Region.binds .gc e=true->e.on∈L.take p:=by
  intro p g;have:=hp p (zUs g);rw[qA g]at this;simp only[qB,Bool.not_eq_true']at this;refine⟨L[p],zP1 g,by simpa using this.1,?_⟩;cases r:ops[L[p]]? with
  |none=>rw[r]at this;simp at this
  |some o =>
   rw[r]at this;refine⟨o,rfl,fun e T U=>?_⟩;have I:=this.2;simp only[qI]at I;have:=I e T;rw[U]at this;simpa using this
 have a0:L.Nodup:=by
  unfold List.Nodup;rw[List.pairwise_iff_getElem];intro i j J P a6 e;obtain⟨x,hx,hn,_⟩:=hp j P;rw[qA P]at hx;simp only[qp]at hx;refine hn ?_;rw[<-hx,<-e];exact ZM.2 ⟨i,zSo,zSp⟩
 have a1:∀ x,x∈L->x<ops.size:=by
  intro x hx;obtain⟨p,g,e⟩:=ZM.1 hx;obtain⟨y,hy,_,o,r,_⟩:=hp p g;rw[qA g]at hy;simp only[qp]at hy;rw[<-e,hy];exact(yf.1 r).1
 have C:∀ i,i<ops.size->i∈L:=by
  intro i J;refine uJ fun hn=>?_
  have h1:(i :: L).length<=(qu ops.size).length:=jT (vb.2 ⟨hn,a0⟩) (fun k hk=>by
   rcases qt.1 hk with rfl|hk
   .simpa using J
   .simpa using a1 k hk)
  simp at h1;omega
 obtain⟨i,J,a2⟩:=R;have key:∀ n p,L.length=p+n->(∀ x,x∈L.take p->x∈acc)->∃ q,q<L.length/\(∀ x,x∈L.take q->x∈acc)/\∀ x,L[q]?=some x->x ∉ acc:=by
  intro n;induction n with
  |zero =>
   intro p a3 hx;rw[List.take_of_length_le zOm]at hx;exact absurd (hx i (C i J)) a2
  |succ n ih =>
   intro p a3 hx;by_cases hc:L[p]' zOm∈acc
   .refine ih (p+1) zOm fun x l=>?_
    rw[List.take_add_one,qA zOm]at l;rcases qM.1 l with h|h
    .exact hx x h
    .simp at h;rw[h];exact hc
   .refine ⟨p,zOm,hx,fun x l=>?_⟩
    rw[qA zOm]at l;simp only[qp]at l;rw[<-l];exact hc
 obtain⟨q,hq,h1,I⟩:=key L.length 0 zOm zSp;obtain⟨j,P,_,o,r,T⟩:=hp q hq;refine⟨j,(yf.1 r).1,I j P,fun o' t e a4 U=>h1 _ (T e ?_ U)⟩;rw[r]at t;simp only[qp]at t;rw[t];exact a4
theorem qeK(h:jm ops=true)(m:Region.Mode)(acc:List Nat)(g:∃ i,i<ops.size/\i ∉ acc) :
  ∃ j,j<ops.size/\j ∉ acc/\∀ o,ops[j]?=some o->∀ e,e∈o.after.toList->Region.binds m e=true->e.on∈acc:=by
 have C:=Wm h;cases m with
 |text=>exact Wn C acc g
 |any=>exact Wn (fun i o p e r t=>C i o p e r (Vp t .text)) acc g
 |gc =>
  unfold jm at h;rw[qB,wr]at h;rcases h.2 with l|l
  .refine Wn (fun i o p e r _=>?_) acc g
   unfold k9 at l;rw[qI]at l;have:=l i (by simpa using (yf.1 p).1);rw[p]at this;simp only[qI,decide_eq_true_eq]at this;exact this e r
  .exact qeJ l acc g
theorem qeL(R:jm ops=true)(m:Region.Mode):∀(fuel t:Nat) (listed:Array Bool) (acc:List Nat),fuel+acc.length=ops.size->listed.size=ops.size ->
  (∀ i,i<ops.size->(listed.getD i true=true↔i∈acc))->Topo ops acc.reverse->acc.Nodup->(∀ i,i∈acc->i<ops.size) ->
  Topo ops (Region.linearise.go m ops fuel t listed acc)/\(Region.linearise.go m ops fuel t listed acc).length=ops.size:=by
 have o:=Wm R;have p:=qeK R m;intro fuel;induction fuel with
 |zero =>
  intro t listed acc hf hs C ht hn hb;simp only[Region.linearise.go];exact⟨ht,zSo⟩
 |succ fuel ih =>
  intro t listed acc hf hs C ht hn hb;simp only[Region.linearise.go];generalize T:((qu ops.size).filter fun i=>!listed.getD i true&&((ops[i]?).map (·.after.all fun e=>!Region.binds m e||listed.getD e.on false)).getD false)=l;have U:∀ i,i∈l->i<ops.size/\i ∉ acc/\∀ e,e∈Qk ops i->e∈acc:=by
   intro i I;rw[<-T,vt]at I;obtain⟨h1,h2⟩:=I;have h1:i<ops.size:=zUs h1;simp only[qB,Bool.not_eq_true']at h2;refine⟨h1,fun h=>?_,fun e J=>?_⟩
   .rw [(C i h1).2 h]at h2;exact absurd h2.1 zSp
   .unfold Qk at J
    have P:ops[i]?=some ops[i]:=zP1 h1;rw[P]at J;simp only[qr]at J;obtain⟨x,a4,rfl⟩:=J;obtain⟨hx,a0⟩:=vt.1 a4;have h3:=h2.2;rw[P]at h3;simp only[zd,Option.getD_some]at h3;have h4:=(Array.all_eq_true'.1 h3) x (by simpa using hx);rw[Vp a0 m]at h4;simp only[Bool.not_true,Bool.false_or]at h4;have ab:x.on<i:=o i _ P x hx (Vp a0 .text);refine(C x.on zOm).1 ?_;have:x.on<listed.size:=zOm;simp only[qH,uM this,Option.getD_some]at h4⊢;exact h4
  have a5:l≠[]:=by
   have a6:∃ i,i<ops.size/\i ∉ acc:=by
    refine uJ fun a7=>?_
    have a1:∀ i,i<ops.size->i∈acc:=fun i I=>uJ fun h=>a7 ⟨i,I,h⟩
    have:(qu ops.size).length<=acc.length:=jT (List.nodup_range) (fun i I=>a1 i (zUs I));simp at this;omega
   obtain⟨j,hj,a8,a2⟩:=p acc a6;intro e;have:j∈l:=by
    rw[<-T,vt];refine⟨zUs hj,?_⟩;have P:ops[j]?=some ops[j]:=zP1 hj;simp only[P,zd,Option.getD_some,qB,Bool.not_eq_true'];refine⟨?_,?_⟩
    .cases hq:listed.getD j true with
     |false=>rfl
     |true=>exact absurd ((C j hj).1 hq) a8
    .refine Array.all_eq_true'.2 fun x hx=>?_
     cases a9:Region.binds m x with
     |false=>rfl
     |true =>
      have hm:=a2 _ P x (by simpa using hx) a9;have aa:=hb _ hm;have:=(C x.on aa).2 hm;have g:x.on<listed.size:=zOm;simp only[qH,uM g,Option.getD_some]at this⊢;simp[this]
   rw[e]at this;simp at this
  have a3:0<l.length:=List.length_pos_iff.2 a5;have g:t % l.length<l.length:=Nat.mod_lt _ a3;rw[qA g];simp only;obtain⟨g1,g2,g3⟩:=U _ (List.getElem_mem g);generalize l[t % l.length]=i at g1 g2 g3;refine ih _ _ _ zSo (zP1 hs) ?_ ?_ (vb.2 ⟨g2,hn⟩) (fun k hk=>?_)
  .intro k hk
   by_cases r:k=i
   .subst r
    have:k<listed.size:=zOm;simp[qH,this]
   .have:=C k hk
    simp only[qH]at this⊢;rw[K8 (fun h=>r h.symm)];rw[this];simp[r]
  .rw [List.reverse_cons]
   exact ht.snoc g1 (zUs g2) (fun e J=>by simpa using g3 e J)
  .rcases qt.1 hk with rfl|h
   .exact g1
   .exact hb k h
theorem pf(j:jm ops=true)(g:Bool)(t:Nat):Topo ops (Region.schedule g ops t)/\(Region.schedule g ops t).length=ops.size:=by
 have key:∀(m:Region.Mode) (t:Nat),Topo ops (Region.linearise m ops t)/\(Region.linearise m ops t).length=ops.size:=by
  intro m t;unfold Region.linearise;exact qeL j m ops.size t _ [] zSp zSp (fun i l=>by simp[qH,l]) (Topo.nil ops) List.nodup_nil zSp
 unfold Region.schedule;split
 .exact key _ _
 .exact key _ _
def wF(acc:List Nat)(o:xd):Nat:=(pe o).foldl (fun s e=>s ||| (2 ^ e.on ||| acc.getD e.on 0)) 0
def uo:List xd->List Nat->List Nat
 | [],g=>g
 |o :: l,g=>uo l (g++[wF g o])
theorem pg:∀(l:List xd) (acc:List Nat),∃ r,uo l acc=acc++r/\r.length=l.length
 | [],acc=>⟨[],by simp[uo],rfl⟩
 |o :: l,acc=>by
  obtain⟨r,g,i⟩:=pg l (acc++[wF acc o]);exact⟨wF acc o :: r,by simp[uo,g],zP1 i⟩
theorem ph(f:Edge->Nat)(i:Nat):∀(l:List Edge) (s:Nat),(l.foldl (fun s e=>s ||| f e) s).testBit i=true->s.testBit i=true\/∃ e,e∈l/\(f e).testBit i=true
 | [],s,h => .inl h
 |e :: l,s,h=>by
  simp only[List.foldl_cons]at h;rcases ph f i l _ h with h|⟨g,j,o⟩
  .rw [Nat.testBit_or,wr]at h
   rcases h with h|h
   .exact .inl h
   .exact .inr ⟨e,zSp,h⟩
  .exact .inr ⟨g,zP1 j,o⟩
def yP(ops:Array xd)(j:Nat):Nat:=(uo ops.toList []).getD j 0
theorem pi:∀(l:List xd) (acc:List Nat) (k:Nat) (o:xd),l[k]?=some o->(∀ e,e∈(pe o)->e.on<acc.length+k) ->
  (uo l acc).getD (acc.length+k) 0=(pe o).foldl (fun s e=>s ||| (2 ^ e.on ||| (uo l acc).getD e.on 0)) 0
 | [],acc,k,o,h,_=>by simp at h
 |x :: l,acc,k,o,h,j=>by
  simp only[uo];cases k with
  |zero =>
   simp at h;subst h;obtain⟨r,p,R⟩:=pg l (acc++[wF acc x]);rw[p];have t:(acc++[wF acc x]++r).getD (acc.length+0) 0=wF acc x:=by simp[zT]
   rw[t];unfold wF;have key:∀(I:List Edge) (s:Nat),(∀ e,e∈I->e.on<acc.length)->I.foldl (fun s e=>s ||| (2 ^ e.on ||| acc.getD e.on 0)) s=I.foldl (fun s e=>s ||| (2 ^ e.on ||| (acc++[(pe x).foldl (fun s e=>s ||| (2 ^ e.on ||| acc.getD e.on 0)) 0]++r).getD e.on 0)) s:=by
    intro I;induction I with
    |nil=>intro s _;rfl
    |cons e I C =>
     intro s i;simp only[List.foldl_cons];have J:=i e zSp;have:(acc++[(pe x).foldl (fun s e=>s ||| (2 ^ e.on ||| acc.getD e.on 0)) 0]++r).getD e.on 0=acc.getD e.on 0:=by
      simp only[zT,zE];rw[qo J]
     rw[this];exact C _ (fun P g=>i P (zP1 g))
   exact key _ _ (fun e g=>zW1 (j e g))
  |succ k =>
   have:=pi l (acc++[wF acc x]) k o (zUs h) (fun e g=>by have:=j e g;simp;omega);rw[show (acc++[wF acc x]).length+k=acc.length+(k+1) by simp;omega]at this;exact this
theorem qeM(o:jm ops=true){j i:Nat}(C:j<ops.size)(h:(yP ops j).testBit i=true):∃ e,e∈Qk ops j/\(i=e\/(yP ops e).testBit i=true):=by
 have g:=Wm o;have r:ops[j]?=some ops[j]:=zP1 C;have p:Qk ops j=(pe ops[j]).map (·.on):=by unfold Qk;rw[r]
 have:=pi ops.toList [] j ops[j] zSp (fun e t=>by
  have:=g j _ r e (pb t).1 (pb t).2;simp;omega)
 simp only[List.length_nil,Nat.zero_add]at this;unfold yP at h⊢;rw[this]at h;rcases ph _ i _ _ h with h|⟨e,I,l⟩
 .simp at h
 .rw [Nat.testBit_or,wr]at l
  refine⟨e.on,by rw[p];exact qr.2 ⟨e,I,rfl⟩,?_⟩;rcases l with l|l
  .rw [Nat.testBit_two_pow]at l
   exact .inl (by simpa using (of_decide_eq_true l).symm)
  .exact .inr l
def Wo(ops:Array xd)(S:Nat->Prop):Prop:=∀ j,S j->j<ops.size/\∀ i,(yP ops j).testBit i=true->S i
theorem Wo.mask(g:jm ops=true){S:Nat->Prop}(r:Wo ops S){j:Nat}(t:j<ops.size)(o:∀ e,e∈Qk ops j->S e) :
  ∀ i,(yP ops j).testBit i=true->S i:=by
 intro i C;obtain⟨e,p,l⟩:=qeM g t C;rcases l with rfl|l
 .exact o i p
 .exact (r e (o e p)).2 i l
def Bef(L:List Nat)(i k:Nat):Prop:=∀ p q,L=p++k :: q->i∈p
theorem Bef.total:∀{L:List Nat} {i k:Nat},i∈L->k∈L->i≠k->Bef L i k\/Bef L k i
 | [],i,k,h,_,_=>absurd h zSp
 |x :: l,i,k,I,J,g=>by
  have cons:∀{i k:Nat},Bef l i k->x≠k->Bef (x :: l) i k:=by
   intro i k h hx p q e;cases p with
   |nil=>simp only[jq,uN]at e;exact absurd e.1 hx
   |cons y C =>
    simp only[jd,uN]at e;exact qY _ (h C q e.2)
  have head:∀{k:Nat},x≠k->Bef (x :: l) x k:=by
   intro k hx p q e;cases p with
   |nil=>simp only[jq,uN]at e;exact absurd e.1 hx
   |cons y C =>
    simp only[jd,uN]at e;rw[<-e.1];simp
  by_cases j:x=i
  .subst j;exact .inl (head g)
  .by_cases o:x=k
   .subst o;exact .inr (head (fun e=>g e.symm))
   .have r:i∈l:=by simpa[Ne.symm j] using I
    have t:k∈l:=by simpa[Ne.symm o] using J
    rcases Bef.total r t g with h|h
    .exact .inl (cons h o)
    .exact .inr (cons h j)
theorem Topo.pre{p:List Nat}{j:Nat}(h:Topo ops (p++[j])):Topo ops p:=fun pre k post e=>h pre k (post++[j]) (by rw[e];simp)
theorem Topo.pre':∀(q:List Nat) {p:List Nat},Topo ops (p++q)->Topo ops p
 | [],p,h=>zUs h
 |j :: q,p,h=>by
  have:Topo ops ((p++[j])++q):=zUs h;exact(Topo.pre' q this).pre
theorem Topo.closed(r:jm ops=true):∀(n:Nat) (p:List Nat),p.length=n->Topo ops p->Wo ops (·∈p)/\p.Nodup:=by
 intro n;induction n with
 |zero=>intro p hp _;have:=ug hp;subst this;exact⟨fun j o=>by simp at o,List.nodup_nil⟩
 |succ n U =>
  intro p hp P;rcases List.eq_nil_or_concat p with rfl|⟨R,j,rfl⟩
  .simp at hp
  .rw [List.concat_eq_append]at *
   obtain⟨t,hn⟩:=U R (by simpa using hp) P.pre;obtain⟨o,C,I⟩:=P R j [] rfl;have g:=t.mask r o I;refine⟨fun k l=>?_,?_⟩
   .rcases qM.1 l with l|l
    .exact ⟨(t k l).1,fun i J=>qM.2 (.inl ((t k l).2 i J))⟩
    .simp only[qL]at l;subst l
     exact⟨o,fun i J=>qM.2 (.inl (g i J))⟩
   .rw [uL]
    exact⟨hn,zSp,fun x hx y T=>by simp at T;subst T;exact fun e=>C (e ▸ hx)⟩
theorem Topo.bef(g:jm ops=true){L:List Nat}(l:Topo ops L){i k:Nat}(h:(yP ops k).testBit i=true):Bef L i k:=by
 intro p q e;obtain⟨o,_,j⟩:=l p k q e;have r:=(Topo.closed g _ p rfl (Topo.pre' (k :: q) (by rw[<-e];exact l))).1;exact r.mask g o j i h
end
end Go.Ev
namespace Go.Ev
open Go Go.RowKit
section
variable {G G':Gh}{dl:List Deferred}{mu:Mu}{i:Nat}{w w':j3}
theorem ZX{j:Nat}{c:Cell}(h:(mu.set i .dead)[j]?=some c)(l:c ≠ .dead):j≠i/\mu[j]?=some c:=by
 by_cases e:i=j
 .subst e
  rw[List.getElem?_set_self']at h;cases g:mu[i]? with
  |none=>rw[g]at h;simp at h
  |some o=>rw[g]at h;simp at h;exact absurd h.symm l
 .rw [qv e]at h
  exact⟨fun h=>e h.symm,h⟩
theorem Live.hid{b:Nat}(h:Live G (mu.set i .dead) b):Live G mu b:=by
 obtain⟨j,c,g,o,l,p⟩:=h;exact⟨j,c,g,(ZX o l).2,l,p⟩
theorem Sim.hid{h:Array Obj}(s:Sim G mu h)(i:Nat):Sim G (mu.set i .dead) h:=by
 refine⟨by simpa using s.len,s.imm,fun j c g l r o p=>s.obj j c g l (ZX r o).2 o p,fun j c g l r o p=>s.live j c g l (ZX r o).2 o p,?_,s.tab⟩;intro j k C I b J tk r o p t P R;exact s.inj j k C I b J tk (ZX r p).2 (ZX o t).2 p t P R
theorem Sim.hid_not{h:Array Obj}(s:Sim G mu h){i b t:Nat}{c:Cell}(p:mu[i]?=some c)(r:c ≠ .dead)(C:G.blk[i]?=some (b,t)):¬Live G (mu.set i .dead) b:=by
 rintro⟨j,I,g,J,o,P⟩;obtain⟨l,R⟩:=ZX J o;exact l (s.inj j i I c b g t R p o r P C)
theorem Stp.unhid{M m:Mu}{b t:Nat}{c:Cell}(s:Sim G M w.heap)(hc:M[i]?=some c)(hd:c ≠ .dead)(hb:G.blk[i]?=some (b,t))(T:Stp G (M.set i .dead) w G' m w') :
  m[i]?=some .dead/\w'.heap[b]?=w.heap[b]?/\Stp G M w G' (m.set i c) w':=by
 have hn:=s.hid_not hc hd hb;obtain⟨o,ho,hr⟩:=s.obj i c b t hc hd hb;have P:b<w.heap.size:=(yf.1 ho).1;have hk:w'.heap[b]?=w.heap[b]?:=T.keep b P hn;have p:G'.blk[i]?=some (b,t):=T.le.blk _ _ hb;have R:¬Live G' m b:=fun h=>(T.live b h).elim hn (fun g=>absurd P (Nat.not_lt.2 g))
 have hi:i<m.length:=by rw[<-T.sim.len];exact(qk.1 p).1
 have hm:m[i]?=some .dead:=by
  have e:m[i]?=some m[i]:=qA hi;rw[e];by_cases hq:m[i] = .dead
  .rw [hq]
  .exact absurd ⟨i,m[i],t,e,hq,p⟩ R
 have a0:¬G'.imm b:=fun h=>by
  rcases T.inew b h with h|h|h
  .exact s.live i c b t hc hd hb h
  .exact hn h
  .exact absurd P (Nat.not_lt.2 h)
 have a1:Ext G w.heap w'.heap:=T.ext (s.hid i);have l:∀(j:Nat) (x:Cell),(m.set i c)[j]?=some x->x ≠ .dead->(j=i/\x=c)\/(j≠i/\m[j]?=some x):=by
  intro j x hj hx;by_cases e:i=j
  .subst e
   rw[qJ hi]at hj;exact .inl ⟨rfl,(Option.some.inj hj).symm⟩
  .rw [qv e]at hj
   exact .inr ⟨fun h=>e h.symm,hj⟩
 refine⟨hm,hk,T.le,⟨by simpa using T.sim.len,T.sim.imm,?_,?_,?_,T.sim.tab⟩,?_,T.size,?_,?_,T.tape,T.os,T.output,T.drawn⟩
 .intro j x U C h1 I r
  rcases l j x h1 I with ⟨rfl,rfl⟩|⟨_,J⟩
  .rw [p]at r
   obtain⟨rfl,rfl⟩:=Prod.mk.inj (Option.some.inj r);exact⟨o,by rw[hk];exact ho,hr.mono T.le a1⟩
  .exact T.sim.obj j x U C J I r
 .intro j x U C h1 I r
  rcases l j x h1 I with ⟨rfl,rfl⟩|⟨_,J⟩
  .rw [p]at r
   obtain⟨rfl,rfl⟩:=Prod.mk.inj (Option.some.inj r);exact a0
  .exact T.sim.live j x U C J I r
 .intro j k cj ck b' tj tk h1 I r J h5 h6
  rcases l j cj h1 r with ⟨rfl,rfl⟩|⟨e1,g1⟩<;>rcases l k ck I J with ⟨rfl,rfl⟩|⟨e2,g2⟩
  .rfl
  .rw [p]at h5
   obtain⟨rfl,rfl⟩:=Prod.mk.inj (Option.some.inj h5);exact absurd ⟨k,ck,tk,g2,J,h6⟩ R
  .rw [p]at h6
   obtain⟨rfl,rfl⟩:=Prod.mk.inj (Option.some.inj h6);exact absurd ⟨j,cj,tj,g1,r,h5⟩ R
  .exact T.sim.inj j k cj ck b' tj tk g1 g2 r J h5 h6
 .intro x hx hl
  exact T.keep x hx (fun h=>hl h.hid)
 .rintro x ⟨j,cj,C,h1,I,r⟩
  rcases l j cj h1 I with ⟨rfl,rfl⟩|⟨_,J⟩
  .rw [p]at r
   obtain⟨rfl,rfl⟩:=Prod.mk.inj (Option.some.inj r);exact .inl ⟨j,cj,t,hc,hd,hb⟩
  .exact (T.live x ⟨j,cj,C,J,I,r⟩).imp (fun h=>h.hid) id
 .intro x hx
  rcases T.inew x hx with h|h|h
  .exact .inl h
  .exact .inr (.inl h.hid)
  .exact .inr (.inr h)
theorem Stp.drop{M:Mu}(s:Sim G M w.heap)(i:Nat):Stp G M w G (M.set i .dead) w:=
 ⟨.refl G,s.hid i,fun _ _ _=>rfl,qm _,fun _ h => .inl h.hid,fun _ h => .inl h,rfl,rfl,rfl,qm _⟩
theorem Sim.putOther{M:Mu}(s:Sim G M w.heap){D:Nat}{o:Obj}(I:¬Live G M D)(J:¬G.imm D):Sim G M (w.putObj D o).heap:=by
 have g:Ext G w.heap (w.putObj D o).heap:=⟨zSp,fun b p=>uO (fun e=>J (e ▸ p))⟩;refine⟨s.len,fun b p=>by have:=s.imm b p;simpa using this,?_,s.live,s.inj,s.tab.mono (fun _ h=>h) g.keep⟩;intro j x i l r t C;obtain⟨P,R,T⟩:=s.obj j x i l r t C;refine⟨P,?_,T.mono (.refl G) g⟩;rw[uO (fun (e:i=D)=>I ⟨j,x,l,r,t,e ▸ C⟩)];exact R
structure Mk (G:Gh) (mu:Mu) (h:Array Obj) (D:Nat):Prop where
 obj:h[D]?=some (.deferred (some []))
 nlive:¬Live G mu D
 nimm:¬G.imm D
theorem Mk.step{mu':Mu}{D:Nat}(m:Mk G mu w.heap D)(t:Stp G mu w G' mu' w'):Mk G' mu' w'.heap D:=by
 have i:D<w.heap.size:=(yf.1 m.obj).1;refine⟨by rw[t.keep D i m.nlive];exact m.obj,fun h=>?_,fun h=>?_⟩
 .exact (t.live D h).elim m.nlive (fun g=>absurd i (Nat.not_lt.2 g))
 .rcases t.inew D h with h|h|h
  .exact m.nimm h
  .exact m.nlive h
  .exact absurd i (Nat.not_lt.2 h)
def mkOf(D:Nat):Deferred:={ target := .collected D,args:=#[] }
def Dfs(dl:List Deferred)(mk:Bool)(base:Nat)(G:Gh)(mu:Mu)(h:Array Obj)(ds:List Deferred):Prop:=∃ g:List Nat,(ds=g.map mkOf++dl/\(mk=false->g=[]))/\g.Nodup/\∀ D,D∈g->base<=D/\Mk G mu h D
theorem Dfs.nil(dl:List Deferred)(mk:Bool)(base:Nat)(G:Gh)(mu:Mu)(h:Array Obj):Dfs dl mk base G mu h dl:=⟨[],⟨rfl,fun _=>rfl⟩,List.nodup_nil,zSp⟩
theorem Dfs.step{mk:Bool}{base:Nat}{mu':Mu}{ds:List Deferred}(d:Dfs dl mk base G mu w.heap ds)(t:Stp G mu w G' mu' w'):Dfs dl mk base G' mu' w'.heap ds:=by
 obtain⟨j,l,o,g⟩:=d;exact⟨j,l,o,fun D i=>⟨(g D i).1,(g D i).2.step t⟩⟩
def uS:List Nat->j3->j3
 | [],w=>w
 | D :: g,w=>uS g (w.putObj D (.deferred none))
theorem Wp{P:j1}{F:Fence}{n:Nat}{fn:Func}{g:Array uk}{R:Ending->j3->Prop}{u:FrameMode}(o:u ≠ .run):∀(i:List Nat) (w:j3),i.Nodup->(∀ D,D∈i->w.heap[D]?=some (.deferred (some []))) ->
  LeavesInM F n P fn g R dl u (uS i w)->LeavesInM F n P fn g R (i.map mkOf++dl) u w
 | [],w,_,_,h=>h
 | D :: i,w,t,p,h=>by
  obtain⟨j,l⟩:=vb.1 t;refine⟨o,.inl ⟨D,w.putObj D (.deferred none),rfl,run_takeDeferred (p D zSp),Wp o i _ l (fun E r=>?_) h⟩⟩;rw[uO (fun (e:E=D)=>j (e ▸ r))];exact p E (zP1 r)
theorem pj{o:Gh}{i:Mu}{l:j3}:∀(j:List Nat) (w:j3),j.Nodup->(∀ D,D∈j->l.heap.size<=D/\Mk G mu w.heap D)->Stp o i l G mu w ->
  Stp o i l G mu (uS j w)/\Ext G w.heap (uS j w).heap
 | [],w,_,_,t=>⟨t,Ext.refl _ _⟩
 | D :: j,w,R,p,t=>by
  obtain⟨r,C⟩:=vb.1 R;obtain⟨hb,I⟩:=p D zSp;have t1:Stp o i l G mu (w.putObj D (.deferred none)):=by
   refine⟨t.le,t.sim.putOther I.nlive I.nimm,fun b g T=>?_,by simpa using t.size,t.live,t.inew,t.tape,t.os,t.output,t.drawn⟩;rw[uO zOm];exact t.keep b g T
  obtain⟨U,P⟩:=pj j (w.putObj D (.deferred none)) C (fun E J=>⟨(p E (zP1 J)).1,by
   have m:=(p E (zP1 J)).2;exact⟨by rw[uO (fun (e:E=D)=>r (e ▸ J))];exact m.obj,m.nlive,m.nimm⟩⟩) t1
  .refine ⟨U,⟨Nat.le_trans zSp P.size,fun b g=>?_⟩⟩
   have:=P.keep b g;simp only[uS];rw[this,uO (fun (e:b=D)=>I.nimm (e ▸ g))]
end
end Go.Ev
namespace Go.Ev
open Go Go.RowKit
section
variable {a:Act}{ops:Array xd}{G:Gh}{g m mu mu':Mu}{o:xd}{ev':us->AV}{pl:Pol}{P:j1}{st:St}{w:j3}
def Br(b:Bool)(p q:Prop):Prop:=(b=true->p)/\(b=false->q)
def ZY:AV->Bool->Option Bool
 | .sc (.bool b),g=>some (b == g)
 | .sc _,_=>some false
 |_,_=>none
def yz(ops:Array xd)(st:St)(o:xd):Option Bool:=
 match o.guard with
 |none=>some true
 |some (j,g)=>match (ops[j]?).bind (·.dst) with
  |none=>some false
  |some d=>ZY (st.tm d) g
def awpS(P:j1)(pl:Pol)(det:Bool)(ops:Array xd):List xd->(St->Prop)->(AV->St->Prop)->St->Prop
 | [],Q,_,U=>Q U
 |o :: l,Q,g,U=>OptK (yz ops U o) fun b =>
   Br b (qD P pl det o.dst o.op U.ev U.mu (fun v m=>awpS P pl det ops l Q g (U.put o.dst v m)) (fun v m=>g v ⟨U.tm,m⟩)) (awpS P pl det ops l Q g (U.put o.dst (.sc xa) U.mu))
structure Rel (ro:Ro) (G0:Gh) (mu0:Mu) (w0:j3) (n:Nat) (G:Gh) (st:St) (a:Act) (w:j3):Prop where
 tm:∀ i,VRel G w.heap (st.tm i) (a.tmps.getD i xa)
 df:ro.rd=none->Dfs ro.dl ro.mks w0.heap.size G st.mu w.heap a.defers
 size:a.tmps.size=n
 stp:Stp G0 mu0 w0 G st.mu w
 kp:∀ p,p∈ro.kp->VRel G w.heap p.1 p.2
theorem Rel.ev{ro:Ro}{j:Gh}{i:Mu}{l:j3}{n:Nat}(r:Rel ro j i l n G st a w)(x:us):VRel G w.heap (st.ev x) (a.eval x):=by
 cases x with
 |tmp t=>exact r.tm t
 |const v=>exact .ofV v
 |global g=>exact .any _
 |func f=>exact .fn _ [] [] _ _ rfl rfl zSp zSp
def dOk(n:Nat):Option Tmp->Bool|some d=>decide (d<n)|none=>true
theorem Rel.put{ro:Ro}{j:Gh}{l:j3}{n:Nat}{G':Gh}{w':j3}{v:AV}{u:uk}{d:Option Tmp}(I:Sim j g l.heap)(r:Rel ro j g l n G st a w)(t:Stp G st.mu w G' m w')(J:VRel G' w'.heap v u)
  (o:dOk n d=true):Rel ro j g l n G' (st.put d v m) (a.put d u) w':=by
 refine⟨fun i=>?_,?_,?_,r.stp.trans I t,fun p hp=>t.vrel r.stp.sim (r.kp p hp)⟩
 .cases d with
  |none=>exact t.vrel r.stp.sim (r.tm i)
  |some d =>
   simp only[dOk,decide_eq_true_eq]at o;simp only[St.put,Act.put];by_cases C:i=d
   .subst C
    rw[if_pos rfl];have:i<a.tmps.size:=by rw[r.size];exact o
    simp_all
   .rw [if_neg C]
    have:(a.tmps.setIfInBounds d u).getD i xa=a.tmps.getD i xa:=by
     simp only[qH]
     grind
    rw[this];exact t.vrel r.stp.sim (r.tm i)
 .intro h
  have:=(r.df h).step t;cases d<;>exact this
 .cases d with
  |none=>exact r.size
  |some d=>simp[Act.put,r.size]
theorem Rel.drew{ro:Ro}{i:Gh}{j:j3}{n:Nat}(l:Sim i g j.heap)(r:Rel ro i g j n G st a w):Rel ro i g j n G st a w.drew:=
 ⟨r.tm,r.df,r.size,r.stp.trans l (Stp.drew r.stp.sim),r.kp⟩
theorem Vq{ro:Ro}{t:Gh}{i:Mu}{C:j3}{n:Nat}(r:Rel ro t i C n G st a w){ops:Array xd}{o:xd}{b:Bool}(h:yz ops st o=some b):Region.wanted o (yielded ops a.tmps)=b:=by
 unfold yz at h;unfold Region.wanted;cases hg:o.guard with
 |none=>rw[hg]at h;simpa using h
 |some q =>
  obtain⟨j,p⟩:=q;rw[hg]at h;simp only at h⊢;unfold yielded;cases I:(ops[j]?).bind (·.dst) with
  |none=>grind
  |some d =>
   rw[I]at h;simp only[Option.bind_some]at h⊢;have rd:=r.tm d;have g:a.tmps[d]?=some (a.tmps.getD d xa)\/a.tmps[d]?=none/\a.tmps.getD d xa=xa:=by
    simp only[qH]
    grind
   unfold ZY at h;split at h
   .rename_i J l
    simp only[qp]at h;subst h;rw[l]at rd;generalize a.tmps.getD d xa=v at rd g;cases rd;rcases g with hg|⟨_,hg⟩
    .grind
    .exact absurd hg (by simp[xa])
   .rename_i v P l
    simp only[qp]at h;subst h;rw[l]at rd;generalize a.tmps.getD d xa=R at rd g;cases rd;rcases g with hg|⟨hg,_⟩
    .grind
    .rw [hg];rfl
   grind
theorem pk{ro:Ro}{l2:List xd}{C:Gh}{I:j3}{n:Nat}(J:Sim C g I.heap){Q:St->Prop}{Qp:AV->St->Prop}{QQ:Exit->Act->j3->Prop}
  (hQ:∀ st a w G,Q st->Rel ro C g I n G st a w->wpListIn (WF ro) 0 P ops QQ l2 a w)
  (R:∀ v st a w G u,Qp v st->Rel ro C g I n G st a w->VRel G w.heap v u->QQ (.panic [{ v:=u,recovered:=false }]) a w) :
  ∀(l:List xd) (st:St) (a:Act) (w:j3) (G:Gh),Rel ro C g I n G st a w->(l.all fun o=>dOk n o.dst)=true->awpS P pl false ops l Q Qp st->wpListIn (WF ro) 0 P ops QQ (l++l2) a w:=by
 intro l;induction l with
 |nil=>intro st a w G r _ h;exact hQ st a w G h r
 |cons o l ih =>
  intro st a w G r p h;simp only[List.all_cons,qB]at p;obtain⟨b,hb,h1,h2⟩:=h;have hw:=Vq r hb;simp only[jd,wpListIn,hw];cases b with
  |false =>
   rw[if_neg zSp];exact⟨fun _ _=>trivial,ih _ _ _ G (r.put J (Stp.refl r.stp.sim) (.sc _ rfl) p.1) p.2 (h2 rfl)⟩
  |true =>
   rw[if_pos rfl];refine Vo r.stp.sim r.ev (h1 rfl) ?_ ?_
   .intro v t T w' u U j hv
    exact ih _ _ _ T (r.put J j hv p.1) p.2 U
   .intro v t T w' u U j hv
    refine R v ⟨st.tm,t⟩ a w' T u U ?_ hv;exact r.put (d:=none) J j (.any xa) rfl
theorem Wq{ro:Ro}{j:Gh}{p:j3}{n:Nat}(I:Sim j g p.heap){Q:St->Prop}{C:AV->St->Prop}{QQ:Exit->Act->j3->Prop}
  (J:∀ st a w G,Q st->Rel ro j g p n G st a w->QQ .normal a w)
  (t:∀ v st a w G u,C v st->Rel ro j g p n G st a w->VRel G w.heap v u->QQ (.panic [{ v:=u,recovered:=false }]) a w) :
  ∀(l:List xd) (st:St) (a:Act) (w:j3) (G:Gh),Rel ro j g p n G st a w->(l.all fun o=>dOk n o.dst)=true->awpS P pl false ops l Q C st->wpListIn (WF ro) 0 P ops QQ l a w:=by
 intro l st a w G r R h;have:=pk (l2:=[]) I (fun st a w G T r=>J st a w G T r) t l st a w G r R h
 grind
def memW(pl:Pol)(o:xd):Bool:=
 match o.op with
 | .alloc _ | .store .. | .makeSlice .. | .mapUpdate .. | .mapEntry .. | .entryStore .. | .makeMap .. | .insert .. | .range .. | .next .. => true
 | .box .. => o.dst.any pl.mt.contains
 | .call c=>match c.callee with | .builtin .append | .builtin .copy | .builtin .delete | .builtin .clear=>true|_=>false
 |_=>false
def memR(o:xd):Bool:=
 match o.op with
 | .load .. | .call _ | .lookup .. | .entry .. => true
 |_=>false
def Wr(l:Array us):List Tmp:=l.toList.filterMap fun | .tmp t=>some t|_=>none
def wG(ops:Array xd)(o:xd):List Tmp:=
 Wr o.op.operands++(match o.guard with|some (j,_)=>((ops[j]?).bind (·.dst)).toList|none=>[])
def Ws(pl:Pol)(o:xd):Bool:=
 match o.op with
 | .alloc _ | .makeSlice .. | .makeMap .. => true
 | .box .. => o.dst.any pl.mt.contains
 |_=>false
def reads(pl:Pol)(o:xd):Bool:=memR o&&!memW pl o
def soft(pl:Pol)(a b:xd):Bool:=
 (match a.op,b.op with
 | .lookup t _ _ false,.mapEntry g _ _=>t == g
 |_,_=>false)||(reads pl a&&Ws pl b)
def yJ(pl:Pol)(ops:Array xd)(a b:xd):Bool:=
 (memW pl a&&(memW pl b||memR b))||(memR a&&memW pl b&&!soft pl a b) ||
 (match a.dst with|some d=>(wG ops b).contains d||b.dst == some d|none=>false) ||
 (match b.dst with|some d=>(wG ops a).contains d|none=>false)
def Vs(pl:Pol)(ops:Array xd):Bool:=
 jm ops&&(let g:=uo ops.toList [];(qu ops.size).all fun j=>(qu j).all fun i =>
  match ops[i]?,ops[j]? with|some a,some b=>!yJ pl ops a b||(g.getD j 0).testBit i|_,_=>true)
theorem qeN(h:Vs pl ops=true):jm ops=true/\∀(i j:Nat) a b,i<j->ops[i]?=some a->ops[j]?=some b->yJ pl ops a b=true->(yP ops j).testBit i=true:=by
 unfold Vs at h;rw[qB]at h;refine⟨h.1,fun i j a b g p l r=>?_⟩;have t:j<ops.size:=(yf.1 l).1;have o:=h.2;simp only[qI,yx]at o;have:=o j t i g;rw[p,l]at this;simp only[r,Bool.not_true,Bool.false_or]at this;exact this
def Vt(pl:Pol)(ops:Array xd)(a b:Nat):Bool:=
 jm ops&&(let g:=uo ops.toList [];(qu ops.size).all fun j=>(qu j).all fun i=>(i == a&&j == b) ||
  match ops[i]?,ops[j]? with|some x,some y=>!yJ pl ops x y||(g.getD j 0).testBit i|_,_=>true) &&
 (qu b).all fun k=>!(decide (a<k))||match ops[k]?,ops[a]? with|some x,some y=>!yJ pl ops x y|_,_=>true
theorem qeO{a b:Nat}(h:Vt pl ops a b=true):jm ops=true/\(∀(i j:Nat) x y,i<j->¬(i=a/\j=b)->ops[i]?=some x->ops[j]?=some y->yJ pl ops x y=true->(yP ops j).testBit i=true) /\
  ∀(k:Nat) x y,a<k->k<b->ops[k]?=some x->ops[a]?=some y->yJ pl ops x y=false:=by
 unfold Vt at h;rw[qB,qB]at h;refine⟨h.1.1,fun i j x y l o t p C=>?_,fun k x y I g hx J=>?_⟩
 .have P:j<ops.size:=(yf.1 p).1
  have g:=h.1.2;simp only[qI,yx]at g;have:=g j P i l;rw[t,p,wr]at this;rcases this with this|this
  .simp at this;exact absurd this o
  .simp only[C,Bool.not_true,Bool.false_or]at this
   exact this
 .have r:=h.2
  simp only[qI,yx]at r;have:=r k g;rw[hx,J]at this;simpa[I] using this
def DS(P:j1)(pl:Pol)(o:xd)(ev:us->AV)(mu:Mu)(v:AV)(m:Mu):Prop:=qD P pl true o.dst o.op ev mu (fun a b=>a=v/\b=m) (fun _ _=>False)
theorem qD.det{ev:us->AV}{K t:AV->Mu->Prop}(h:qD P pl true o.dst o.op ev mu K t):∃ v m,DS P pl o ev mu v m/\K v m:=by
 unfold DS;generalize o.dst=C at *
 cases I:o.op<;>rw[I]at h<;>simp only[qD]at h⊢<;>try (exact h.elim)
 case move=>exact⟨_,_,⟨rfl,rfl⟩,h⟩
 case assign=>exact⟨_,_,⟨rfl,rfl⟩,h⟩
 case makeFunc=>exact⟨_,_,⟨rfl,rfl⟩,h⟩
 case pick=>grind
 case alloc=>obtain⟨z,i,j,J⟩:=h;exact⟨_,_,⟨z,i,j,rfl,rfl⟩,J⟩
 case box =>
  grind
 case build=>obtain⟨l,z,i,j⟩:=h;exact⟨_,_,⟨l,z,i,rfl,rfl⟩,j⟩
 case buildSlice=>obtain⟨z,i,j⟩:=h;exact⟨_,_,⟨z,i,rfl,rfl⟩,j⟩
 case load=>obtain⟨z,i,j⟩:=h;exact⟨_,_,⟨z,i,rfl,rfl⟩,j⟩
 case store=>obtain⟨z,i,j⟩:=h;exact⟨_,_,⟨z,i,rfl,rfl⟩,j⟩
 case nilCheck=>obtain⟨z,i,j⟩:=h;exact⟨_,_,⟨z,i,rfl,rfl⟩,j⟩
 case binOp =>
  split at h
  .rename_i p
   simp only[if_pos p];obtain⟨z,T,U⟩:=h.det
   grind
  .rename_i p
   simp only[if_neg p];obtain⟨z,i,j⟩:=h;exact⟨_,_,⟨z,i,rfl,rfl⟩,j⟩
 case unOp=>obtain⟨z,i,j⟩:=h;exact⟨_,_,⟨z,i,rfl,rfl⟩,j⟩
 case convert=>obtain⟨l,z,i,j⟩:=h;exact⟨_,_,⟨l,z,i,rfl,rfl⟩,j⟩
 case makeInterface=>grind
 case makeSlice=>obtain⟨z,i,j⟩:=h;exact⟨_,_,⟨z,i,rfl,rfl⟩,j⟩
 case slice=>obtain⟨l,z,i,j⟩:=h;exact⟨_,_,⟨l,z,i,rfl,rfl⟩,j⟩
 case fieldAddr=>obtain⟨z,i,j⟩:=h;exact⟨_,_,⟨z,i,rfl,rfl⟩,j⟩
 case field=>obtain⟨z,i,j⟩:=h;exact⟨_,_,⟨z,i,rfl,rfl⟩,j⟩
 case indexAddr=>obtain⟨z,i,j⟩:=h;exact⟨_,_,⟨z,i,rfl,rfl⟩,j⟩
 case index=>obtain⟨z,i,j⟩:=h;exact⟨_,_,⟨z,i,rfl,rfl⟩,j⟩
 case extract=>obtain⟨z,i,j⟩:=h;exact⟨_,_,⟨z,i,rfl,rfl⟩,j⟩
 case typeAssert=>obtain⟨z,i,j⟩:=h;exact⟨_,_,⟨z,i,rfl,rfl⟩,j⟩
 case makeMap=>grind
 case lookup=>obtain⟨z,i,j⟩:=h;exact⟨_,_,⟨z,i,rfl,rfl⟩,j⟩
 case mapUpdate=>obtain⟨z,i,j⟩:=h;exact⟨_,_,⟨z,i,rfl,rfl⟩,j⟩
 case insert=>obtain⟨z,i,j⟩:=h;exact⟨_,_,⟨z,i,rfl,rfl⟩,j⟩
 case mapEntry=>obtain⟨z,i,j⟩:=h;exact⟨_,_,⟨z,i,rfl,rfl⟩,j⟩
 case entryStore=>obtain⟨z,i,j⟩:=h;exact⟨_,_,⟨z,i,rfl,rfl⟩,j⟩
 case range=>obtain⟨z,i,j⟩:=h;exact⟨_,_,⟨z,i,rfl,rfl⟩,j⟩
 case next=>exact absurd h.1 zSp
 case entry=>obtain⟨z,i,j⟩:=h;exact⟨_,_,⟨z,i,rfl,rfl⟩,j⟩
 case panic=>exact absurd h.1 zSp
 case call c =>
  obtain⟨callee,args,R⟩:=c;cases callee with
  |invoke r m=>exact h.elim
  |value f =>
   rcases h with ⟨v,i,j⟩|⟨i,_⟩
   .exact ⟨_,_,.inl ⟨v,i,rfl,rfl⟩,j⟩
   .exact absurd i zSp
  |builtin b =>
   cases b<;>simp only at h⊢<;>try (first | (obtain⟨z,m,i,j⟩:=h;exact⟨_,_,⟨z,m,i,rfl,rfl⟩,j⟩) | (obtain⟨z,i,j⟩:=h;exact⟨_,_,⟨z,i,rfl,rfl⟩,j⟩))
   obtain⟨s,x,i,h⟩:=h;obtain⟨v,m,g,k⟩:=h.det;exact⟨v,m,⟨s,x,i,g⟩,k⟩
theorem DS.mem{ev:us->AV}{v:AV}(h:DS P pl o ev mu v m)(l:memW pl o=false):m=mu/\(memR o=false->∀ i,DS P pl o ev i v i):=by
 unfold DS at *
 unfold memW at l;unfold memR;cases C:o.op<;>rw[C]at h l<;>simp only[qD]at h⊢<;>try (exact h.elim)
 case move=>grind
 case assign=>grind
 case makeFunc=>grind
 case pick=>grind
 case alloc=>exact absurd l zSp
 case box =>
  grind
 case build=>obtain⟨p,z,j,g⟩:=h;exact⟨g.2.symm,fun _ i=>⟨p,z,j,g.1,by first|rfl|trivial⟩⟩
 case buildSlice=>obtain⟨z,j,g⟩:=h;exact⟨g.2.symm,fun _ i=>⟨z,j,g.1,by first|rfl|trivial⟩⟩
 case load=>obtain⟨z,j,g⟩:=h;grind
 case store=>exact absurd l zSp
 case nilCheck=>obtain⟨z,j,g⟩:=h;exact⟨g.2.symm,fun _ i=>⟨z,j,g.1,by first|rfl|trivial⟩⟩
 case binOp =>
  split at h
  .rename_i t
   simp only[if_pos t];obtain⟨z,J,R⟩:=h.det
   grind
  .rename_i t
   simp only[if_neg t];obtain⟨z,j,g⟩:=h;exact⟨g.2.symm,fun _ i=>⟨z,j,g.1,by first|rfl|trivial⟩⟩
 case unOp=>obtain⟨z,j,g⟩:=h;exact⟨g.2.symm,fun _ i=>⟨z,j,g.1,by first|rfl|trivial⟩⟩
 case convert=>obtain⟨p,z,j,g⟩:=h;exact⟨g.2.symm,fun _ i=>⟨p,z,j,g.1,by first|rfl|trivial⟩⟩
 case makeInterface=>grind
 case makeSlice=>exact absurd l zSp
 case slice=>obtain⟨p,z,j,g⟩:=h;exact⟨g.2.symm,fun _ i=>⟨p,z,j,g.1,by first|rfl|trivial⟩⟩
 case fieldAddr=>obtain⟨z,j,g⟩:=h;exact⟨g.2.symm,fun _ i=>⟨z,j,g.1,by first|rfl|trivial⟩⟩
 case field=>obtain⟨z,j,g⟩:=h;exact⟨g.2.symm,fun _ i=>⟨z,j,g.1,by first|rfl|trivial⟩⟩
 case indexAddr=>obtain⟨z,j,g⟩:=h;exact⟨g.2.symm,fun _ i=>⟨z,j,g.1,by first|rfl|trivial⟩⟩
 case index=>obtain⟨z,j,g⟩:=h;exact⟨g.2.symm,fun _ i=>⟨z,j,g.1,by first|rfl|trivial⟩⟩
 case extract=>obtain⟨z,j,g⟩:=h;exact⟨g.2.symm,fun _ i=>⟨z,j,g.1,by first|rfl|trivial⟩⟩
 case typeAssert=>obtain⟨z,j,g⟩:=h;exact⟨g.2.symm,fun _ i=>⟨z,j,g.1,by first|rfl|trivial⟩⟩
 case makeMap=>exact absurd l zSp
 case lookup=>obtain⟨z,j,g⟩:=h;grind
 case mapUpdate=>exact absurd l zSp
 case insert=>exact absurd l zSp
 case mapEntry=>exact absurd l zSp
 case entryStore=>exact absurd l zSp
 case range=>exact absurd l zSp
 case next=>exact absurd l zSp
 case entry=>obtain⟨z,j,g⟩:=h;grind
 case panic=>exact absurd h.1 zSp
 case call c =>
  obtain⟨callee,args,I⟩:=c;cases callee with
  |invoke r m=>exact h.elim
  |value f =>
   rcases h with ⟨v,j,g⟩|⟨j,_⟩
   .grind
   grind
  |builtin b =>
   cases b<;>simp only at h l⊢<;>first
    | (obtain⟨z,j,g⟩:=h;grind)
    | (exact absurd l zSp)
theorem Zm{ev:us->AV}{l:Array us}(h:∀ x,x∈l->ev x=ev' x):evs ev l.toList=evs ev' l.toList:=
 List.map_congr_left fun x hx=>h x (by simpa using hx)
theorem Vu{ev:us->AV}{l:Array (Nat×us)}(h:∀ x,x∈(l.toList.map (·.2)).toArray->ev x=ev' x):(l.toList.map fun p=>(p.1,ev p.2))=l.toList.map fun p=>(p.1,ev' p.2):=
 List.map_congr_left fun p hp=>by grind
theorem Vv{ev:us->AV}{o:Option us}(h:∀ x,x∈o.toArray->ev x=ev' x):o.map ev=o.map ev':=by
 cases o with
 |none=>rfl
 |some x=>simp[h x zSp]
theorem DS.congr{ev:us->AV}{v:AV}(h:DS P pl o ev mu v m)(g:∀ x,x∈o.op.operands->ev x=ev' x):DS P pl o ev' mu v m:=by
 unfold DS at *
 cases p:o.op<;>rw[p]at h g<;>simp only[qD,Op.operands]at h g⊢<;>try (exact h.elim)
 case move x=>rw[<-g x zSp];exact h
 case assign x=>rw[<-g x zSp];exact h
 case makeFunc f first j =>
  grind [Zm]
 case pick c x y=>grind
 case alloc=>exact h
 case box t x=>rw[<-g x zSp];exact h
 case build t C=>rw[<-Vu g];exact h
 case buildSlice t n C=>rw[<-Vu g];exact h
 case load t x=>rw[<-g x zSp];exact h
 case store t x y=>grind
 case nilCheck x=>rw[<-g x zSp];exact h
 case binOp op t x y J=>grind
 case unOp op t x=>rw[<-g x zSp];exact h
 case convert s t x=>rw[<-g x zSp];exact h
 case makeInterface t x=>rw[<-g x zSp];exact h
 case makeSlice t x y=>grind
 case slice t x R T U =>
  grind [Vv]
 case fieldAddr t x f=>rw[<-g x zSp];exact h
 case field t x f=>rw[<-g x zSp];exact h
 case indexAddr t x i=>grind
 case index t x i=>grind
 case extract x i=>rw[<-g x zSp];exact h
 case typeAssert x xt t ok=>rw[<-g x zSp];exact h
 case makeMap=>exact h
 case lookup t m k ok=>grind
 case mapUpdate t m k v=>grind
 case insert t m k v=>grind
 case mapEntry t m k=>grind
 case entryStore t m k v=>grind
 case range t m=>rw[<-g m zSp];exact h
 case next=>exact absurd h.1 zSp
 case entry i=>rw[<-g i zSp];exact h
 case panic x=>exact absurd h.1 zSp
 case call c =>
  obtain⟨callee,args,I⟩:=c;cases callee with
  |invoke r m=>exact h.elim
  |value f =>
   grind [Call.operands,Zm]
  |builtin b =>
   simp only[Call.operands]at g;simp only at h⊢;rw[<-Zm (l:=args) (fun x hx=>g x (by simp[hx]))];exact h
theorem pm(g:MuLe mu mu'){p:AV}{n:Nat}{cs:List AV}(h:vw mu p n=some cs):vw mu' p n=some cs:=by
 unfold vw at *
 split at h
 .exact h
 .split at h
  .rename_i i;rw[g _ _ i];exact h
  grind
 grind
theorem qeP(i:MuLe mu mu'){t:j2}{p z:AV}(h:wu P mu t p=some z):wu P mu' t p=some z:=by
 unfold wu at *
 split at h
 .rename_i n l o
  cases g:vw mu p n with
  |none=>rw[g]at h;exact absurd h zSp
  |some j=>rw[g]at h;rw[pm i g];exact h
 .cases g:vw mu p 1 with
  |none=>rw[g]at h;exact absurd h zSp
  |some j=>rw[g]at h;rw[pm i g];exact h
 grind
theorem qeQ(g:MuLe mu mu'){m:AV}{es:List (AV×AV)}(h:jI mu m=some es):jI mu' m=some es:=by
 unfold jI at *
 split at h
 .exact h
 .split at h
  .rename_i i;rw[g _ _ i];exact h
  grind
 .exact h
 grind
theorem pn(g:MuLe mu mu'){t:j2}{m k z:AV}{ok:Bool}(h:jf P mu t m k ok=some z):jf P mu' t m k ok=some z:=by
 grind [jf,qeQ,absurd]
theorem qeR(g:MuLe mu mu'){t:j2}{m k z:AV}{ok:Bool}(h:yg P mu t m k ok=some z):yg P mu' t m k ok=some z:=by
 cases m with
 |ims I =>
  simp only[yg]at h⊢;cases i:mapT P t with
  |none=>rw[i]at h;exact absurd h zSp
  |some q =>
   rw[i]at h;simp only at h⊢;split at h
   .rename_i j
    rw[if_pos j];exact pn g h
   grind
 |_=>exact pn g h
theorem qeS(g:MuLe mu mu'){x z:AV}(h:Zk mu x=some z):Zk mu' x=some z:=by
 unfold Zk at *
 split at h
 .split at h
  .rename_i i;rw[g _ _ i];exact h
  grind
 grind
theorem qeT(g:MuLe mu mu'){t:j2}{x z:AV}(h:lenA P mu t x=some z):lenA P mu' t x=some z:=by
 unfold lenA at *
 split at h
 .exact h
 .exact h
 .exact h
 .exact h
 .exact h
 .split at h
  .rename_i i j;rw[i,g _ _ j];exact h
  grind
 grind
theorem qeU(g:MuLe mu mu'){b:Builtin}{ts:Array j2}{xs:List AV}{z:AV}(h:um P mu b ts xs=some z):um P mu' b ts xs=some z:=by
 unfold um at *
 split at h
 .exact qeT g h
 .exact h
 .exact h
 .exact h
 grind
theorem Rd.le(J:MuLe mu mu'){x y:AV}(h:Rd mu x y):Rd mu' x y:=by
 induction h with
 |hf x h=>exact .hf x h
 |sl b l off len cells j C hl g P h i=>exact .sl b l off len cells j (J _ _ C) hl g P i
 |ptr b off cells j C g h i=>exact .ptr b off cells j (J _ _ C) g i
 |mp b I R C g hk hv o r=>exact .mp b I R (J _ _ C) g o r
 |md b I R C g hk hv o r=>exact .md b I R (J _ _ C) g o r
 |agg p j g h i=>exact .agg p j g i
 |tup p j g h i=>exact .tup p j g i
 |lst full p j g P h i=>exact .lst full p j g P i
 |fn f a b c d g T h h' o r=>exact .fn f a b c d g T o r
 |ifc t x y h i=>exact .ifc t x y i
 |wk x full j h i=>exact .wk x full j i
 |ims x I U σ τ hp hd h i=>exact .ims x I U σ τ hp hd i
theorem Rds.le(g:MuLe mu mu'):∀{xs ys:List AV},Rds mu xs ys->Rds mu' xs ys
 | [],[],_=>trivial
 |x :: xs,y :: ys,⟨h,t⟩=>⟨h.le g,Rds.le g t⟩
 | [],_ :: _,h=>h.elim
 |_ :: _,[],h=>h.elim
theorem YT.le(r:MuLe mu mu'){f:AV}{args:List AV}{v:AV}(h:YT P mu f args v):YT P mu' f args v:=by
 rcases h with ⟨g,first,j,i,o,p,l⟩|⟨g,first,j,i,o,p,l⟩
 .refine .inl ⟨g,first,j,i,o,p,?_⟩
  rcases l with l|⟨l,t⟩
  .exact .inl l
  .exact .inr ⟨l.le r,t⟩
 .exact .inr ⟨g,first,j,i,o,p,l.le r⟩
theorem DS.le{ev:us->AV}{v:AV}(j:reads pl o=true)(l:MuLe mu mu')(h:DS P pl o ev mu v m):DS P pl o ev mu' v mu':=by
 unfold reads at j;rw[qB,Bool.not_eq_true']at j;obtain⟨j,p⟩:=j;unfold DS at *
 unfold memR at j;unfold memW at p;cases t:o.op<;>rw[t]at h j p<;>simp only[qD]at h⊢<;>try grind
 case load=>obtain⟨z,g,i⟩:=h;exact⟨z,qeP l g,i.1,by first|rfl|trivial⟩
 case lookup=>obtain⟨z,g,i⟩:=h;exact⟨z,qeR l g,i.1,by first|rfl|trivial⟩
 case entry=>obtain⟨z,g,i⟩:=h;exact⟨z,qeS l g,i.1,by first|rfl|trivial⟩
 case call c =>
  obtain⟨callee,args,C⟩:=c;cases callee with
  |invoke r m=>exact h.elim
  |value f =>
   rcases h with ⟨v,g,i⟩|⟨g,_⟩
   .exact .inl ⟨v,g.le l,i.1,by first|rfl|trivial⟩
   grind
  |builtin b =>
   cases b<;>simp only at h p⊢<;>first
    | (obtain⟨z,g,i⟩:=h;exact⟨z,qeU l g,i.1,by first|rfl|trivial⟩)
    | (exact absurd p zSp)
theorem DS.push{ev:us->AV}{v:AV}(hp:Ws pl o=true)(h:DS P pl o ev mu v m):MuLe mu m:=by
 unfold DS at *
 unfold Ws at hp;cases l:o.op<;>rw[l]at h hp<;>simp only[qD]at h<;>try grind
 case alloc=>obtain⟨z,g,i,j,p⟩:=h;rw[<-p];exact .push _ _
 case box =>
  obtain⟨g,i⟩:=h;simp only at hp;rw[if_pos hp]at i;rw[<-i.2];exact .push _ _
 case makeSlice =>
  obtain⟨z,g,i,j⟩:=h;rw[<-j];unfold YN at g;split at g
  .split at g
   .split at g
    .simp only[qp]at g
     rw[<-g];exact .push _ _
    grind
   grind
  grind
 case makeMap=>obtain⟨r,g,i⟩:=h;rw[<-i];exact .push _ _
end
end Go.Ev
namespace Go.Ev
open Go Go.RowKit
section
variable {o:xd}{st:St}
theorem pp{pl:Pol}(h:reads pl o=true):memW pl o=false:=by
 simp_all[reads,qB]
theorem qeV{pl:Pol}(h:reads pl o=true):memR o=true:=by
 unfold reads at h;rw[qB]at h;exact h.1
theorem qeW{pl:Pol}(h:memW pl o=true):reads pl o=false:=by
 unfold reads;rw[h];simp
theorem qeX{pl:Pol}{a b:xd}(h:reads pl a=false):soft pl a b=false:=by
 unfold soft;rw[h];simp only[Bool.false_and,Bool.or_false]
 grind [reads,memR,memW,absurd]
theorem qeY{P:j1}{pl:Pol}{a b:xd}(h:soft pl a b=true){ev ev':us->AV}{mu m:Mu}{v l:AV}(g:DS P pl b ev' mu l m)(i:DS P pl a ev mu v mu):DS P pl a ev m v m:=by
 unfold soft at h;rw[wr]at h;rcases h with h|h
 .split at h
  .rename_i t U ko t' o p r C
   have I:=beq_iff_eq.1 h;subst I;unfold DS at *
   rw[r]at i⊢;rw[C]at g;simp only[qD]at i g⊢;obtain⟨z,J,R,_⟩:=i;obtain⟨y,T,_,j⟩:=g;obtain⟨y1,y2⟩:=y;simp only at j;subst j;exact⟨z,qd7 T J,R,by first|rfl|trivial⟩
  grind
 .rw [qB]at h
  exact i.le h.1 (g.push h.2)
section
variable (P:j1) (pl:Pol) (ops:Array xd)
def jW(st:St)(o:xd)(g:St):Prop:=
 ∃ b,yz ops st o=some b/\(b=true->∃ v m,DS P pl o st.ev st.mu v m/\g=st.put o.dst v m)/\(b=false->g=st.put o.dst (.sc xa) st.mu)
theorem Wt{Q:St->Prop}{r:AV->St->Prop}:∀(l:List xd) (st:St),awpS P pl true ops l Q r st ->
  ∃ g:Nat->St,g 0=st/\Q (g l.length)/\∀(i:Nat) (o:xd),l[i]?=some o->jW P pl ops (g i) o (g (i+1)):=by
 intro l;induction l with
 |nil=>intro st h;exact⟨fun _=>st,rfl,h,zSp⟩
 |cons o l C =>
  intro st h;obtain⟨b,t,I,J⟩:=h;have key:∀ j:St,awpS P pl true ops l Q r j->jW P pl ops st o j->∃ g:Nat->St,g 0=st/\Q (g (o :: l).length)/\∀(i:Nat) (x:xd),(o :: l)[i]?=some x->jW P pl ops (g i) x (g (i+1)):=by
   intro j p R;obtain⟨g,e0,T,hs⟩:=C j p;refine⟨fun i=>match i with|0=>st|k+1=>g k,rfl,T,fun i x hx=>?_⟩
   grind
  cases b with
  |true =>
   obtain⟨v,m,U,hk⟩:=qD.det (I rfl);exact key _ hk ⟨true,t,fun _=>⟨v,m,U,rfl⟩,fun h=>absurd h zSp⟩
  |false=>exact key _ (J rfl) ⟨false,t,fun h=>absurd h zSp,fun _=>rfl⟩
variable (po:Array xd)
def vy(k:Nat):Option Tmp:=(po[k]?).bind (·.dst)
def wAt(k:Nat):Bool:=(po[k]?).any (memW pl)
def Sst(g:Nat->St)(S:List Nat):Nat->St
 | 0=>g 0
 |k+1=>if k∈S then ⟨fun t=>if vy po k=some t then (g (k+1)).tm t else (Sst g S k).tm t,if wAt pl po k=true then (g (k+1)).mu else (Sst g S k).mu⟩ else Sst g S k
variable {P pl ops po}
theorem jK{d:Option Tmp}{v:AV}{m:Mu}{t:Tmp}(h:d≠some t):(st.put d v m).tm t=st.tm t:=by
 cases d with
 |none=>rfl
 |some d =>
  simp only[St.put]
  grind
theorem jW.frame{g:St}(h:jW P pl ops st o g){t:Tmp}(i:o.dst≠some t):g.tm t=st.tm t:=by
 obtain⟨b,_,l,j⟩:=h;cases b with
 |true=>grind [jK]
 |false=>rw[j rfl];exact jK i
theorem jW.mem{g:St}(h:jW P pl ops st o g)(i:memW pl o=false):g.mu=st.mu:=by
 obtain⟨b,_,j,l⟩:=h;cases b with
 |true=>obtain⟨v,m,p,rfl⟩:=j rfl;exact(p.mem i).1
 |false=>rw[l rfl];rfl
variable {stf:Nat->St}
theorem qeZ(j:∀(i:Nat) (o:xd),po[i]?=some o->jW P pl ops (stf i) o (stf (i+1))){k:Nat}(l:k<po.size){t:Tmp}(h:vy po k≠some t):(stf (k+1)).tm t=(stf k).tm t:=by
 have g:po[k]?=some po[k]:=zP1 l;exact(j k _ g).frame (by unfold vy at h;rw[g]at h;exact h)
theorem pq(j:∀(i:Nat) (o:xd),po[i]?=some o->jW P pl ops (stf i) o (stf (i+1))){k:Nat}(l:k<po.size)(h:wAt pl po k=false):(stf (k+1)).mu=(stf k).mu:=by
 have g:po[k]?=some po[k]:=zP1 l;exact(j k _ g).mem (by unfold wAt at h;rw[g]at h;exact h)
theorem Wu(l:∀(i:Nat) (o:xd),po[i]?=some o->jW P pl ops (stf i) o (stf (i+1)))(S:List Nat)(t:Tmp)(j:Nat)(r:∀ k,k<j->vy po k=some t->k∈S)(C:∀ k,j<=k->k<po.size->vy po k=some t->k ∉ S) :
  ∀ m,m<=po.size->(Sst pl po stf S m).tm t=(stf (min m j)).tm t:=by
 intro m;induction m with
 |zero=>intro _;simp[Sst]
 |succ m g =>
  intro I;have g:=g zOm;simp only[Sst];by_cases p:vy po m=some t
  .grind
  .have e:(if m∈S then (⟨fun t=>if vy po m=some t then (stf (m+1)).tm t else (Sst pl po stf S m).tm t,if wAt pl po m=true then (stf (m+1)).mu else (Sst pl po stf S m).mu⟩:St) else Sst pl po stf S m).tm t=(Sst pl po stf S m).tm t:=by
    grind
   rw[e,g];by_cases J:m<j
   .rw [Nat.min_eq_left zOm,Nat.min_eq_left zOm,qeZ l zOm p]
   grind
theorem Vw(l:∀(i:Nat) (o:xd),po[i]?=some o->jW P pl ops (stf i) o (stf (i+1)))(S:List Nat)(j:Nat)(r:∀ k,k<j->wAt pl po k=true->k∈S)(C:∀ k,j<=k->k<po.size->wAt pl po k=true->k ∉ S) :
  ∀ m,m<=po.size->(Sst pl po stf S m).mu=(stf (min m j)).mu:=by
 intro m;induction m with
 |zero=>intro _;simp[Sst]
 |succ m g =>
  intro I;have g:=g zOm;simp only[Sst];by_cases p:wAt pl po m=true
  .grind
  .have e:(if m∈S then (⟨fun t=>if vy po m=some t then (stf (m+1)).tm t else (Sst pl po stf S m).tm t,if wAt pl po m=true then (stf (m+1)).mu else (Sst pl po stf S m).mu⟩:St) else Sst pl po stf S m).mu=(Sst pl po stf S m).mu:=by
    grind
   rw[e,g];by_cases J:m<j
   .rw [Nat.min_eq_left zOm,Nat.min_eq_left zOm,pq l zOm (zUs p)]
   grind
theorem qe0(S:List Nat)(t:Tmp)(j:Nat)(g:vy po j≠some t):∀ m,(Sst pl po stf (S++[j]) m).tm t=(Sst pl po stf S m).tm t:=by
 intro m;induction m with
 |zero=>rfl
 |succ m i =>
  simp only[Sst];by_cases l:m∈S
  .grind
  grind
theorem qe1(S:List Nat)(j:Nat)(g:wAt pl po j=false):∀ m,(Sst pl po stf (S++[j]) m).mu=(Sst pl po stf S m).mu:=by
 intro m;induction m with
 |zero=>rfl
 |succ m i =>
  simp only[Sst];by_cases l:m∈S
  .grind
  grind
def OrdC(pl:Pol)(ops po:Array xd)(L:List Nat):Prop:=∀(i k:Nat) x y,i<k->po[i]?=some x->po[k]?=some y->yJ pl ops x y=true->Bef L i k
theorem Wv(hs:∀(i:Nat) (o:xd),po[i]?=some o->jW P pl ops (stf i) o (stf (i+1))){ro:Ro}{G0:Gh}{al:Mu}{w0:j3}{n:Nat}(s0:Sim G0 al w0.heap)(b0:Nat->Nat)(b1:∀ k,k<po.size->ops[b0 k]?=po[k]?)(b2:(po.toList.all fun o=>dOk n o.dst)=true){QQ:Exit->Act->j3->Prop}
    (hQ:∀ a w G,Rel ro G0 al w0 n G (stf po.size) a w->QQ .normal a w) :
    ∀(post pre:List Nat) (a:Act) (w:j3) (G:Gh),OrdC pl ops po (pre++post)->(pre++post).length=po.size->(∀ k,k∈pre++post->k<po.size)->(pre++post).Nodup ->
      Rel ro G0 al w0 n G (Sst pl po stf pre po.size) a w->wpOpsIn (WF ro) 0 P ops QQ (post.map b0) a w:=by
  intro post;induction post with
  |nil =>
    intro pre a w G ht a7 a9 aa r;simp only[zV]at ht a7 a9 aa;simp only[List.map_nil,wpOpsIn];refine hQ a w G ?_;have ai:∀ i,i<po.size->i∈pre:=by
      intro i hi;refine uJ fun h=>?_
      have h1:(i :: pre).length<=(qu po.size).length:=jT (vb.2 ⟨h,aa⟩) (fun k hk=>by
        grind)
      simp at h1;omega
    have e:Sst pl po stf pre po.size=stf po.size:=by
      have e1:(Sst pl po stf pre po.size).tm=(stf po.size).tm:=by
        funext t;rw[Wu hs pre t po.size (fun k hk _=>ai k hk) (fun k h1 h2 _=>absurd h2 zOm) po.size (qm _),Nat.min_self]
      have e2:(Sst pl po stf pre po.size).mu=(stf po.size).mu:=by
        rw[Vw hs pre po.size (fun k hk _=>ai k hk) (fun k h1 h2 _=>absurd h2 zOm) po.size (qm _),Nat.min_self]
      cases hq:Sst pl po stf pre po.size;simp_all
    rw[<-e];exact r
  |cons j post ih =>
    intro pre a w G ht a7 a9 aa r;have hj:j<po.size:=a9 j zSp;have ag:j ∉ pre:=fun h=>by
      grind
    have ho:po[j]?=some po[j]:=zP1 hj;generalize cl:po[j]=o at ho;have b3:dOk n o.dst=true:=qI.1 b2 o (by grind)
    have l:∀(k:Nat) (x:xd),k<j->po[k]?=some x->yJ pl ops x o=true->k∈pre:=fun k x hk hx hc=>ht k j x o hk hx ho hc pre post rfl
    have ab:∀(i k:Nat) (x y:xd),i<k->po[i]?=some x->po[k]?=some y->yJ pl ops x y=true->k∈pre->i∈pre:=by
      intro i k x y bi hx hy hc hk;obtain⟨p,q,e⟩:=List.append_of_mem hk;have:=ht i k x y bi hx hy hc p (q++j :: post) (by rw[e];simp);rw[e];simp[this]
    have after:∀(k:Nat) (x:xd),j<k->po[k]?=some x->yJ pl ops o x=true->k ∉ pre:=fun k x hk hx hc bj=>ag (ab j k o x hk ho hx hc bj)
    have a0:∀ k t,vy po k=some t->∃ x,po[k]?=some x/\x.dst=some t:=by
      intro k t h;unfold vy at h;cases hx:po[k]? with
      |none=>rw[hx]at h;exact absurd h zSp
      |some x=>rw[hx]at h;exact⟨x,rfl,h⟩
    have a1:∀ k,wAt pl po k=true->∃ x,po[k]?=some x/\memW pl x=true:=by
      intro k h;unfold wAt at h;cases hx:po[k]? with
      |none=>rw[hx]at h;exact absurd h zSp
      |some x=>rw[hx]at h;exact⟨x,rfl,h⟩
    have cm:∀ k (x:xd),po[k]?=some x->j<=k->k≠j->j<k:=fun k x _ h1 h2=>zOm
    have aj:∀ t,t∈wG ops o->(Sst pl po stf pre po.size).tm t=(stf j).tm t:=by
      intro t b4;rw[Wu hs pre t j ?_ ?_ po.size (qm _),Nat.min_eq_right zOm]
      · intro k hk T
        obtain⟨x,hx,a3⟩:=a0 k t T;exact l k x hk hx (by simp[yJ,a3,b4])
      · intro k an ao T
        by_cases a4:k=j
        · subst a4;exact ag
        · obtain⟨x,hx,a3⟩:=a0 k t T
          exact after k x zOm hx (by simp[yJ,a3,b4])
    have ak:(memW pl o||memR o)=true->reads pl o=false->(Sst pl po stf pre po.size).mu=(stf j).mu:=by
      intro R bk;rw[Vw hs pre j ?_ ?_ po.size (qm _),Nat.min_eq_right zOm]
      · intro k hk T
        obtain⟨x,hx,C⟩:=a1 k T;refine l k x hk hx ?_;simp only[yJ,C,R,Bool.and_self,Bool.true_or]
      · intro k an ao T
        by_cases a4:k=j
        · subst a4;exact ag
        · obtain⟨x,hx,C⟩:=a1 k T
          refine after k x zOm hx ?_;have bl:=qeX (b:=x) bk;simp only[yJ,C,bl,Bool.true_or,Bool.and_true,Bool.not_false];simp only[wr]at R⊢;rcases R with R|R
          · exact .inl (.inl (.inl R))
          · exact .inl (.inl (.inr R))
    have ah:reads pl o=true->∀(ev:us->AV) v m,DS P pl o ev (stf j).mu v m->DS P pl o ev (Sst pl po stf pre po.size).mu v (Sst pl po stf pre po.size).mu:=by
      intro a5 ev v m aq;have b5:memW pl o=false:=pp a5;have b6:memR o=true:=qeV a5;have bef:∀ k,k<j->wAt pl po k=true->k∈pre:=by
        intro k hk T;obtain⟨x,hx,C⟩:=a1 k T;refine l k x hk hx ?_;simp only[yJ,C,b6,Bool.or_true,Bool.and_self,Bool.true_or]
      obtain⟨J,bm,cn,b7,bn⟩:∃ J,j<=J/\J<=po.size/\(∀ k,k<J->wAt pl po k=true->k∈pre)/\(∀ k,J<=k->k<po.size->wAt pl po k=true->k ∉ pre):=by
        have down:∀ d,d<=po.size-j->(∀ k,po.size-d<=k->k<po.size->wAt pl po k=true->k ∉ pre) \/
            ∃ J,j<=J/\J<=po.size/\(∀ k,k<J->wAt pl po k=true->k∈pre)/\(∀ k,J<=k->k<po.size->wAt pl po k=true->k ∉ pre):=by
          intro d;induction d with
          |zero=>intro _;exact .inl (fun k h1 h2 _=>absurd h2 zOm)
          |succ d bo =>
            intro T;rcases bo zOm with h|h
            · by_cases hw:wAt pl po (po.size-(d+1))=true/\(po.size-(d+1))∈pre
              · obtain⟨bq,b8⟩:=hw
                refine .inr ⟨po.size-d,zOm,zOm,fun k hk br=>?_,fun k h1 h2 h3=>h k h1 h2 h3⟩;by_cases ar:k=po.size-(d+1)
                · rw[ar];exact b8
                · obtain⟨x,hx,C⟩:=a1 k br
                  obtain⟨y,hy,bs⟩:=a1 _ bq;exact ab k _ x y zOm hx hy (by simp only[yJ,C,bs,Bool.true_or,Bool.and_self]) b8
              · refine .inl (fun k h1 h2 h3 h4=>?_)
                by_cases ar:k=po.size-(d+1)
                · rw[ar]at h3 h4;exact hw ⟨h3,h4⟩
                · exact h k zOm h2 h3 h4
            · exact .inr h
        rcases down (po.size-j) (qm _) with h|h
        · exact⟨j,qm _,zOm,bef,fun k h1 h2 h3=>h k zOm h2 h3⟩
        · exact h
      have bt:(Sst pl po stf pre po.size).mu=(stf J).mu:=by
        rw[Vw hs pre J b7 bn po.size (qm _),Nat.min_eq_right zOm]
      have chain:∀ I,j<=I->I<=J->∀ v m,DS P pl o ev (stf j).mu v m->DS P pl o ev (stf I).mu v (stf I).mu:=by
        intro I;induction I with
        | zero =>
                  intro h1 _ v m h;have:j=0:=zOm;subst this;have:=(h.mem b5).1;rw[this]at h;exact h
        |succ I bu =>
          intro h1 h2 v m h;by_cases he:j=I+1
          · rw[<-he];have:=(h.mem b5).1;rw[this]at h;exact h
          · have a6:=bu zOm zOm v m h
            by_cases hw:wAt pl po I=true
            · have au:=b7 I zOm hw
              obtain⟨x,hx,C⟩:=a1 I hw;have cp:j≠I:=fun e=>by rw[<-e]at au;exact ag au
              have av:soft pl o x=true:=by
                refine Decidable.byContradiction fun b9=>after I x zOm hx ?_ au
                simp only[yJ,b6,C,Bool.not_eq_true]at b9⊢;simp[b9]
              obtain⟨b',cq,bb,bc⟩:=hs I x hx;cases b' with
              |true =>
                obtain⟨v',m2,bv,be⟩:=bb rfl;rw[be];have:((stf I).put x.dst v' m2).mu=m2:=by cases x.dst<;>rfl
                rw[this];exact qeY av bv a6
              | false =>
                         rw[bc rfl];have:((stf I).put x.dst (.sc xa) (stf I).mu).mu=(stf I).mu:=by cases x.dst<;>rfl
                         rw[this];exact a6
            · have:=pq hs (k:=I) zOm (zUs hw)
              rw[this];exact a6
      rw[bt];exact chain J bm (qm _) v m aq
    have aw:∀ t,o.dst=some t->(Sst pl po stf (pre++[j]) po.size).tm t=(stf (j+1)).tm t:=by
      intro t a2;rw[Wu hs (pre++[j]) t (j+1) ?_ ?_ po.size (qm _),Nat.min_eq_right zOm]
      · intro k hk T
        by_cases a4:k=j
        · subst a4;simp
        · obtain⟨x,hx,a3⟩:=a0 k t T
          exact qM.2 (.inl (l k x zOm hx (by simp[yJ,a3,a2])))
      · intro k an ao T ax
        obtain⟨x,hx,a3⟩:=a0 k t T;rcases qM.1 ax with h|h
        · exact after k x zOm hx (by simp[yJ,a3,a2]) h
        · simp at h;omega
    have ay:memW pl o=true->(Sst pl po stf (pre++[j]) po.size).mu=(stf (j+1)).mu:=by
      intro R;rw[Vw hs (pre++[j]) (j+1) ?_ ?_ po.size (qm _),Nat.min_eq_right zOm]
      · intro k hk T
        by_cases a4:k=j
        · subst a4;simp
        · obtain⟨x,hx,C⟩:=a1 k T
          exact qM.2 (.inl (l k x zOm hx (by simp[yJ,C,R])))
      · intro k an ao T ax
        obtain⟨x,hx,C⟩:=a1 k T;rcases qM.1 ax with h|h
        · exact after k x zOm hx (by simp[yJ,C,R]) h
        · simp at h;omega
    have bw:vy po j=o.dst:=by unfold vy;rw[ho];rfl
    have ca:wAt pl po j=memW pl o:=by unfold wAt;rw[ho];rfl
    have ad:∀(v:AV) (m:Mu),(∀ t,o.dst=some t->v=(stf (j+1)).tm t)->(memW pl o=true->m=(stf (j+1)).mu)->(memW pl o=false->m=(Sst pl po stf pre po.size).mu) ->
        (Sst pl po stf pre po.size).put o.dst v m=Sst pl po stf (pre++[j]) po.size:=by
      intro v m h1 h2 h3;have e1:((Sst pl po stf pre po.size).put o.dst v m).tm=(Sst pl po stf (pre++[j]) po.size).tm:=by
        funext t;by_cases a2:o.dst=some t
        · rw[aw t a2,<-h1 t a2,a2];simp[St.put]
        · rw[jK a2,qe0 pre t j (by rw[bw];exact a2)]
      have e2:((Sst pl po stf pre po.size).put o.dst v m).mu=(Sst pl po stf (pre++[j]) po.size).mu:=by
        cases R:memW pl o with
        |true=>rw[ay R];exact h2 R
        |false=>rw[qe1 pre j (by rw[ca];exact R)];exact h3 R
      cases hq:(Sst pl po stf pre po.size).put o.dst v m;cases cb:Sst pl po stf (pre++[j]) po.size;rw[hq,cb]at e1 e2;simp only at e1 e2;rw[e1,e2]
    obtain⟨b,hb,cc,cd⟩:=hs j o ho;have cf:yz ops (Sst pl po stf pre po.size) o=some b:=by
      rw[<-hb];unfold yz;cases hg:o.guard with
      |none=>rfl
      |some q =>
        obtain⟨k,ck⟩:=q;simp only;cases T:(ops[k]?).bind (·.dst) with
        |none=>rfl
        |some d =>
          simp only;rw[aj d (by simp[wG,hg,T])]
    have az:=Vq r cf;have ae:∀{U:St} {v:AV} {m:Mu} {t:Tmp},o.dst=some t->(U.put o.dst v m).tm t=v:=by
      intro U v m t h;rw[h];simp[St.put]
    simp only[List.map_cons,wpOpsIn,b1 j hj,ho,az];cases b with
    |false =>
      rw[if_neg zSp];have af:=cd rfl;have e:=ad (.sc xa) (Sst pl po stf pre po.size).mu (fun t h=>by rw[af];exact(ae h).symm) (fun h=>by rw[af,ak (zP1 h) (qeW h)];rfl) (fun _=>rfl);refine⟨fun _ _=>trivial,ih (pre++[j]) _ _ G (zUs ht) (zUs a7) (zUs a9) (zUs aa) ?_⟩;rw[<-e];exact r.put s0 (Stp.refl r.stp.sim) (.sc _ rfl) b3
    |true =>
      rw[if_pos rfl];obtain⟨v,m,aq,af⟩:=cc rfl;have bg:∀ x,x∈o.op.operands->(stf j).ev x=(Sst pl po stf pre po.size).ev x:=by
        intro x hx;cases x with
        |tmp t =>
          refine(aj t ?_).symm;simp only[wG,Wr,qM,List.mem_filterMap];exact .inl ⟨.tmp t,by simpa using hx,rfl⟩
        |const v=>rfl
        |global g=>rfl
        |func f=>rfl
      have a8:=aq.congr bg;have:∃ I,DS P pl o (Sst pl po stf pre po.size).ev (Sst pl po stf pre po.size).mu v I/\(memW pl o=true->I=m)/\(memW pl o=false->I=(Sst pl po stf pre po.size).mu):=by
        by_cases a5:reads pl o=true
        · exact⟨_,ah a5 _ _ _ a8,fun h=>by rw[pp a5]at h;exact absurd h zSp,fun _=>rfl⟩
        simp only[Bool.not_eq_true]at a5;by_cases R:(memW pl o||memR o)=true
        · rw[ak R a5]
          refine⟨m,a8,fun _=>rfl,fun h=>(a8.mem h).1⟩
        · simp only[wr,not_or,Bool.not_eq_true]at R
          exact⟨_,(a8.mem R.1).2 R.2 _,fun h=>by rw[R.1]at h;exact absurd h zSp,fun _=>rfl⟩
      obtain⟨I,cg,ch,cj⟩:=this;have e:=ad v I (fun t h=>by rw[af];exact(ae h).symm) (fun h=>by rw[ch h,af];rfl) cj;refine Vo r.stp.sim r.ev cg ?_ ?_
      · rintro v' cr G' w' u ⟨rfl,rfl⟩ bh hv
        refine ih (pre++[j]) _ _ G' (zUs ht) (zUs a7) (zUs a9) (zUs aa) ?_;rw[<-e];exact r.put s0 bh hv b3
      · intro _ _ _ _ _ h;exact h.elim
end
end
section
variable {ops:Array xd}{pl:Pol}{P:j1}
theorem Ww{i:Array xd}{g:Nat->St}:∀ m,Sst pl i g [] m=g 0:=by
 intro m;induction m with
 |zero=>rfl
 |succ m j=>simp_all[Sst]
theorem pr{ro:Ro}{C:Gh}{g:Mu}{I:j3}{n:Nat}(U:Sim C g I.heap)(j:(ops.toList.all fun o=>dOk n o.dst)=true)
  {Q:St->Prop} {Qp:AV->St->Prop} {QQ:Exit->Act->j3->Prop} (hQ:∀ st a w G,Q st->Rel ro C g I n G st a w->QQ .normal a w) {st:St} {a:Act} {w:j3} {G:Gh} (r:Rel ro C g I n G st a w)
  (L:List Nat) (l:L.length=ops.size) (J:∀ k,k∈L->k<ops.size) (R:L.Nodup) (p:OrdC pl ops ops L)
  (h:awpS P pl true ops ops.toList Q Qp st):wpOpsIn (WF ro) 0 P ops QQ L a w:=by
 obtain⟨t,e0,hq,hs⟩:=Wt P pl ops ops.toList st h;have T:∀(i:Nat) (o:xd),ops[i]?=some o->jW P pl ops (t i) o (t (i+1)):=fun i o ho=>hs i o (zUs ho)
 have:=Wv T U (fun i=>i) (fun k _=>rfl) j (fun a w G r=>hQ _ a w G (zUs hq) r) L [] a w G p l J R (by rw[Ww,e0];exact r);simpa using this
theorem qe2{F:Fence}{n:Nat}{o:xd}{a:Act}{K C:Act->j3->Prop}{Q p:Exit->Act->j3->Prop}{g:Result Next}(j:∀ a w,K a w->C a w)(hp:∀ I a w,Q (.panic I) a w->p (.panic I) a w)(ho:LetsOut Q->LetsOut p)
  (h:o.uponIn F n P a K Q g):o.uponIn F n P a C p g:=by
 cases g with
 |halt r w=>cases r<;>first|exact h.elim|exact hp _ _ _ h
 |ok nx w =>
  cases nx
  case value v=>exact j _ _ h
  case skip=>exact j _ _ h
  case defer d=>exact j _ _ h
  case enter f args =>
   refine⟨h.1,h.2.1,fun T t=>?_⟩;obtain⟨e,U,fr,hR,J⟩:=h.2.2 T t
   grind
  case row row args=>exact⟨h.1,h.2.mono fun _ _ t=>j _ _ t⟩
  case round l f R a0 i =>
   refine⟨h.1,RoundIn.mono h.2 fun e U hR=>?_⟩
   grind
  all_goals exact h.elim
theorem Vx{F:Fence}{n:Nat}{QQ:Exit->Act->j3->Prop}:∀(j g:List Nat) (a:Act) (w:j3),wpOpsIn F n P ops (Exit.then (wpOpsIn F n P ops QQ g) QQ) j a w->wpOpsIn F n P ops QQ (j++g) a w
 | [],g,a,w,h=>h
 |i :: j,g,a,w,h=>by
  simp only[wpOpsIn,jd]at h⊢;cases r:ops[i]? with
  |none =>
   rw[r]at h;exact Vx j g a w h
  |some o =>
   rw[r]at h;simp only at h⊢;split
   .rename_i l
    rw[if_pos l]at h;exact⟨h.1,qe2 (fun a w t=>Vx j g a w t) (fun C a w p=>p) (fun⟨a,w,p⟩=>⟨a,w,p⟩) h.2⟩
   .rename_i l
    rw[if_neg l]at h;exact⟨h.1,Vx j g _ w h.2⟩
theorem pt(n:Nat):∀(d:Nat) (L:List Nat),L.length=n+d->(∀ k,k∈L->k<n+d)->L.Nodup->(∀ j,n<=j->j<n+d->∀ i,i<j->Bef L i j)->∃ C,L=C++List.range' n d/\C.length=n
 | 0,L,o,_,_,_=>⟨L,zSp,zUs o⟩
 |d+1,L,o,T,r,R=>by
  have g:∀ i,i<n+(d+1)->i∈L:=by
   intro i t;refine uJ fun h=>?_
   have o:(i :: L).length<=(qu (n+(d+1))).length:=jT (vb.2 ⟨h,r⟩) (fun k l=>by
    grind)
   simp at o;omega
  obtain⟨p,q,e⟩:=List.append_of_mem (g (n+d) zOm);have hp:∀ i,i<n+d->i∈p:=fun i t=>R (n+d) zOm zOm i t p q e
  have U:n+d<=p.length:=by
   have:(qu (n+d)).length<=p.length:=jT List.nodup_range (fun k l=>hp k (zUs l));simpa using this
  have hq:q=[]:=by
   have:=congrArg List.length e;simp at this;exact ug zOm
  subst hq;rw[e]at r;have I:p.Nodup:=(uL.1 r).1;have J:n+d ∉ p:=fun h=>(uL.1 r).2.2 _ h _ zSp rfl
  obtain⟨C,a0,a1⟩:=pt n d p (by grind) (fun k l=>by
   have:=T k (by rw[e];simp[l]);have a2:k≠n+d:=fun h=>J (h ▸ l)
   omega) I (fun j P a3 i t pre post e2=>by
   refine R j P zOm i t pre (post++[n+d]) ?_;rw[e,e2];simp)
  grind [List.range'_concat]
def Wx(pl:Pol)(ops:Array xd)(n:Nat):Bool:=
 jm ops&&decide (n<=ops.size)&&(let g:=uo ops.toList [];(qu ops.size).all fun j=>(qu j).all fun i=>(if n<=j then (g.getD j 0).testBit i else
  match ops[i]?,ops[j]? with|some a,some b=>!yJ pl ops a b||(g.getD j 0).testBit i|_,_=>true))
def jX:Nat->xd->List xd->List xd
 |d+1,x,y :: l=>y :: jX d x l
 |_,x,l=>x :: l
def ju:Nat->Nat->List xd->List xd
 | 0,d,x :: l=>jX d x l
 |n+1,d,x :: l=>x :: ju n d l
 |_,_,[]=>[]
def mvI(a b k:Nat):Nat:=if k<a then k else if k<b then k+1 else if k=b then a else k
def mvP(a b i:Nat):Nat:=if i<a then i else if i=a then b else if i<=b then i-1 else i
theorem qe3{a b:Nat}(h:a<=b)(k:Nat):mvI a b (mvP a b k)=k:=by
 unfold mvP;split
 .unfold mvI;rw[if_pos ‹_›]
 .split
  .unfold mvI;rw[if_neg zOm,if_neg zOm,if_pos rfl];omega
  .split
   .unfold mvI;rw[if_neg zOm,if_pos zOm];omega
   .unfold mvI;rw[if_neg zOm,if_neg zOm,if_neg zOm]
theorem qe4{a b:Nat}(h:a<=b)(k:Nat):mvP a b (mvI a b k)=k:=by
 unfold mvI;split
 .unfold mvP;rw[if_pos ‹_›]
 .split
  .unfold mvP;rw[if_neg zOm,if_neg zOm,if_pos zOm];omega
  .split
   .unfold mvP;rw[if_neg zOm,if_pos rfl];omega
   .unfold mvP;rw[if_neg zOm,if_neg zOm,if_neg zOm]
theorem pu:∀(d:Nat) (x:xd) (l:List xd),(jX d x l).length=l.length+1
 | 0,x,l=>by simp[jX]
 |d+1,x,[]=>by simp[jX]
 |d+1,x,y :: l=>by simp[jX,pu d x l]
theorem pv:∀(d:Nat) (x:xd) (l:List xd) (k:Nat),d<=l.length->(jX d x l)[k]?=if k<d then l[k]? else if k=d then some x else l[k-1]?
 | 0,x,l,k,h=>by
  cases k with
  |zero=>simp[jX]
  |succ k=>simp[jX]
 |d+1,x,[],k,h=>by simp at h
 |d+1,x,y :: l,k,h=>by
  cases k with
  |zero=>simp[jX]
  |succ k =>
   simp only[jX,j7];rw[pv d x l k (zUs h)];by_cases g:k<d
   .simp [g]
   .by_cases i:k=d
    .simp [i]
    .obtain ⟨m,rfl⟩:∃ m,k=m+1:=⟨k-1,zOm⟩
     simp[g,i]
theorem Wy:∀(a d:Nat) (l:List xd),(ju a d l).length=l.length
 | 0,d,x :: l=>by simp[ju,pu]
 |n+1,d,x :: l=>by simp[ju,Wy n d l]
 | 0,d,[]=>rfl
 |n+1,d,[]=>rfl
theorem pw:∀(a d:Nat) (l:List xd) (k:Nat),a+d<l.length->(ju a d l)[k]?=l[mvI a (a+d) k]?
 | 0,d,[],k,h=>by simp at h
 |n+1,d,[],k,h=>by simp at h
 | 0,d,x :: l,k,h=>by
  simp only[ju];rw[pv d x l k (by simp at h;omega)];unfold mvI;by_cases g:k<d
  .simp [g]
  .by_cases i:k=d
   .simp [i]
   .obtain ⟨m,rfl⟩:∃ m,k=m+1:=⟨k-1,zOm⟩
    simp[g,i]
 |n+1,d,x :: l,k,h=>by
  cases k with
  |zero=>simp[ju,mvI]
  |succ k =>
   simp only[ju,j7];rw[pw n d l k (by simp at h;omega)];have:mvI (n+1) (n+1+d) (k+1)=mvI n (n+d) k+1:=by
    unfold mvI;rw[show n+1+d=n+d+1 by omega];simp only[Nat.add_lt_add_iff_right,Nat.add_right_cancel_iff];split
    .rfl
    .split
     .rfl
     .split<;>rfl
   rw[this,j7]
def px(P:j1)(pl:Pol)(ops:Array xd)(Q:St->Prop)(g:AV->St->Prop)(st:St):Prop:=
 (Vs pl ops=true/\awpS P pl true ops ops.toList Q g st) \/
 (∃ n,Wx pl ops n=true/\awpS P pl true ops (ops.toList.take n) (fun st=>awpS P pl false ops (ops.toList.drop n) Q g st) g st) \/
 (∃ a d,Vt pl ops a (a+d)=true/\0<d/\a+d<ops.toList.length/\awpS P pl true ops ops.toList Q g st/\awpS P pl true ops (ju a d ops.toList) Q g st)
theorem qe5{ro:Ro}{G0:Gh}{a6:Mu}{w0:j3}{n:Nat}(s0:Sim G0 a6 w0.heap)(J:(ops.toList.all fun o=>dOk n o.dst)=true)
  {Q:St->Prop} {Qp:AV->St->Prop} {QQ:Exit->Act->j3->Prop} (hQ:∀ st a w G,Q st->Rel ro G0 a6 w0 n G st a w->QQ .normal a w)
  (ah:∀ v st a w G u,Qp v st->Rel ro G0 a6 w0 n G st a w->VRel G w.heap v u->QQ (.panic [{ v:=u,recovered:=false }]) a w) {st:St} {a:Act} {w:j3} {G:Gh} (r:Rel ro G0 a6 w0 n G st a w)
  (h:px P pl ops Q Qp st) (C:Bool) (t:Nat):wpOpsIn (WF ro) 0 P ops QQ (Region.schedule C ops t) a w:=by
 have a4:∀(l:jm ops=true),Topo ops (Region.schedule C ops t)/\(Region.schedule C ops t).length=ops.size/\(∀ k,k∈Region.schedule C ops t->k<ops.size)/\(Region.schedule C ops t).Nodup:=by
  intro l;obtain⟨h1,h2⟩:=pf l C t;obtain⟨h3,h4⟩:=Topo.closed l _ _ rfl h1;exact⟨h1,h2,fun k I=>(h3 k I).1,h4⟩
 rcases h with ⟨U,h⟩|⟨m,U,hA⟩|⟨g,d,U,hd,a7,hA,hB⟩
 .obtain ⟨l,T⟩:=qeN U
  obtain⟨h1,h2,h3,h4⟩:=a4 l;exact pr s0 J hQ r _ h2 h3 h4 (fun i k x y a2 hx hy hc=>h1.bef l (T i k x y a2 hx hy hc)) h
 .unfold Wx at U
  rw[qB,qB,decide_eq_true_eq]at U;obtain⟨⟨l,ax⟩,T⟩:=U;obtain⟨h1,h2,h3,h4⟩:=a4 l;generalize Region.schedule C ops t=L at *
  simp only[qI,yx]at T;have ai:∀ j,m<=j->j<m+(ops.size-m)->∀ i,i<j->Bef L i j:=by
   intro j aj ay i hi;have:=T j zOm i hi;rw[if_pos aj]at this;exact h1.bef l this
  obtain⟨L1,hL,ak⟩:=pt m (ops.size-m) L zOm (fun k I=>zW1 (h3 k I)) h4 ai;have ab:L1.Nodup:=by rw[hL]at h4;exact(uL.1 h4).1
  have ad:∀ k,k∈L1->k<m:=by
   intro k I;have az:=h3 k (by rw[hL];simp[I]);refine uJ fun b0=>?_
   rw[hL]at h4;exact(uL.1 h4).2.2 k I k (by simp[List.mem_range'];exact⟨k-m,zOm,zOm⟩) rfl
  rw[hL];refine Vx L1 _ a w ?_;obtain⟨a3,e0,hq,hs⟩:=Wt P pl ops (ops.toList.take m) st hA;have a1:(ops.toList.take m).toArray.size=m:=zSo;have R:∀ k,k<m->(ops.toList.take m).toArray[k]?=ops[k]?:=by
   intro k I;simp[I]
  have aa:∀(i:Nat) (o:xd),(ops.toList.take m).toArray[i]?=some o->jW P pl ops (a3 i) o (a3 (i+1)):=fun i o ho=>hs i o (zUs ho)
  have key:=Wv (QQ:=Exit.then (wpOpsIn (WF ro) 0 P ops QQ (List.range' m (ops.size-m))) QQ) aa s0 (fun i=>i) (fun k I=>(R k zOm).symm) ?_ (fun a w G r=>?_) L1 [] a w G ?_ (by simpa[a1] using ak) (fun k I=>by rw[a1];exact ad k (zUs I)) (zUs ab) (by rw[Ww,e0];exact r)
  .simpa using key
  .rw [qI]at J⊢
   intro o ho;exact J o (List.mem_of_mem_take (zUs ho))
  .have al:awpS P pl false ops (ops.toList.drop m) Q Qp (a3 (ops.toList.take m).toArray.size):=by simpa using hq
   have ae:=Wq s0 hQ ah (ops.toList.drop m) _ a w G r (by
    rw[qI]at J⊢;intro o ho;exact J o (List.mem_of_mem_drop ho)) al
   have e:wpOpsIn (WF ro) 0 P ops QQ (List.range' m (ops.size-m))=wpListIn (WF ro) 0 P ops QQ (ops.toList.drop m):=by
    have:=wpOpsIn_eq_wpListIn (F:=WF ro) (n:=0) (P:=P) (ops:=ops) (Q:=QQ) (ops.toList.drop m) m (fun j=>zSp);simpa using this
   show wpOpsIn (WF ro) 0 P ops QQ (List.range' m (ops.size-m)) a w;rw[e];exact ae
  .simp only[jq]
   intro i k x y a2 hx hy hc pre post e;have I:k<m:=by have:=(yf.1 hy).1;omega
   rw[R i zOm]at hx;rw[R k I]at hy;have a5:=T k zOm i a2;rw[if_neg zOm,hx,hy]at a5;simp only[hc,Bool.not_true,Bool.false_or]at a5;exact h1.bef l a5 pre (post++List.range' m (ops.size-m)) (by rw[hL,e];simp)
 .obtain ⟨l,T,af⟩:=qeO U
  obtain⟨h1,h2,h3,h4⟩:=a4 l;generalize Region.schedule C ops t=L at *
  have a8:∀ i,i<ops.size->i∈L:=by
   intro i hi;refine uJ fun h=>?_
   have h1:(i :: L).length<=(qu ops.size).length:=jT (vb.2 ⟨h,h4⟩) (fun k I=>by
    rcases qt.1 I with rfl|I
    .simpa using hi
    .simpa using (h3 k I))
   simp at h1;omega
  have ag:g+d<ops.size:=zUs a7;rcases Bef.total (a8 g zOm) (a8 (g+d) ag) zOm with hb|hb
  .refine pr s0 J hQ r _ h2 h3 h4 (fun i k x y a2 hx hy hc=>?_) hA
   by_cases he:i=g/\k=g+d
   .rw [he.1,he.2];exact hb
   .exact h1.bef l (T i k x y a2 he hx hy hc)
  .obtain ⟨a3,e0,hq,hs⟩:=Wt P pl ops (ju g d ops.toList) st hB
   have R:∀ k:Nat,(ju g d ops.toList).toArray[k]?=ops[mvI g (g+d) k]?:=by
    intro k;have:=pw g d ops.toList k a7;simpa using this
   have a1:(ju g d ops.toList).toArray.size=ops.size:=by simp[Wy]
   have aa:∀(i:Nat) (o:xd),(ju g d ops.toList).toArray[i]?=some o->jW P pl ops (a3 i) o (a3 (i+1)):=fun i o ho=>hs i o (zUs ho)
   have e1:∀ k,mvI g (g+d) (mvP g (g+d) k)=k:=qe3 zOm;have e2:∀ k,mvP g (g+d) (mvI g (g+d) k)=k:=qe4 zOm;have an:∀ k,k<ops.size->mvP g (g+d) k<ops.size:=by
    intro k I;unfold mvP;split
    .exact I
    .split
     .exact ag
     .split<;>omega
   have key:=Wv (QQ:=QQ) aa s0 (mvI g (g+d)) (fun k _=>(R k).symm) ?_ (fun a w G r=>hQ _ a w G (zUs hq) r) (L.map (mvP g (g+d))) [] a w G ?_ (by simpa[Wy] using h2) ?_ ?_ (by rw[Ww,e0];exact r)
   .simpa [List.map_map,Function.comp_def,e1] using key
   .rw [qI]at J⊢
    intro o ho;obtain⟨k,I⟩:=List.mem_iff_getElem?.1 ho;have:ops[mvI g (g+d) k]?=some o:=by rw[<-R];simpa using I
    exact J o (by have:=Array.mem_of_getElem? this;simpa using this)
   .simp only[jq]
    intro i k x y a2 hx hy hc p q e;rw[R]at hx hy;have ao:Bef L (mvI g (g+d) i) (mvI g (g+d) k):=by
     by_cases I:k=g+d
     .have ek:mvI g (g+d) k=g:=by unfold mvI;rw[if_neg zOm,if_neg zOm,if_pos I]
      rw[ek]at hy⊢;by_cases hi:i<g
      .have ei:mvI g (g+d) i=i:=by unfold mvI;rw[if_pos hi]
       rw[ei]at hx⊢;exact h1.bef l (T i g x y hi zOm hx hy hc)
      .have ei:mvI g (g+d) i=i+1:=by unfold mvI;rw[if_neg hi,if_pos zOm]
       rw[ei]at hx⊢;by_cases aq:i+1=g+d
       .rw [aq];exact hb
       .rw [af (i+1) x y zOm zOm hx hy]at hc
        exact absurd hc zSp
     .by_cases hi:i=g+d
      .have ei:mvI g (g+d) i=g:=by unfold mvI;rw[if_neg zOm,if_neg zOm,if_pos hi]
       have ek:mvI g (g+d) k=k:=by unfold mvI;rw[if_neg zOm,if_neg zOm,if_neg I]
       rw[ei]at hx⊢;rw[ek]at hy⊢;exact h1.bef l (T g k x y zOm zOm hx hy hc)
      .have ar:mvI g (g+d) i<mvI g (g+d) k:=by
        unfold mvI;rw[if_neg I,if_neg hi];split<;>split<;>(try split)<;>(try split)<;>omega
       have au:mvI g (g+d) i≠g:=by
        unfold mvI;rw[if_neg hi];split
        .omega
        .split<;>omega
       exact h1.bef l (T _ _ x y ar (fun h=>au h.1) hx hy hc)
    have e':L=p.map (mvI g (g+d))++mvI g (g+d) k :: q.map (mvI g (g+d)):=by
     have:=congrArg (List.map (mvI g (g+d))) e;simpa[List.map_map,Function.comp_def,e1] using this
    have:=ao _ _ e';obtain⟨z,hz,av⟩:=qr.1 this;have:z=i:=by have:=congrArg (mvP g (g+d)) av;rwa[e2,e2]at this
    exact this ▸ hz
   .intro k I
    simp only[jq,qr]at I;obtain⟨z,hz,rfl⟩:=I;rw[a1];exact an z (h3 z hz)
   .simp only[jq]
    exact List.Pairwise.map _ (fun x y aw e=>aw (by have:=congrArg (mvI g (g+d)) e;rwa[e1,e1]at this)) h4
end
end Go.Ev
namespace Go.Ev
open Go Go.RowKit
theorem qD.congr{P:j1}{pl:Pol}{det:Bool}{j:Option Tmp}{op:Op}{ev ev':us->AV}{mu:Mu}{K I:AV->Mu->Prop}(h:qD P pl det j op ev mu K I)(g:∀ x,x∈op.operands->ev x=ev' x):qD P pl det j op ev' mu K I:=by
 cases op<;>simp only[qD,Op.operands]at h g⊢<;>try (exact h.elim)
 case move x=>rw[<-g x zSp];exact h
 case assign x=>rw[<-g x zSp];exact h
 case makeFunc f first p =>
  rw[<-Zm (l:=first) (fun x hx=>g x (by simp[hx])),<-Zm (l:=p) (fun x hx=>g x (by simp[hx]))];exact h
 case pick c x y=>rw[<-g c zSp,<-g x zSp,<-g y zSp];exact h
 case alloc=>exact h
 case box t x=>rw[<-g x zSp];exact h
 case build t J=>rw[<-Vu g];exact h
 case buildSlice t n J=>rw[<-Vu g];exact h
 case load t x=>rw[<-g x zSp];exact h
 case store t x y=>rw[<-g x zSp,<-g y zSp];exact h
 case nilCheck x=>rw[<-g x zSp];exact h
 case binOp op t x y yt=>rw[<-g x zSp,<-g y zSp];exact h
 case unOp op t x=>rw[<-g x zSp];exact h
 case convert s t x=>rw[<-g x zSp];exact h
 case makeInterface t x=>rw[<-g x zSp];exact h
 case makeSlice t x y=>rw[<-g x zSp,<-g y zSp];exact h
 case slice t x R T U =>
  rw[<-g x zSp,<-Vv (o:=R) (fun y C=>g y (by simp only[Array.mem_append];exact .inl (.inl (.inr C)))),
   <-Vv (o:=T) (fun y C=>g y (by simp only[Array.mem_append];exact .inl (.inr C))),<-Vv (o:=U) (fun y C=>g y (by simp only[Array.mem_append];exact .inr C))]
  exact h
 case fieldAddr t x f=>rw[<-g x zSp];exact h
 case field t x f=>rw[<-g x zSp];exact h
 case indexAddr t x i=>rw[<-g x zSp,<-g i zSp];exact h
 case index t x i=>rw[<-g x zSp,<-g i zSp];exact h
 case extract x i=>rw[<-g x zSp];exact h
 case typeAssert x xt t ok=>rw[<-g x zSp];exact h
 case makeMap=>exact h
 case lookup t m k ok=>rw[<-g m zSp,<-g k zSp];exact h
 case mapUpdate t m k v=>rw[<-g m zSp,<-g k zSp,<-g v zSp];exact h
 case insert t m k v=>rw[<-g m zSp,<-g k zSp,<-g v zSp];exact h
 case mapEntry t m k=>rw[<-g m zSp,<-g k zSp];exact h
 case entryStore t m k v=>rw[<-g m zSp,<-g k zSp,<-g v zSp];exact h
 case range t m=>rw[<-g m zSp];exact h
 case next i str=>rw[<-g i zSp];exact h
 case entry i=>rw[<-g i zSp];exact h
 case panic x=>rw[<-g x zSp];exact h
 case call c =>
  obtain⟨callee,args,a0⟩:=c;cases callee with
  |invoke r m=>exact h.elim
  |value f =>
   simp only[Call.operands]at g;simp only at h⊢;rw[<-Zm (l:=args) (fun x hx=>g x (by simp[hx])),<-g f zSp];exact h
  |builtin b =>
   simp only[Call.operands]at g;simp only at h⊢;rw[<-Zm (l:=args) (fun x hx=>g x (by simp[hx]))];exact h
def qe6(o:xd):Bool:=
 match o.op with
 | .call c=>match c.callee with | .builtin .len | .builtin .cap | .builtin .min | .builtin .max=>false|_=>true
 | .panic _ | .next .. => true
 |_=>false
def zW(ops:Array xd)(i:Nat):Option Tmp:=(ops[i]?).bind (·.dst)
def jv(ops:Array xd)(i:Nat)(t:Tmp):Bool:=match ops[i]? with|some o=>(wG ops o).contains t|none=>false
def Wz(ops:Array xd)(i:Nat):Bool:=match ops[i]? with|some o=>memR o|none=>false
def ZZ(st:St)(d:Tmp)(mu:Mu):AV->Mu->Prop:=fun v m=>v=st.tm d/\m=mu
def noK:AV->Mu->Prop:=fun _ _=>False
end Go.Ev
namespace Go.Ev
open Go Go.RowKit
section
variable {a:Act}{ops:Array xd}{G:Gh}{O g:List Nat}{i:Nat}{o:xd}{pl:Pol}{P:j1}{st:St}{w:j3}
def Zn(o:xd):Bool:=match o.op with | .alloc _=>true|_=>false
def YY(pl:Pol)(o:xd):Nat:=if Zn o then 2 else if memW pl o||qe6 o then 1 else 0
def zK(pl:Pol)(ops:Array xd)(i:Nat):Nat:=match ops[i]? with|some o=>YY pl o|none=>0
def pend(pl:Pol)(ops:Array xd)(pre:List Nat)(j:Nat):List Nat:=pre.filter fun p=>zK pl ops p == 0&&(Wz ops p&&!(yP ops j).testBit p)
def Vy(pl:Pol)(ops:Array xd):List Nat->List Nat->Bool
 |_,[]=>true
 |pre,j :: O=>(!pre.contains j&&((qu ops.size).all fun i=>match zW ops i with|some d=>!jv ops j d||pre.contains i|none=>true)) &&
   ((zK pl ops j == 2||pre.all fun i=>zK pl ops i == 0||(yP ops j).testBit i)&&Vy pl ops (pre++[j]) O)
def Vz(pl:Pol)(ops:Array xd)(O:List Nat):Bool:=
 (jm ops&&(ops.toList.all fun o=>!Zn o||o.guard.isNone))&&((O.all fun i=>decide (i<ops.size))&&((qu ops.size).all fun i=>O.contains i)) &&
 (((qu ops.size).all fun i=>match zW ops i with
  |some d=>(qu ops.size).all fun j=>(i == j||zW ops j != some d)&&(!jv ops j d||(yP ops j).testBit i)
  |none=>zK pl ops i == 1)&&Vy pl ops [] O)
structure uT (pl:Pol) (ops:Array xd) (O:List Nat):Prop where
 edges:jm ops=true
 guards:∀(i:Nat) (o:xd),ops[i]?=some o->Zn o=true->o.guard=none
 lt:∀ i,i∈O->i<ops.size
 all:∀ i,i<ops.size->i∈O
 du:∀ i j d,i<ops.size->j<ops.size->zW ops i=some d->(i≠j->zW ops j≠some d)/\(jv ops j d=true->(yP ops j).testBit i=true)
 dn:∀ i,i<ops.size->zW ops i=none->zK pl ops i=1
 ord:∀(PO lO:List Nat) (j:Nat),O=PO++j :: lO->j ∉ PO/\(∀ i d,i<ops.size->zW ops i=some d->jv ops j d=true->i∈PO)/\(zK pl ops j≠2->∀ i,i∈PO->zK pl ops i≠0->(yP ops j).testBit i=true)
theorem py:∀(O pre:List Nat),Vy pl ops pre O=true->∀(g l:List Nat) (j:Nat),O=g++j :: l ->
  j ∉ pre++g/\(∀ i d,i<ops.size->zW ops i=some d->jv ops j d=true->i∈pre++g)/\(zK pl ops j≠2->∀ i,i∈pre++g->zK pl ops i≠0->(yP ops j).testBit i=true)
 | [],pre,h,g,l,j,e=>by cases g<;>simp at e
 |k :: O,pre,h,g,l,j,e=>by
  simp only[Vy,qB]at h;obtain⟨⟨r,t⟩,C,o⟩:=h;cases g with
  |nil =>
   grind
  |cons p g =>
   simp only[jd,uN]at e;obtain⟨rfl,e⟩:=e;have:=py O (pre++[k]) o g l j e;simpa using this
theorem qe7(h:Vz pl ops O=true):uT pl ops O:=by
 unfold Vz at h;simp only[qB]at h;obtain⟨⟨⟨t,l⟩,p,r⟩,C,I⟩:=h;simp only[qI,yx]at l p r C;refine⟨t,fun i o U J=>?_,fun i g=>by simpa using p i g,fun i g=>by simpa using r i g,fun i j d g hj P=>?_,fun i g P=>?_,fun R T j e=>?_⟩
 .have:=l o (by grind)
  rw[J]at this;simpa using this
 .grind
 .grind
 .have:=py O [] I R T j e
  simpa using this
def Y0(P:j1)(pl:Pol)(o:xd)(st:St):Prop:=qD P pl true o.dst o.op st.ev st.mu (match o.dst with|some d=>ZZ st d st.mu|none=>noK) noK
def uq(P:j1)(pl:Pol)(ops:Array xd):List Nat->St->Prop
 | [],_=>True
 |p :: l,U=>(match ops[p]? with|some o=>OptK (yz ops U o) fun b=>Br b (Y0 P pl o U) True|none=>True)/\uq P pl ops l U
theorem WA:∀{l:List Nat},uq P pl ops l st->∀{i:Nat} {o:xd} {d:Tmp},i∈l->ops[i]?=some o->o.dst=some d->yz ops st o=some true->DS P pl o st.ev st.mu (st.tm d) st.mu
 | [],_,i,_,_,p,_,_,_=>absurd p qE
 |j :: l,h,i,o,d,p,t,C,I=>by
  obtain⟨g,J⟩:=h;rcases qt.1 p with rfl|p
  .rw [t]at g
   obtain⟨b,r,g,_⟩:=g;rw[I]at r;have g:Y0 P pl o st:=g (by cases r;rfl);unfold Y0 at g;have e:(match o.dst with|some d=>ZZ st d st.mu|none=>noK)=ZZ st d st.mu:=by rw[C]
   rw[e]at g;exact g
  .exact WA J p t C I
def plan(pl:Pol)(ops:Array xd):List Nat->List Nat->List (Nat×Nat×List Nat)
 |_,[]=>[]
 |pre,j :: O=>(j,zK pl ops j,if zK pl ops j=0 then [] else pend pl ops pre j) :: plan pl ops (pre++[j]) O
def wH(P:j1)(ops:Array xd):List (Nat×Nat×List Nat)->Prop
 | []=>True
 | (j,k,_) :: T=>(match k,ops[j]? with|2,some o=>(match o.op with | .alloc e=>OptK (qC P e) fun z=>z.cells.all AV.one=true|_=>False)|_,_=>True)/\wH P ops T
def awpT(P:j1)(pl:Pol)(ops:Array xd)(Q:St->Prop)(g:AV->St->Prop):List (Nat×Nat×List Nat)->St->Prop
 | [],U=>Q U
 | (j,k,r) :: T,U=>match ops[j]? with
  |none=>False
  |some o=>OptK (yz ops U o) fun b=>Br b (qD P pl (k != 1) o.dst o.op U.ev U.mu (fun v m=>uq P pl ops r (U.put o.dst v m)/\awpT P pl ops Q g T (U.put o.dst v m)) (fun v m=>k=1/\∀ i,g v ⟨i,m⟩)) (awpT P pl ops Q g T (U.put o.dst (.sc xa) U.mu))
def SegA(P:j1)(pl:Pol)(ops:Array xd)(Q:St->Prop)(g:AV->St->Prop)(st:St):Prop:=
 ∃ O,Vz pl ops O=true/\wH P ops (plan pl ops [] O)/\awpT P pl ops Q g (plan pl ops [] O) st
theorem Rel.reveal{ro:Ro}{G0:Gh}{a8:Mu}{w0:j3}{n:Nat}(r:Rel ro G0 a8 w0 n G st a w){d:Tmp}{b:Nat}{e:j2}{zv:uk}(h1:(ofV zv).cells.all AV.one=true)
  (ht:a.tmps.getD d xa = .pointer (some ⟨b,0,none⟩)) (hb:w.heap[b]?=some (.cells zv.cells e)) (a2:w0.heap.size<=b) (hl:¬Live G st.mu b) (I:¬G.imm b) :
  Rel ro G0 a8 w0 n ⟨G.imm,G.blk++[(b,zv.cells.size)]⟩ (st.put (some d) (.ptr st.mu.length 0) (st.mu++[.arr (ofV zv).cells])) a w:=by
 have s:=r.stp.sim;have a1:=s.len;have J:G.le ⟨G.imm,G.blk++[(b,zv.cells.size)]⟩:=⟨fun b h=>h,fun i x h=>by
  grind⟩
 have he:=Ext.refl G w.heap;have o:∀{i:Nat} {c':Cell} {g C:Nat},i<st.mu.length->(G.blk++[(b,zv.cells.size)])[i]?=some (g,C)->G.blk[i]?=some (g,C):=fun {i c' g C} I hk=>by
  grind
 have new:∀{i g C:Nat},i=st.mu.length->(G.blk++[(b,zv.cells.size)])[i]?=some (g,C)->(g,C)=(b,zv.cells.size):=fun {i g C} I hk=>by
  grind
 have P:∀ x,Live ⟨G.imm,G.blk++[(b,zv.cells.size)]⟩ (st.mu++[.arr (ofV zv).cells]) x->Live G st.mu x\/x=b:=fun x ⟨i,c',t',hc,hd,hk⟩=>by
  rcases z6 hc with ⟨I,l⟩|⟨I,l⟩
  .exact .inl ⟨i,c',t',l,hd,o (c':=c') I hk⟩
  grind
 have a3:vP G w.heap zv.cells.size (.cells zv.cells e) (.arr (ofV zv).cells):=by
  have hv:VRel G w.heap (ofV zv) zv:=VRel.ofV zv;obtain⟨ag,T,_⟩:=hv.cells (fun c hc=>by simpa using qI.1 h1 c hc);exact⟨zv.cells,e,rfl,rfl,zOm,fun j y hj=>⟨by grind,T j y hj⟩⟩
 have a9:Sim ⟨G.imm,G.blk++[(b,zv.cells.size)]⟩ (st.mu++[.arr (ofV zv).cells]) w.heap:=by
  refine⟨zP1 a1,s.imm,?_,?_,?_,s.tab⟩
  .intro i c' g R hc hd hk
   rcases z6 hc with ⟨I,l⟩|⟨I,l⟩
   .obtain ⟨o',q1,q2⟩:=s.obj i c' g R l hd (o (c':=c') I hk)
    exact⟨o',q1,q2.mono J he⟩
   .obtain ⟨rfl,rfl⟩:=Prod.mk.inj (new I hk)
    subst l;exact⟨_,hb,a3.mono J he⟩
  .intro i c' g R hc hd hk aa
   rcases z6 hc with ⟨I,l⟩|⟨ab,l⟩
   .exact s.live i c' g R l hd (o (c':=c') I hk) aa
   grind
  .intro i j ci cj x ti tj ab af ad ae a4 a5
   rcases z6 ab with ⟨U,a6⟩|⟨U,a6⟩<;>rcases z6 af with ⟨a0,a7⟩|⟨a0,a7⟩
   .exact s.inj i j ci cj x ti tj a6 a7 ad ae (o (c':=ci) U a4) (o (c':=cj) a0 a5)
   .have a:=o (c':=ci) U a4
    have c:=new a0 a5;obtain⟨rfl,_⟩:=Prod.mk.inj c;exact absurd ⟨i,ci,ti,a6,ad,a⟩ hl
   .have a:=o (c':=cj) a0 a5
    have c:=new U a4;obtain⟨rfl,_⟩:=Prod.mk.inj c;exact absurd ⟨j,cj,tj,a7,ae,a⟩ hl
   .omega
 refine⟨fun t=>?_,fun h=>?_,r.size,⟨r.stp.le.trans J,a9,r.stp.keep,r.stp.size,fun x hx=>?_,r.stp.inew,r.stp.tape,r.stp.os,r.stp.output,r.stp.drawn⟩,fun p hp=>(r.kp p hp).mono J he⟩
 .by_cases e:t=d
  .subst e
   have:(st.put (some t) (.ptr st.mu.length 0) (st.mu++[.arr (ofV zv).cells])).tm t = .ptr st.mu.length 0:=by simp[St.put]
   rw[this,ht];refine .ptr _ _ _ zv.cells.size ?_;show (G.blk++[_])[st.mu.length]?=_;rw[<-a1];simp
  .rw [jK (fun h=>e (by cases h;rfl))]
   exact(r.tm t).mono J he
 .obtain ⟨Ds,q1,q2,q3⟩:=r.df h
  refine⟨Ds,q1,q2,fun D hD=>⟨(q3 D hD).1,(q3 D hD).2.obj,fun hx=>?_,(q3 D hD).2.nimm⟩⟩;rcases P D hx with hx|rfl
  .exact (q3 D hD).2.nlive hx
  .have:=(q3 D hD).2.obj
   rw[hb]at this;cases this
 .rcases P x hx with hx|rfl
  .exact r.stp.live x hx
  .exact .inr a2
def behind(pl:Pol)(ops:Array xd)(g j pre:List Nat)(t:Tmp):Prop:=(∃ i,i∈g/\i ∉ pre/\zW ops i=some t)\/∃ i,i∈j/\zK pl ops i=2/\zW ops i=some t
open Classical in
noncomputable def jn(pl:Pol)(ops:Array xd)(g i pre:List Nat)(st:St):St:=⟨fun t=>if behind pl ops g i pre t then .any else st.tm t,st.mu⟩
theorem vA{i pre:List Nat}{t:Tmp}(h:¬behind pl ops g i pre t):(jn pl ops g i pre st).tm t=st.tm t:=by
 unfold jn;simp only;rw[if_neg h]
theorem Z0{i pre:List Nat}{t:Tmp}(h:behind pl ops g i pre t):(jn pl ops g i pre st).tm t = .any:=by
 unfold jn;simp only;rw[if_pos h]
structure AlF (P:j1) (ops:Array xd) (G:Gh) (mu:Mu) (base:Nat) (a:Act) (w:j3) (i b:Nat):Prop where
 x:∃(o:xd) (e:j2) (d:Tmp) (zv:uk),ops[i]?=some o/\o.op = .alloc e/\o.dst=some d/\qC P e=some (ofV zv)/\a.tmps.getD d xa = .pointer (some ⟨b,0,none⟩)/\w.heap[b]?=some (.cells zv.cells e)
 base:base<=b
 nl:¬Live G mu b
 ni:¬G.imm b
theorem AlF.lt{mu:Mu}{base:Nat}{b:Nat}(h:AlF P ops G mu base a w i b):b<w.heap.size:=by
 obtain⟨o,e,d,g,_,_,_,_,_,j⟩:=h.x
 grind
theorem AlF.step{G':Gh}{mu mu':Mu}{base:Nat}{r:Act}{w':j3}{b:Nat}(h:AlF P ops G mu base a w i b)(t:Stp G mu w G' mu' w')(U:∀ d,zW ops i=some d->r.tmps.getD d xa=a.tmps.getD d xa):AlF P ops G' mu' base r w' i b:=by
 have l:=h.lt;obtain⟨o,e,d,C,I,p,J,R,hp,T⟩:=h.x;refine⟨⟨o,e,d,C,I,p,J,R,?_,?_⟩,h.base,fun j=>?_,fun g=>?_⟩
 .grind [zW]
 .rw [t.keep b l h.nl];exact T
 .rcases t.live b j with j|j
  .exact h.nl j
  .omega
 .rcases t.inew b g with g|g|g
  .exact h.ni g
  .exact h.nl g
  .omega
theorem Rel.weak{ro:Ro}{j:Gh}{i:Mu}{l:j3}{n:Nat}{g:St}(r:Rel ro j i l n G st a w)(o:g.mu=st.mu)(p:∀ t,g.tm t = .any\/g.tm t=st.tm t):Rel ro j i l n G g a w:=by
 refine⟨fun t=>?_,fun h=>by rw[o];exact r.df h,r.size,by rw[o];exact r.stp,r.kp⟩;rcases p t with e|e
 .rw [e];exact .any _
 .rw [e];exact r.tm t
def DG(P:j1)(pl:Pol)(ops:Array xd)(o:xd)(st:St)(d:Tmp)(m:Mu):Prop:=∃ b,yz ops st o=some b/\(b=true->DS P pl o st.ev m (st.tm d) m)/\(b=false->st.tm d = .sc xa)
theorem DG.re{d:Tmp}{m g:Mu}(h:DG P pl ops o st d m)(l:memW pl o=false)(p:memR o=true->yz ops st o=some true->DS P pl o st.ev g (st.tm d) g):DG P pl ops o st d g:=by
 obtain⟨b,i,r,t⟩:=h;refine⟨b,i,fun e=>?_,t⟩;subst e;cases j:memR o with
 |true=>exact p j i
 |false=>exact((r rfl).mem l).2 j g
theorem VA{g:St}(h:∀ t,(wG ops o).contains t=true->g.tm t=st.tm t):yz ops g o=yz ops st o:=by
 grind [yz,bind,wG]
theorem qe8(h:o.guard=none):yz ops st o=some true:=by
 unfold yz;rw[h]
structure SegI (P:j1) (pl:Pol) (ops:Array xd) (O:List Nat) (ro:Ro) (G0:Gh) (mu0:Mu) (w0:j3) (n:Nat) (Q:St->Prop) (Qp:AV->St->Prop) (pre:List Nat) (a:Act) (w:j3) (PO lO:List Nat) (st:St) (G:Gh) (B:Nat->Nat):Prop where
 split:O=PO++lO
 awp:awpT P pl ops Q Qp (plan pl ops PO lO) st
 s:∀ i,i∈PO->zK pl ops i≠0->i∈pre
 d:∀ i,i∈pre->zK pl ops i≠2->i∈PO
 p:∀ i o d,i∈PO->i ∉ pre->ops[i]?=some o->o.dst=some d->DG P pl ops o st d st.mu
 al:∀ i,i∈lO->i∈pre->AlF P ops G st.mu w0.heap.size a w i (B i)
 inj:∀ i j,i∈lO->j∈lO->i∈pre->j∈pre->i≠j->B i≠B j
 rel:Rel ro G0 mu0 w0 n G (jn pl ops PO lO pre st) a w
theorem VB{k:Nat}(g:ops[k]?=some o){t:Tmp}(hx:Operand.tmp t∈o.op.operands):jv ops k t=true:=by
 simp only[jv,g,List.contains_iff_mem,wG,Wr,qM,List.mem_filterMap];exact .inl ⟨.tmp t,by simpa using hx,rfl⟩
theorem uT.disj{j:List Nat}(K:uT pl ops O)(h:O=g++j){i:Nat}(l:i∈j):i ∉ g:=by
 obtain⟨s,t,rfl⟩:=List.append_of_mem l;have:=(K.ord (g++s) t i (by rw[h];simp)).1
 grind
theorem uT.rd{j:List Nat}(K:uT pl ops O)(h:O=j++g){i e:Nat}{d:Tmp}(o:i∈j)(l:e∈g)(p:zW ops e=some d):jv ops i d=false:=by
 cases r:jv ops i d with
 |false=>rfl
 |true =>
  obtain⟨s,t,rfl⟩:=List.append_of_mem o;have:=(K.ord s (t++g) i (by rw[h];simp)).2.1 e d (K.lt e (by rw[h];simp[l])) p r;exact absurd (jc _ this) (K.disj h l)
theorem WB(g:ops[i]?=some o)(h:zK pl ops i=0):memW pl o=false:=by
 unfold zK at h;rw[g]at h;simp only[YY]at h
 grind
theorem qe9(g:ops[i]?=some o)(h:zK pl ops i=2):∃ e,o.op = .alloc e:=by
 grind [zK,YY,Zn]
theorem pz(pl:Pol)(ops:Array xd)(i:Nat):zK pl ops i=0\/zK pl ops i=1\/zK pl ops i=2:=by
 unfold zK;split
 .unfold YY
  split
  .exact .inr (.inr rfl)
  grind
 .exact .inl rfl
section
variable {P:j1} {pl:Pol} {ops:Array xd} {O:List Nat} {ro:Ro} {G0:Gh} {mu0:Mu} {w0:j3} {n:Nat} {Q:St->Prop} {Qp:AV->St->Prop} {pre:List Nat} {a:Act} {w:j3}
theorem SegI.keepDS(K:uT pl ops O){PO lO:List Nat}{e:Nat}(C:O=PO++e :: lO){st:St}{i:Nat}{o j:xd}{d:Tmp}(J:i∈PO)(ho:ops[i]?=some o)(R:ops[e]?=some j)(hd:o.dst=some d){m I:Mu}{v:AV}(h:DS P pl o st.ev m (st.tm d) m) :
  DS P pl o (st.put j.dst v I).ev m ((st.put j.dst v I).tm d) m:=by
 have l:e∈e :: lO:=q8 ..;have T:i≠e:=fun h=>K.disj C l (h ▸ J)
 have U:i<ops.size:=K.lt i (by rw[C];simp[J]);have p:e<ops.size:=K.lt e (by rw[C];simp);have a0:zW ops i=some d:=by simp[zW,ho,hd]
 have r:zW ops e=j.dst:=by simp[zW,R]
 have e1:(st.put j.dst v I).tm d=st.tm d:=jK (fun h=>(K.du i e d U p a0).1 T (by rw[r];exact h));rw[e1];refine h.congr fun x hx=>?_
 cases x with
 |tmp t =>
  show st.tm t=(st.put j.dst v I).tm t;refine(jK fun h=>?_).symm;have h1:=K.rd C J l (by rw[r];exact h)
  grind [VB]
 |const v=>rfl
 |global g=>rfl
 |func f=>rfl
theorem SegI.keepDG(K:uT pl ops O){PO lO:List Nat}{e:Nat}(g:O=PO++e :: lO){st:St}{i:Nat}{o I:xd}{d:Tmp}(J:i∈PO)(R:ops[i]?=some o)(j:ops[e]?=some I)(hd:o.dst=some d){m m':Mu}{v:AV}(h:DG P pl ops o st d m) :
  DG P pl ops o (st.put I.dst v m') d m:=by
 obtain⟨b,hb,l,h2⟩:=h;have p:e∈e :: lO:=q8 ..;have T:i≠e:=fun h=>K.disj g p (h ▸ J)
 have U:i<ops.size:=K.lt i (by rw[g];simp[J]);have r:e<ops.size:=K.lt e (by rw[g];simp);have a0:zW ops i=some d:=by simp[zW,R,hd]
 have C:zW ops e=I.dst:=by simp[zW,j]
 have e1:(st.put I.dst v m').tm d=st.tm d:=jK (fun h=>(K.du i e d U r a0).1 T (by rw[C];exact h));refine⟨b,?_,fun e=>SegI.keepDS K g J R j hd (l e),fun e=>by rw[e1];exact h2 e⟩;rw[VA fun t ht=>?_]
 .exact hb
 .refine jK fun h=>?_
  have l:=K.rd g J p (by rw[C];exact h);simp only[jv,R]at l;rw[ht]at l;cases l
theorem SegI.advP(K:uT pl ops O){PO T:List Nat}{e:Nat}{st:St}{G:Gh}{B:Nat->Nat}(h:SegI P pl ops O ro G0 mu0 w0 n Q Qp pre a w PO (e :: T) st G B)(hk:zK pl ops e=0) :
  ∃ a5,SegI P pl ops O ro G0 mu0 w0 n Q Qp pre a w (PO++[e]) T a5 G B:=by
 have a6:e∈e :: T:=q8 ..;have R:=K.disj h.split a6;have a7:e ∉ pre:=fun U=>R (h.d e U zOm)
 have r:e<ops.size:=K.lt e (by rw[h.split];simp);have ho:ops[e]?=some ops[e]:=zP1 r;generalize ops[e]=o at ho;have hw:=h.awp;simp only[plan,hk,awpT,ho]at hw;obtain⟨b,hb,a8,ad⟩:=hw;have hw:∃ v,(b=true->DS P pl o st.ev st.mu v st.mu)/\(b=false->v = .sc xa)/\awpT P pl ops Q Qp (plan pl ops (PO++[e]) T) (st.put o.dst v st.mu):=by
  cases b with
  |false=>grind
  |true =>
   obtain⟨v,m,a0,a4⟩:=qD.det (o:=o) (h:=a8 rfl);obtain rfl:=(a0.mem (WB ho hk)).1
   grind
 obtain⟨v,a0,a9,a4⟩:=hw;have C:zW ops e=o.dst:=by simp[zW,ho]
 cases hd:o.dst with
 |none=>have:=K.dn e r (by rw[C,hd]);omega
 |some d =>
  rw[hd]at C;have aa:O=(PO++[e])++T:=by rw[h.split];simp
  refine⟨st.put o.dst v st.mu,aa,a4,fun i l a1=>?_,fun i l a1=>?_,fun i o' d' l a2 I J=>?_,fun i l a2=>h.al i (qY _ l) a2,fun i j l hj=>h.inj i j (qY _ l) (qY _ hj),?_⟩
  .rcases qM.1 l with l|l
   .exact h.s i l a1
   grind
  .exact jc _ (h.d i l a1)
  .show DG P pl ops o' (st.put o.dst v st.mu) d' st.mu
   rcases qM.1 l with l|l
   .exact SegI.keepDG K h.split l I ho J (h.p i o' d' l a2 I J)
   .rw [qL]at l;subst l
    rw[ho]at I;cases I;rw[hd]at J;cases J;have e1:(st.put o.dst v st.mu).tm d=v:=by simp[St.put,hd]
    have ab:∀ t,jv ops i t=true->(st.put o.dst v st.mu).tm t=st.tm t:=fun t ht=>by
     refine jK fun U=>?_
     have a3:t=d:=by rw[hd]at U;cases U;rfl
     subst a3;exact R ((K.ord PO T i h.split).2.1 i t r C ht)
    refine⟨b,by grind [VA,jv],fun e=>?_,fun e=>by rw[e1];exact a9 e⟩;rw[e1];refine(a0 e).congr fun x hx=>?_
    cases x with
    |tmp t =>
     show st.tm t=(st.put o.dst v st.mu).tm t;exact(ab t (VB ho hx)).symm
    |const v=>rfl
    |global g=>rfl
    |func f=>rfl
  .refine h.rel.weak rfl fun t=>?_
   by_cases hb:behind pl ops (PO++[e]) T pre t
   .exact .inl (Z0 hb)
   .right
    rw[vA hb];have a3:o.dst≠some t:=fun U=>hb (.inl ⟨e,zSp,a7,by rw[C];rw[hd]at U;exact U⟩)
    rw[jK a3,vA];rintro (⟨i,h1,h2,h3⟩|⟨i,h1,h2,h3⟩)
    .exact hb (.inl ⟨i,jc _ h1,h2,h3⟩)
    .rcases qt.1 h1 with rfl|h1
     .omega
     .exact hb (.inr ⟨i,h1,h2,h3⟩)
theorem SegI.advA(K:uT pl ops O)(ag:∀ i k,(yP ops k).testBit i=true->k∈pre->i∈pre){PO lO:List Nat}{e:Nat}{st:St}{G:Gh}{B:Nat->Nat}(h:SegI P pl ops O ro G0 mu0 w0 n Q Qp pre a w PO (e :: lO) st G B)(hk:zK pl ops e=2)(a3:e∈pre) :
  ∃ a8 G',SegI P pl ops O ro G0 mu0 w0 n Q Qp pre a w (PO++[e]) lO a8 G' B:=by
 have a1:e∈e :: lO:=q8 ..;have ah:=K.disj h.split a1;have ai:e<ops.size:=K.lt e (by rw[h.split];simp);have C:=h.al e a1 a3;obtain⟨o,ty,d,zv,ho,a4,hd,hz,hp,U⟩:=C.x;have a9:zW ops e=some d:=by simp[zW,ho,hd]
 have I:=h.awp;simp only[plan,hk,awpT,ho]at I;rw[qe8 (K.guards e o ho (by simp[Zn,a4]))]at I;obtain⟨b,aa,I,_⟩:=I;have I:=I (by cases aa;rfl);simp only[a4]at I;simp only[qD]at I;obtain⟨z,aj,h1,ab,ad⟩:=I;have:z=ofV zv:=by
  grind
 subst this;have a5:O=(PO++[e])++lO:=by rw[h.split];simp
 have a6:=Rel.reveal (st:=jn pl ops PO (e :: lO) pre st) h.rel h1 hp U C.base C.nl C.ni;refine⟨st.put o.dst (.ptr st.mu.length 0) (st.mu++[.arr (ofV zv).cells]),⟨G.imm,G.blk++[(B e,zv.cells.size)]⟩,a5,ad,fun i g l=>?_,fun i g l=>?_,fun i o' d' g r J a2=>?_,fun i g r=>?_,fun i j g hj=>h.inj i j (qY _ g) (qY _ hj),?_⟩
 .rcases qM.1 g with g|g
  .exact h.s i g l
  grind
 .exact jc _ (h.d i g l)
 .have g:i∈PO:=by
   grind
  have l:zK pl ops i=0:=by
   by_cases hh:zK pl ops i=0
   .exact hh
   .exact absurd (h.s i g hh) r
  refine(SegI.keepDG K h.split g J ho a2 (h.p i o' d' g r J a2)).re (WB J l) fun hm U=>?_
  refine WA ab (i:=i) ?_ J a2 U;rw[if_neg zOm];refine vt.2 ⟨g,?_⟩
  grind [yP,absurd,Wz]
 .have ae:i≠e:=fun hh=>by
   subst hh;exact K.disj a5 g zSp
  have R:=h.al i (qY _ g) r;refine⟨R.x,R.base,fun hl=>?_,R.ni⟩;obtain⟨j,c,t,hc,af,a7⟩:=hl;have a0:=h.rel.stp.sim.len;have a0:G.blk.length=st.mu.length:=a0;rcases z6 hc with ⟨q1,q2⟩|⟨q1,q2⟩
  .rcases z6 a7 with ⟨_,q3⟩|⟨q3,_⟩
   .exact R.nl ⟨j,c,t,q2,af,q3⟩
   .omega
  .rcases z6 a7 with ⟨q3,_⟩|⟨_,q3⟩
   .omega
   .exact h.inj i e (qY _ g) a1 r a3 ae (Prod.mk.inj q3).1
 .refine a6.weak rfl fun t=>?_
  by_cases U:behind pl ops (PO++[e]) lO pre t
  .exact .inl (Z0 U)
  .right
   rw[vA U,hd];by_cases T:t=d
   .subst T;simp[St.put];rfl
   .rw [jK (fun h'=>T (by cases h';rfl)),jK (fun h'=>T (by cases h';rfl)),vA]
    rintro (⟨i,h1,h2,h3⟩|⟨i,h1,h2,h3⟩)
    .exact U (.inl ⟨i,jc _ h1,h2,h3⟩)
    .rcases qt.1 h1 with rfl|h1
     .rw [a9]at h3;cases h3;exact T rfl
     .exact U (.inr ⟨i,h1,h2,h3⟩)
theorem SegI.advs(K:uT pl ops O)(g:∀ i k,(yP ops k).testBit i=true->k∈pre->i∈pre){B:Nat->Nat}:∀(es j l:List Nat) (st:St) (G:Gh),SegI P pl ops O ro G0 mu0 w0 n Q Qp pre a w j (es++l) st G B->(∀ i,i∈es->zK pl ops i≠1/\(zK pl ops i=2->i∈pre)) ->
  ∃ p G',SegI P pl ops O ro G0 mu0 w0 n Q Qp pre a w (j++es) l p G' B
 | [],j,l,st,G,h,_=>⟨st,G,zUs h⟩
 |e :: es,j,l,st,G,h,r=>by
  obtain⟨c1,c2⟩:=r e (q8 ..);rcases pz pl ops e with o|o|o
  .obtain ⟨st1,t⟩:=SegI.advP K h o
   obtain⟨st2,I,J⟩:=SegI.advs K g es (j++[e]) l st1 G t fun i C=>r i (qY _ C)
   grind
  .exact absurd o c1
  .obtain ⟨st1,R,t⟩:=SegI.advA K g h o (c2 o)
   obtain⟨st2,I,J⟩:=SegI.advs K g es (j++[e]) l st1 R t fun i C=>r i (qY _ C)
   grind
end
end
section
variable {ops:Array xd}{P:j1}
theorem Stp.allocNone{G:Gh}{mu:Mu}{w:j3}(s:Sim G mu w.heap)(o:Obj):Stp G mu w G mu (w.alloc o):=by
 have g:=UX s o;refine⟨.refl G,⟨s.len,fun b j=>ZL (s.imm b j) g.size,?_,s.live,s.inj,s.tab.mono (fun _ h=>h) g.keep⟩,fun b j _=>Zg w o b j,g.size,fun b h => .inl h,fun b h => .inl h,rfl,rfl,rfl,qm _⟩;intro i c l p r t C;obtain⟨I,P,J⟩:=s.obj i c l p r t C;exact⟨I,by grind [Zg,yf],J.mono (.refl G) g⟩
theorem qfA{ro:Ro}{o:xd}{e:j2}(g:o.op = .alloc e){z:AV}(j:qC P e=some z){a:Act}{w:j3}{next:Act->j3->Prop}{Q:Exit->Act->j3->Prop}
  (h:∀ zv,z=ofV zv->next (a.put o.dst (.pointer (some ⟨w.heap.size,0,none⟩))) (w.alloc (.cells zv.cells e))):o.wpIn (WF ro) 0 P a w next Q:=by
 obtain⟨l,op,r,pos,after,guard⟩:=o;simp only at g h;subst g;refine⟨fun _ _=>trivial,?_⟩;rw[show (WF ro).round=ro.rd from rfl,Oper.semAt_eq _ _ _ (fun c e=>by cases e)];obtain⟨zv,i,p⟩:=Zh j w;refine k7 ?_;have t:(newVar e zv).run P w = .ok ⟨w.heap.size,0,none⟩ (w.alloc (.cells zv.cells e)):=rfl;simp_all[execOp,Instr.alloc,qT,qW,Oper.upon]
theorem qfB{pl:Pol}{ro:Ro}{G0:Gh}{a9:Mu}{w0:j3}{n:Nat}(s0:Sim G0 a9 w0.heap)(b7:(ops.toList.all fun o=>dOk n o.dst)=true)
  {Q:St->Prop} {Qp:AV->St->Prop} {QQ:Exit->Act->j3->Prop} (hQ:∀ st a w G,Q st->Rel ro G0 a9 w0 n G st a w->QQ .normal a w)
  (bj:∀ v st a w G u,Qp v st->Rel ro G0 a9 w0 n G st a w->VRel G w.heap v u->QQ (.panic [{ v:=u,recovered:=false }]) a w) {st:St} {a:Act} {w:j3} {G:Gh} (r:Rel ro G0 a9 w0 n G st a w)
  (h:SegA P pl ops Q Qp st) (aa:Bool) (t:Nat):wpOpsIn (WF ro) 0 P ops QQ (Region.schedule aa ops t) a w:=by
 obtain⟨O,bk,b8,h⟩:=h;have K:=qe7 bk;obtain⟨h1,h2⟩:=pf K.edges aa t;obtain⟨h3,h4⟩:=Topo.closed K.edges _ _ rfl h1;have h3:=fun k hk=>(h3 k hk).1
 generalize Region.schedule aa ops t=L at *
 have b9:∀ i,i<ops.size->i∈L:=by
  intro i l;refine uJ fun hn=>?_
  have bl:(i :: L).length<=(qu ops.size).length:=jT (vb.2 ⟨hn,h4⟩) (fun k hk=>by
   grind)
  simp at bl;omega
 have ax:∀(i:Nat) (o:xd) (e:j2),ops[i]?=some o->o.op = .alloc e->∃ z,qC P e=some z:=by
  have gen:∀(O pre:List Nat),wH P ops (plan pl ops pre O)->∀ i,i∈O->∀(o:xd) (e:j2),ops[i]?=some o->o.op = .alloc e->∃ z,qC P e=some z:=by
   intro O;induction O with
   |nil=>grind
   |cons j O ih =>
    intro pre hn i l o e ho a8;simp only[plan,wH]at hn;rcases qt.1 l with rfl|l
    .have hk:zK pl ops i=2:=by
      unfold zK;rw[ho];simp[YY,Zn,a8]
     have hn:=hn.1;rw[hk,ho]at hn;simp only[a8]at hn;obtain⟨z,hz,_⟩:=hn;exact⟨z,hz⟩
    grind
  exact fun i o e ho a8=>gen O [] b8 i (K.all i (yf.1 ho).1) o e ho a8
 have key:∀(post pre:List Nat) (a:Act) (w:j3) (G:Gh) (PO lO:List Nat) (ab:St) (B:Nat->Nat),L=pre++post->SegI P pl ops O ro G0 a9 w0 n Q Qp pre a w PO lO ab G B->wpOpsIn (WF ro) 0 P ops QQ post a w:=by
  intro post;induction post with
  |nil =>
   intro pre a w G PO lO ab B hL I;rw[zV]at hL;subst hL;have ay:∀ i,i<ops.size->i∈L:=b9;obtain⟨st2,G2,I2⟩:=SegI.advs K (fun i k hb hk=>h3 k hk |> fun _=>by
    have:=h1.bef K.edges hb;obtain⟨s,t,e⟩:=List.append_of_mem hk;have:=this s t e
    grind) lO PO [] ab G (by simpa using I) (fun i l=>by
    have bb:=K.lt i (by rw[I.split];simp[l]);refine⟨fun hk=>K.disj I.split l (I.d i (ay i bb) zOm),fun _=>ay i bb⟩)
   simp only[wpOpsIn];have hw:=I2.awp;simp only[plan,awpT]at hw;refine hQ st2 a w G2 hw (I2.rel.weak rfl fun t => .inr ?_);refine(vA ?_).symm;rintro (⟨i,q1,q2,q3⟩|⟨i,q1,_⟩)
   .exact q2 (ay i (K.lt i (by rw[I2.split];simp;simpa using q1)))
   grind
  |cons k post ih =>
   intro pre a w G PO lO ab B hL I;have hk:k<ops.size:=h3 k (by rw[hL];simp);have cb:(pre++k :: post).Nodup:=by rw[<-hL];exact h4
   have az:k ∉ pre:=fun hh=>by
    grind
   have ho:ops[k]?=some ops[k]:=zP1 hk;generalize bw:ops[k]=o at ho;have ai:dOk n o.dst=true:=qI.1 b7 o (by grind);have bef:∀ i,(yP ops k).testBit i=true->i∈pre:=fun i l=>h1.bef K.edges l pre post hL
   have bc:∀ i j,(yP ops j).testBit i=true->j∈pre->i∈pre:=fun i j hb hj=>by
    obtain⟨s,t,e⟩:=List.append_of_mem hj;have:=h1.bef K.edges hb s (t++k :: post) (by rw[hL,e];simp);rw[e];exact jc _ this
   have b0:L=(pre++[k])++post:=by rw[hL];simp
   have ad:zW ops k=o.dst:=by simp[zW,ho]
   have aj:∀(i:Nat) (d:Tmp),i<ops.size->i≠k->zW ops i=some d->∀ u,(a.put o.dst u).tmps.getD d xa=a.tmps.getD d xa:=fun i d l R hd u=>by
    cases bm:o.dst with
    |none=>rfl
    |some x =>
     have bn:x≠d:=fun e=>(K.du i k d l hk hd).1 R (by rw[ad,bm,e])
     simp only[Act.put,qH];rw[K8 bn]
   have ar:∀(es U:List Nat),lO=es++U->(∀ i,i∈es->zK pl ops i≠0->(yP ops k).testBit i=true)->∃ b1 G',SegI P pl ops O ro G0 a9 w0 n Q Qp pre a w (PO++es) U b1 G' B:=fun es U e hm=>by
    subst e;refine SegI.advs K bc es PO U ab G I fun i l=>⟨fun T=>?_,fun T=>bef i (hm i l zOm)⟩
    have:=I.d i (bef i (hm i l zOm)) zOm;exact K.disj I.split (jc _ l) this
   have au:∀(PO lO:List Nat) (G:Gh) (st:St),SegI P pl ops O ro G0 a9 w0 n Q Qp pre a w PO lO st G B->(∀ i d,i<ops.size->zW ops i=some d->jv ops k d=true->i∈PO)->∀ t,jv ops k t=true->(jn pl ops PO lO pre st).tm t=st.tm t:=by
    intro PO lO G st I av t ht;refine vA ?_;rintro (⟨i,q1,q2,q3⟩|⟨i,q1,q2,q3⟩)
    .exact q2 (bef i ((K.du i k t (K.lt i (by rw[I.split];simp[q1])) hk q3).2 ht))
    .exact K.disj I.split q1 (av i t (K.lt i (by rw[I.split];simp[q1])) q3 ht)
   rcases pz pl ops k with ae|ae|ae
   ·
    have:∃ PO lO st G,k∈PO/\SegI P pl ops O ro G0 a9 w0 n Q Qp pre a w PO lO st G B:=by
     by_cases a4:k∈PO
     .exact ⟨PO,lO,ab,G,a4,I⟩
     .have ak:k∈lO:=by
       have:=K.all k hk;rw[I.split]at this;exact(qM.1 this).resolve_left a4
      obtain⟨es,U,rfl⟩:=List.append_of_mem ak;have be:=(K.ord (PO++es) U k (by rw[I.split];simp)).2.2 zOm;obtain⟨b1,G',I'⟩:=ar (es++[k]) U zSp fun i l T=>by
       rcases qM.1 l with l|l
       .exact be i (List.mem_append_right _ l) T
       .rw [qL]at l;subst l;exact absurd ae T
      exact⟨_,_,b1,G',zSp,I'⟩
    clear I ar;obtain⟨PO,lO,st,G,a4,I⟩:=this;cases hd:o.dst with
    |none=>have:=K.dn k hk (by rw[ad,hd]);omega
    |some d =>
    have av:∀ i d,i<ops.size->zW ops i=some d->jv ops k d=true->i∈PO:=fun i d l bo hr=>by
     obtain⟨s,t,hs⟩:=List.append_of_mem a4;have:=(K.ord s (t++lO) k (by rw[I.split,hs];simp)).2.1 i d l bo hr;rw[hs];exact jc _ this
    obtain⟨b,hb,hT,hF⟩:=I.p k o d a4 az ho hd;have b2:yz ops (jn pl ops PO lO pre st) o=some b:=by
     rw[VA fun t ht=>au PO lO G st I av t (by simp only[jv,ho];exact ht)];exact hb
    have a6:=Vq I.rel b2;have an:∀(G':Gh) (w':j3) (u:uk),Stp G (jn pl ops PO lO pre st).mu w G' (jn pl ops PO lO pre st).mu w'->VRel G' w'.heap (st.tm d) u->wpOpsIn (WF ro) 0 P ops QQ post (a.put o.dst u) w':=by
     intro G' w' u a0 hv;refine ih (pre++[k]) _ _ G' PO lO st B b0 ?_;have ao:=I.rel.put s0 a0 hv ai;refine⟨I.split,I.awp,fun i l T=>jc _ (I.s i l T),fun i l T=>?_,fun i o' d' l J=>I.p i o' d' l (fun hh=>J (jc _ hh)),fun i l J=>?_,fun i j l hj J ah=>?_,?_⟩
     .rcases qM.1 l with l|l
      .exact I.d i l T
      .rw [qL]at l;subst l;exact a4
     .have R:i≠k:=fun e=>K.disj I.split l (e ▸ a4)
      have a3:i∈pre:=by
       rcases qM.1 J with h|h
       .exact h
       .rw [qL]at h;exact absurd h R
      exact(I.al i l a3).step a0 fun d' a2=>aj i d' (K.lt i (by rw[I.split];simp[l])) R a2 u
     .have R:∀ i,i∈lO->i∈pre++[k]->i∈pre:=fun i l J=>by
       rcases qM.1 J with h|h
       .exact h
       .rw [qL]at h
        subst h;exact absurd a4 (K.disj I.split l)
      exact I.inj i j l hj (R i l J) (R j hj ah)
     .refine ao.weak rfl fun t=>?_
      by_cases hb:behind pl ops PO lO (pre++[k]) t
      .exact .inl (Z0 hb)
      .right
       rw[vA hb];by_cases a5:o.dst=some t
       .rw [hd]at a5;cases a5
        simp[St.put,hd]
       .rw [jK a5,vA]
        rintro (⟨i,q1,q2,q3⟩|q)
        .refine hb (.inl ⟨i,q1,fun hh=>?_,q3⟩)
         rcases qM.1 hh with hh|hh
         .exact q2 hh
         .rw [qL]at hh;subst hh;exact a5 (by rw[<-ad];exact q3)
        .exact hb (.inr q)
    simp only[wpOpsIn,ho,a6];cases b with
    |false =>
     rw[if_neg zSp];exact⟨fun _ _=>trivial,an G w xa (Stp.refl I.rel.stp.sim) (by rw[hF rfl];exact .sc _ rfl)⟩
    |true =>
    have bq:=hT rfl;rw[if_pos rfl];have bg:DS P pl o (jn pl ops PO lO pre st).ev (jn pl ops PO lO pre st).mu (st.tm d) (jn pl ops PO lO pre st).mu:=bq.congr fun x hx=>by
     cases x with
     |tmp t =>
      show st.tm t=(jn pl ops PO lO pre st).tm t;exact(au PO lO G st I av t (VB ho hx)).symm
     |const v=>rfl
     |global g=>rfl
     |func f=>rfl
    refine Vo I.rel.stp.sim I.rel.ev bg ?_ ?_
    .rintro v' cc G' w' u ⟨rfl,rfl⟩ a0 hv
     exact an G' w' u a0 hv
    .intro _ _ _ _ _ hh;exact hh.elim
   ·
    have a4:k ∉ PO:=fun hh=>az (I.s k hh zOm)
    have ak:k∈lO:=by
     have:=K.all k hk;rw[I.split]at this;exact(qM.1 this).resolve_left a4
    obtain⟨es,U,rfl⟩:=List.append_of_mem ak;have af:=K.ord (PO++es) U k (by rw[I.split];simp);obtain⟨st,G,I⟩:=ar es (k :: U) rfl fun i l T=>af.2.2 zOm i (List.mem_append_right _ l) T
    clear ar;generalize cd:PO++es=a1 at *
    have hw:=I.awp;simp only[plan,ae,awpT,ho]at hw;obtain⟨b,hb,hw,br⟩:=hw;have b2:yz ops (jn pl ops a1 (k :: U) pre st) o=some b:=by
     rw[VA fun t ht=>au a1 (k :: U) G st I af.2.1 t (by simp only[jv,ho];exact ht)];exact hb
    have a6:=Vq I.rel b2;have an:∀(v:AV) (m:Mu) (G':Gh) (w':j3) (u:uk),awpT P pl ops Q Qp (plan pl ops (a1++[k]) U) (st.put o.dst v m)->(∀ i o' d',i∈a1->i ∉ pre->zK pl ops i=0->ops[i]?=some o'->o'.dst=some d'->DG P pl ops o' (st.put o.dst v m) d' m) ->
      Stp G st.mu w G' m w'->VRel G' w'.heap v u->wpOpsIn (WF ro) 0 P ops QQ post (a.put o.dst u) w':=by
     intro v m G' w' u b3 bs a0 hv;refine ih (pre++[k]) _ _ G' (a1++[k]) U (st.put o.dst v m) B b0 ?_;have ao:=I.rel.put s0 a0 hv ai;have b4:O=(a1++[k])++U:=by rw[I.split];simp
     refine⟨b4,b3,fun i l T=>?_,fun i l T=>?_,fun i o' d' l J a7 a2=>?_,fun i l J=>?_,fun i j l hj J ah=>?_,?_⟩
     .rcases qM.1 l with l|l
      .exact jc _ (I.s i l T)
      .exact List.mem_append_right _ l
     .rcases qM.1 l with l|l
      .exact jc _ (I.d i l T)
      .exact List.mem_append_right _ l
     .have a3:i ∉ pre:=fun hh=>J (jc _ hh)
      have bh:i∈a1:=by
       rcases qM.1 l with l|l
       .exact l
       .exact absurd (List.mem_append_right _ l) J
      have T:zK pl ops i=0:=by
       by_cases hh:zK pl ops i=0
       .exact hh
       .exact absurd (I.s i bh hh) a3
      exact bs i o' d' bh a3 T a7 a2
     .have R:i≠k:=fun e=>by
       subst e;exact K.disj b4 l zSp
      have a3:i∈pre:=by
       rcases qM.1 J with h|h
       .exact h
       .rw [qL]at h;exact absurd h R
      exact(I.al i (qY _ l) a3).step a0 fun d' a2=>aj i d' (K.lt i (by rw[I.split];simp[l])) R a2 u
     .have R:∀ i,i∈U->i∈pre++[k]->i∈pre:=fun i l J=>by
       rcases qM.1 J with h|h
       .exact h
       .rw [qL]at h
        subst h;exact absurd (show i∈a1++[i] by simp) (K.disj b4 l)
      exact I.inj i j (qY _ l) (qY _ hj) (R i l J) (R j hj ah)
     .refine ao.weak rfl fun t=>?_
      by_cases hb:behind pl ops (a1++[k]) U (pre++[k]) t
      .exact .inl (Z0 hb)
      .right
       rw[vA hb];by_cases a5:o.dst=some t
       .simp [St.put,a5]
       .rw [jK a5,jK a5,vA]
        rintro (⟨i,q1,q2,q3⟩|⟨i,q1,q2,q3⟩)
        .refine hb (.inl ⟨i,jc _ q1,fun hh=>?_,q3⟩)
         rcases qM.1 hh with hh|hh
         .exact q2 hh
         .rw [qL]at hh;subst hh;exact a5 (by rw[<-ad];exact q3)
        .rcases qt.1 q1 with rfl|q1
         .omega
         .exact hb (.inr ⟨i,q1,q2,q3⟩)
    simp only[wpOpsIn,ho,a6];cases b with
    |false =>
     rw[if_neg zSp];exact⟨fun _ _=>trivial,an (.sc xa) st.mu G w xa (br rfl) (fun i o' d' l J T a7 a2=>SegI.keepDG K I.split l a7 ho a2 (I.p i o' d' l J a7 a2)) (Stp.refl I.rel.stp.sim) (.sc _ rfl)⟩
    |true =>
    rw[if_pos rfl];have hw:qD P pl false o.dst o.op st.ev st.mu (fun v m=>uq P pl ops (if 1=0 then [] else pend pl ops a1 k) (st.put o.dst v m)/\awpT P pl ops Q Qp (plan pl ops (a1++[k]) U) (st.put o.dst v m)) (fun v m=>True/\∀ tm,Qp v ⟨tm,m⟩):=hw rfl;have bt:=hw.congr (ev':=(jn pl ops a1 (k :: U) pre st).ev) (fun x hx=>by
     cases x with
     |tmp t=>exact(au a1 (k :: U) G st I af.2.1 t (VB ho hx)).symm
     |const v=>rfl
     |global g=>rfl
     |func f=>rfl)
    have ca:k∈k :: U:=q8 ..;refine Vo (mu:=(jn pl ops a1 (k :: U) pre st).mu) I.rel.stp.sim I.rel.ev bt ?_ ?_
    .rintro v m G' w' u ⟨bi,b3⟩ a0 hv
     rw[if_neg zDe]at bi;refine an v m G' w' u b3 (fun i o' d' l J T a7 a2=>?_) a0 hv;refine(SegI.keepDG K I.split l a7 ho a2 (I.p i o' d' l J a7 a2)).re (WB a7 T) fun hm hb=>?_
     refine WA bi (i:=i) (vt.2 ⟨l,?_⟩) a7 a2 hb;have b5:(yP ops k).testBit i=false:=by
      cases hq:(yP ops k).testBit i with
      |false=>rfl
      |true=>exact absurd (bef i hq) J
     simp[T,Wz,a7,hm,b5]
    .rintro v m G' w' u ⟨_,hp⟩ a0 hv
     refine bj v ⟨(jn pl ops a1 (k :: U) pre st).tm,m⟩ a w' G' u (hp _) ?_ hv;exact I.rel.put (d:=none) s0 a0 (.any xa) rfl
   ·
    have a4:k ∉ PO:=fun hh=>az (I.s k hh zOm)
    have ak:k∈lO:=by
     have:=K.all k hk;rw[I.split]at this;exact(qM.1 this).resolve_left a4
    obtain⟨ty,a8⟩:=qe9 ho ae;obtain⟨z,hz⟩:=ax k o ty ho a8;cases hd:o.dst with
    |none=>have:=K.dn k hk (by rw[ad,hd]);omega
    |some d =>
    have a6:Region.wanted o (yielded ops a.tmps)=true:=by unfold Region.wanted;rw[K.guards k o ho (by simp[Zn,a8])]
    simp only[wpOpsIn,ho,a6,if_true];refine qfA a8 hz fun zv bu=>?_
    subst bu;have a0:=Stp.allocNone I.rel.stp.sim (.cells zv.cells ty);have ao:=I.rel.put (v := .any) (u := .pointer (some ⟨w.heap.size,0,none⟩)) (d:=o.dst) s0 a0 (.any _) ai;refine ih (pre++[k]) _ _ G PO lO ab (fun i=>if i=k then w.heap.size else B i) b0 ?_;refine⟨I.split,I.awp,fun i l T=>jc _ (I.s i l T),fun i l T=>?_,fun i o' d' l J=>I.p i o' d' l (fun hh=>J (jc _ hh)),fun i l J=>?_,fun i j l hj J ah b6=>?_,?_⟩
    .rcases qM.1 l with l|l
     .exact I.d i l T
     .rw [qL]at l;subst l;exact absurd ae T
    .by_cases R:i=k
     .subst R
      rw[if_pos rfl];refine⟨⟨o,ty,d,zv,ho,a8,hd,hz,?_,J2 w _⟩,I.rel.stp.size,fun hl=>?_,fun l=>?_⟩
      .rw [hd]
       have bv:d<n:=by rw[hd]at ai;simpa[dOk] using ai
       have:d<a.tmps.size:=by rw[I.rel.size];exact bv
       simp[Act.put,qH,this]
      .have:=I.rel.stp.sim.livesize hl;omega
      .have:=I.rel.stp.sim.imm _ l;omega
     .rw [if_neg R]
      have a3:i∈pre:=by
       rcases qM.1 J with h|h
       .exact h
       .rw [qL]at h;exact absurd h R
      exact(I.al i l a3).step a0 fun d' a2=>aj i d' (K.lt i (by rw[I.split];simp[l])) R a2 _
    .have ag:∀ i,i∈pre++[k]->i≠k->i∈pre:=fun i J R=>by
      rcases qM.1 J with h|h
      .exact h
      .rw [qL]at h;exact absurd h R
     by_cases R:i=k
     .rw [if_pos R,if_neg (fun e=>b6 (R.trans e.symm))]
      have aq:j≠k:=fun e=>b6 (R.trans e.symm)
      have:=(I.al j hj (ag j ah aq)).lt;omega
     .rw [if_neg R]
      by_cases aq:j=k
      .rw [if_pos aq]
       have:=(I.al i l (ag i J R)).lt;omega
      .rw [if_neg aq]
       exact I.inj i j l hj (ag i J R) (ag j ah aq) b6
    .refine ao.weak rfl fun t=>?_
     by_cases hb:behind pl ops PO lO (pre++[k]) t
     .exact .inl (Z0 hb)
     .right
      rw[vA hb];have a5:o.dst≠some t:=fun e=>hb (.inr ⟨k,ak,ae,by rw[ad];exact e⟩)
      rw[jK a5,vA];rintro (⟨i,q1,q2,q3⟩|q)
      .refine hb (.inl ⟨i,q1,fun hh=>?_,q3⟩)
       rcases qM.1 hh with hh|hh
       .exact q2 hh
       .rw [qL]at hh;subst hh;exact a5 (by rw[<-ad];exact q3)
      .exact hb (.inr q)
 refine key L [] a w G [] O st (fun _=>0) zSp ⟨rfl,h,fun i l=>absurd l qE,fun i l=>absurd l qE,fun i o d l=>absurd l qE,fun i _ l=>absurd l qE,fun i j _ _ l=>absurd l qE,?_⟩;refine r.weak rfl fun t=>?_
 grind [behind,Z0,vA]
def WC(P:j1)(pl:Pol)(ops:Array xd)(Q:St->Prop)(g:AV->St->Prop)(st:St):Prop:=px P pl ops Q g st\/SegA P pl ops Q g st
theorem qfC{pl:Pol}{ro:Ro}{C:Gh}{i:Mu}{I:j3}{n:Nat}(J:Sim C i I.heap)(j:(ops.toList.all fun o=>dOk n o.dst)=true)
  {Q:St->Prop} {R:AV->St->Prop} {QQ:Exit->Act->j3->Prop} (T:∀ st a w G,Q st->Rel ro C i I n G st a w->QQ .normal a w)
  (p:∀ v st a w G u,R v st->Rel ro C i I n G st a w->VRel G w.heap v u->QQ (.panic [{ v:=u,recovered:=false }]) a w) {st:St} {a:Act} {w:j3} {G:Gh} (r:Rel ro C i I n G st a w)
  (h:WC P pl ops Q R st) (g:Bool) (t:Nat):wpOpsIn (WF ro) 0 P ops QQ (Region.schedule g ops t) a w:=by
 rcases h with h|h
 .exact qe5 J j T p r h g t
 .exact qfB J j T p r h g t
end
end Go.Ev
namespace Go.Ev
open Go Go.RowKit
section
variable {c:Code}
inductive qX where
 |normal
 |exit (id:Nat)
 |ret
 |pan (v:AV)
def seqQ(n:St->Prop)(Q:qX->St->Prop):qX->St->Prop
 | .normal,U=>n U
 |e,U=>Q e U
def vB(id:Nat)(Q:qX->St->Prop):qX->St->Prop
 | .exit i,U=>if i=id then Q .normal U else Q (.exit i) U
 |e,U=>Q e U
def wI(I:Nat->St->Prop)(n:Nat)(Q:qX->St->Prop):qX->St->Prop
 | .normal,U=>∃ m,m<n/\I m U
 |e,U=>Q e U
def Frz(st g:St):Prop:=∃ give,g.mu=cutM (fun i=>!give i) st.mu 0/\∀ i,Gv st.mu give (st.tm i) (g.tm i)
inductive Fz:St->St->Prop where
 |refl (st:St):Fz st st
 |step {a b c:St} (f:Frz a b) (k:Fz b c):Fz a c
def FzQ(Q:qX->St->Prop)(e:qX)(st:St):Prop:=∃ g,Frz st g/\(match e with | .pan _=>g=st|_=>True)/\Q e g
def fzQ:Bool->(qX->St->Prop)->qX->St->Prop
 |true,Q=>FzQ Q
 |false,Q=>Q
def Stb(I:Mu->Prop):Prop:=∀ C,I C->I (C++[.dead])
def Yld(P:j1)(i:Nat)(rows:List (List AV))(I:Nat->Mu->Prop)(g:Mu->Prop):Prop:=
 ∀ k x C,rows[k]?=some x->I k C->Vk P i x C fun b r=>(b=true/\I (k+1) r)\/(b=false/\g r)
def jw(P:j1)(f:wh)(caps:List AV)(rows:List (List AV)):Prop:=je P f /\
 ∀(i:Nat) (I:Nat->Mu->Prop) (j:Mu->Prop),(∀ k,Stb (I k))->Stb j->Yld P i rows I j->∀ C,I 0 C ->
  qe P f (.yl i :: caps) C fun e g=>∃ r,e = .ret r/\(I rows.length g\/j g)
def IterX(P:j1)(f:wh)(caps:List AV)(rows:List (List AV)):Prop:=je P f /\
 ∀(i:Nat) (I:Nat->Mu->Prop) (j:Mu->Prop),Yld P i rows I j->∀ C,I 0 C ->
  qe P f (.yl i :: caps) C fun e g=>∃ r,e = .ret r/\(I rows.length g\/j g)
def pA(P:j1)(f:wh)(caps:List AV)(rows:List (List AV))(I:Nat->Mu->Prop)(g:qX->Mu->Prop):Prop:=(jw P f caps rows/\(∀ k,Stb (I k))/\∀ e,Stb (g e))\/IterX P f caps rows
def ur(g:Nat->AV):List Tmp->List AV->(Nat->AV)
 |t :: R,x :: p=>ur (fun i=>if i=t then x else g i) R p
 |_,_=>g
def asQ(n:St->Prop):qX->St->Prop
 | .normal,U=>n U
 |_,_=>False
def rndQ(I:Nat->Mu->Prop)(g:qX->Mu->Prop)(k:Nat):qX->St->Prop
 | .normal,U=>I (k+1) U.mu
 | .pan _,_=>False
 |e,U=>g e U.mu
def awp(P:j1)(pl:Pol):Code->(qX->St->Prop)->St->Prop
 | .skip,Q,U=>Q .normal U
 | .label _,Q,U=>Q .normal U
 | .region _ p l,Q,U=>(l=false/\awpS P pl false p p.toList (Q .normal) (fun v U=>Q (.pan v) U) U)\/(l=true/\∃ j,Fz U j/\WC P pl p (Q .normal) (fun v U=>Q (.pan v) U) j)
 | .seq a b,Q,U=>awp P pl a (seqQ (awp P pl b Q) Q) U
 | .cond c a b,Q,U=>∃ t,U.ev c = .sc (.bool t)/\Br t (awp P pl a Q U) (awp P pl b Q U)
 | .block id i,Q,U=>awp P pl i (vB id Q) U
 | .loop i,Q,U=>∃(z:Bool) (I:Nat->St->Prop) (n:Nat) (j:St),Fz U j/\I n j/\∀ n U,I n U->awp P pl i (wI I n (fzQ z Q)) U
 | .exit id,Q,U=>Q (.exit id) U
 | .ret,Q,U=>Q .ret U
 | .scope i,Q,U=>awp P pl i Q U
 | .rangeFunc g R r i,Q,U=>∃(z:Bool) (T:wh) (o:List AV) (rows:List (List AV)) (I:Nat->Mu->Prop) (J:qX->Mu->Prop),
   U.ev g = .fn (.func T) [] o/\pA P T o rows I J/\I 0 (U.mu++[.dead]) /\
   (∀ k x C,rows[k]?=some x->I k C->x.length=R.size/\awp P pl r (asQ (fun U=>awp P pl i (rndQ I J k) U)) ⟨ur U.tm R.toList x,C⟩) /\
   (∀ C,I rows.length C->fzQ z Q .normal ⟨U.tm,C⟩)/\(∀ e C,J e C->fzQ z Q e ⟨U.tm,C⟩)
 |_,_,_=>False
def noRF:Code->Bool
 | .seq a b=>noRF a&&noRF b
 | .cond _ a b=>noRF a&&noRF b
 | .block _ b=>noRF b
 | .loop b=>noRF b
 | .scope b=>noRF b
 | .rangeFunc .. => false
 |_=>true
def dOkC(n:Nat):Code->Bool
 | .region _ g _=>g.toList.all fun o=>dOk n o.dst
 | .seq a b=>dOkC n a&&dOkC n b
 | .cond _ a b=>dOkC n a&&dOkC n b
 | .block _ b=>dOkC n b
 | .loop b=>dOkC n b
 | .scope b=>dOkC n b
 | .rangeFunc _ j i b=>(j.toList.all fun t=>decide (t<n))&&dOkC n i&&dOkC n b&&noRF i&&noRF b
 |_=>true
def ERel(G:Gh)(w:j3):qX->Exit->Prop
 | .normal,.normal=>True
 | .exit i,.exit j=>i=j
 | .ret,.ret=>True
 | .pan x,.panic chain=>∃ v,chain=[{ v,recovered:=false }]/\VRel G w.heap x v
 |_,_=>False
def Fit(ro:Ro)(j:Gh)(g:Mu)(l:j3)(n:Nat)(Q:qX->St->Prop)(QQ:Exit->Act->j3->Prop):Prop:=
 ∀ i e U a w G,Q i U->Rel ro j g l n G U a w->ERel G w i e->QQ e a w
theorem Rel.frz{ro:Ro}{l:Gh}{g:Mu}{o:j3}{n:Nat}{G:Gh}{st j:St}{a:Act}{w:j3}(C:Sim l g o.heap)(r:Rel ro l g o n G st a w)(f:Frz st j):∃ G',Rel ro l g o n G' j a w:=by
 obtain⟨give,t,I⟩:=f;refine⟨Go.Ev.frz G give st.mu,fun i=>(I i).sound r.stp.sim (r.tm i),?_,r.size,?_,fun p hp=>(Qi r.stp.sim give).vrel r.stp.sim (r.kp p hp)⟩
 .intro h
  have:=(r.df h).step (Qi r.stp.sim give);rw[t];exact this
 rw[t];exact r.stp.trans C (Qi r.stp.sim give)
theorem Rel.fz{ro:Ro}{j:Gh}{g:Mu}{l:j3}{n:Nat}{G:Gh}{st i:St}{a:Act}{w:j3}(o:Sim j g l.heap)(r:Rel ro j g l n G st a w)(f:Fz st i):∃ G',Rel ro j g l n G' i a w:=by
 induction f generalizing G with
 |refl st=>exact⟨G,r⟩
 |step f k p =>
  obtain⟨C,t⟩:=r.frz o f;exact p t
theorem Fit.fz{ro:Ro}{t:Gh}{g:Mu}{C:j3}{n:Nat}{Q:qX->St->Prop}{QQ:Exit->Act->j3->Prop}(I:Sim t g C.heap)(h:Fit ro t g C n Q QQ)(z:Bool):Fit ro t g C n (fzQ z Q) QQ:=by
 cases z with
 |false=>exact h
 |true =>
  intro J e U a w G j r p;obtain⟨P,f,hp,j⟩:=j;cases J with
  |pan v =>
   simp only at hp;subst hp;exact h _ e _ a w G j r p
  |normal =>
   obtain⟨l,o⟩:=r.frz I f;exact h _ e _ a w l j o (by cases e<;>exact p)
  |ret =>
   obtain⟨l,o⟩:=r.frz I f;exact h _ e _ a w l j o (by cases e<;>exact p)
  |exit i =>
   obtain⟨l,o⟩:=r.frz I f;exact h _ e _ a w l j o (by cases e<;>exact p)
section
variable {F:Fence} {rm:Nat} {P:j1} {b:Frame} {a:Act} {k:List Item} {cs:List Frame} {w:j3} {Q:Exit->Act->j3->Prop}
theorem Z1:step P (lone (b.atR a (.code (.scope c) :: k)) cs w) = .next (lone (b.atR a (.code c :: .inScope c :: k)) cs w):=
 step_lone_go (by simp[stepG,stepG.exec,Frame.atR])
theorem qfD:step P (lone (b.atR a (.inScope c :: k)) cs w) = .next (lone (b.atR a k) cs w):=
 step_lone_go (by simp[stepG,stepG.exec,Frame.atR])
theorem qfE(h:c.wpIn F rm P (Exit.noGoto Q) a w):(Code.scope c).wpIn F rm P Q a w:=by
 intro b k cs t C I;have o:(lone (b.atR a (.code (.scope c) :: k)) cs w).fenced P F:=fenced_calm C I rfl;obtain⟨e,i,j,p,g⟩:=h b (.inScope c :: k) cs t C I;cases e with
 |normal=>exact⟨.normal,i,j,p,.head o Z1 (StepsIn.trans g (.one (fenced_calm C I rfl) qfD))⟩
 |exit id=>exact⟨.exit id,i,j,p,fun T J => .head o Z1 (g.1 T (by simp[exitTo,J])),
   fun R J=>let ⟨r,U,h2⟩:=g.2 R (by simp[exitTo,J]);⟨r,U,.head o Z1 h2⟩⟩
 |goto l=>exact p.elim
 |ret=>exact⟨_,i,j,p,.of_steps (.one o Z1) g⟩
 |panic ch=>exact⟨_,i,j,p,.of_steps (.one o Z1) g⟩
 |outgrown=>exact⟨_,i,j,p,.of_steps (.one o Z1) g⟩
end
end
section
variable {R:AEnd->Mu->Prop}{a:Act}{c:Code}{f:wh}{G:Gh}{args:List AV}{mu:Mu}{pl:Pol}{P:j1}{st:St}{w:j3}
def WD(P:j1)(pl:Pol)(n:Nat)(c:Code):Prop:=∀{ro:Ro} {i:Gh} {g:Mu} {j:j3} (_:Sim i g j.heap) (Q:qX->St->Prop) (l:Exit->Act->j3->Prop) (U:St) (a:Act) (w:j3) (G:Gh),
  Fit ro i g j n Q l->Rel ro i g j n G U a w->dOkC n c=true->((ro.rd=none/\ro.mks=true)\/noRF c=true)->awp P pl c Q U->c.wpIn (WF ro) 0 P l a w
def Ja:qX->Option Code
 | .ret=>some .ret
 | .exit id=>some (.exit id)
 |_=>none
def JJ(n:Nat)(ps:Array Tmp)(j body:Code)(p:Nat->AV)(o:Nat)(I:Nat->Mu->Prop)(k:Nat)(M:Mu):Prop:=
 ∃ fn tmps d,M[o]?=some (.lp { state := .ready,pending:=none,fn,tmps,params:=ps,assign:=j,body,defers:=d } p)/\tmps.size=n/\I k (M.set o .dead)
def JX(ps:Array Tmp)(j body:Code)(p:Nat->AV)(o:Nat)(r:qX->Mu->Prop)(M:Mu):Prop:=
 ∃ fn tmps d e c,M[o]?=some (.lp { state := .done,pending:=some c,fn,tmps,params:=ps,assign:=j,body,defers:=d } p)/\Ja e=some c/\r e (M.set o .dead)
theorem pB{h:Array Obj}:∀(ts:List Tmp) (xs:List AV) (j:List uk) (o:Nat->AV) (g:Array uk),xs.length=ts.length->j.length=ts.length ->
  (∀(k:Nat) x,xs[k]?=some x->VRel G h x (j.getD k xa))->(∀ i,VRel G h (o i) (g.getD i xa))->(∀ t,t∈ts->t<g.size) ->
  (∀ i,VRel G h (ur o ts xs i) (((ts.zip j).foldl (fun g (x:Tmp×uk)=>g.setIfInBounds x.1 x.2) g).getD i xa))/\((ts.zip j).foldl (fun g (x:Tmp×uk)=>g.setIfInBounds x.1 x.2) g).size=g.size
 | [],xs,j,o,g,_,_,_,p,_=>by
  refine⟨?_,rfl⟩;cases xs<;>exact p
 |t :: ts,x :: xs,v :: j,o,g,r,l,C,p,I=>by
  have hv:VRel G h x v:=by simpa using C 0 x rfl
  obtain⟨J,P⟩:=pB ts xs j (fun i=>if i=t then x else o i) (g.setIfInBounds t v) (zUs r) (zUs l) (fun k y R=>by simpa using C (k+1) y (zUs R)) (fun i=>by
   by_cases T:i=t
   .simp_all
   .rw [if_neg T]
    have:(g.setIfInBounds t v).getD i xa=g.getD i xa:=by
     simp only[qH]
     grind
    rw[this];exact p i) (fun s U=>by simpa using I s (zP1 U))
  exact⟨J,zUs P⟩
 |_ :: _,[],_,_,_,r,_,_,_,_=>by simp at r
 |_ :: _,_ :: _,[],_,_,_,l,_,_,_=>by simp at l
theorem pC{n:Nat}{ps:Array Tmp}{C body:Code}{rows:List (List AV)}{I:Nat->Mu->Prop}{Ix:qX->Mu->Prop}{tm:Nat->AV}{R:Nat}
  (h1:WD P pl n C) (h2:WD P pl n body) (al:dOkC n C=true) (an:dOkC n body=true) (ao:noRF C=true) (aq:noRF body=true) (ar:∀ t,t∈ps.toList->t<n)
  (a3:∀ k x mu,rows[k]?=some x->I k mu->x.length=ps.size/\awp P pl C (asQ (fun st=>awp P pl body (rndQ I Ix k) st)) ⟨ur tm ps.toList x,mu⟩) :
  Yld P R rows (JJ n ps C body tm R I) (JX ps C body tm R Ix):=by
 rintro k x M hx ⟨fn,tmps,d,hM,af,hI⟩ G w vs s ra l a0 hb;obtain⟨o,ho,au⟩:=s.obj R _ l a0 hM zSp hb;obtain⟨rfl,aa⟩:=au;obtain⟨a8,ag⟩:=a3 k x _ hx hI;have ah:vs.size=ps.size:=by rw[ra.1,a8]
 refine⟨_,_,_,_,run_yield ho ah,?_⟩;refine roundIn_of_wpIn (F:=Fence.wide) trivial ?_;simp only;have av:(ps.zip vs).foldl (fun tmps (x:Tmp×uk)=>tmps.setIfInBounds x.1 x.2) tmps=(ps.toList.zip vs.toList).foldl (fun tmps (x:Tmp×uk)=>tmps.setIfInBounds x.1 x.2) tmps:=by
  rw[<-Array.foldl_toList,Array.toList_zip]
 have b4:=pB (G:=G) (h:=w.heap) ps.toList x vs.toList tm tmps (zUs a8) (zUs ah) (fun k y hy=>by simpa[qH,zT] using ra.2 k y hy) aa (fun t ht=>by rw[af];exact ar t ht);refine h1 (ro:=Ro.round l) (s.hid R) _ _ ⟨ur tm ps.toList x,M.set R .dead⟩ _ w G ?_ ⟨?_,fun h=>absurd h (by simp[Ro.round]),?_,Stp.refl (s.hid R),fun p hp=>by simp[Ro.round]at hp⟩ al (.inr ao) ag
 rotate_left
 .grind
 .grind
 intro ae e st1 a1 w1 G1 hq r1 he;cases ae with
 |normal =>
  cases e<;>simp only[ERel]at he
  obtain⟨aw,ax,T1⟩:=r1.stp.unhid s hM zSp hb;have ai:w1.heap[l]?=some (.loop { state := .ready,pending:=none,fn,tmps,params:=ps,assign:=C,body,defers:=d }):=by rw[ax];exact ho
  refine⟨_,run_beginRound ai rfl,?_⟩;simp only;have aj:R<st1.mu.length:=(qk.1 aw).1;have ab:G1.blk[R]?=some (l,a0):=r1.stp.le.blk _ _ hb;have ak:l<w1.heap.size:=(yf.1 ai).1;have W1:=Stp.write (w:=w1) (w':=w1.putObj l (.loop { state := .busy,pending:=none,fn,tmps,params:=ps,assign:=C,body,defers:=d })) T1.sim R _
   (.lp { state := .busy,pending:=none,fn,tmps,params:=ps,assign:=C,body,defers:=d } tm) l a0 _ (qJ aj) zSp zSp ab zSp (World.putObj_heap_same ak)
   (fun b ad=>uO ad) rfl rfl rfl ⟨rfl,fun i=>((aa i).mono r1.stp.le (r1.stp.ext (s.hid R)))⟩
  simp only[List.set_set]at W1;have a9:∀ c:Cell,(st1.mu.set R c).set R .dead=st1.mu:=by
   intro c;rw[List.set_set];apply ui
   grind
  have s1:=W1.sim.hid R;rw[a9]at s1;refine h2 (ro:=Ro.round l) s1 _ _ st1 a1 _ G1 ?_ ⟨fun i=>(r1.tm i).mono (.refl G1) (W1.ext T1.sim),fun h=>absurd h (by simp[Ro.round]),r1.size,Stp.refl s1,fun p hp=>by simp[Ro.round]at hp⟩ an (.inr aq) hq;intro ay e2 st2 a2 w2 G2 a4 r2 a5;have az:Stp G1 ((st1.mu.set R (.lp { state := .busy,pending:=none,fn,tmps,params:=ps,assign:=C,body,defers:=d } tm)).set R .dead) (w1.putObj l (.loop { state := .busy,pending:=none,fn,tmps,params:=ps,assign:=C,body,defers:=d })) G2 st2.mu w2:=by
   rw[a9];exact r2.stp
  obtain⟨b0,b1,T2⟩:=az.unhid W1.sim (qJ aj) zSp ab;have a6:w2.heap[l]?=some (.loop { state := .busy,pending:=none,fn,tmps,params:=ps,assign:=C,body,defers:=d }):=by rw[b1];exact World.putObj_heap_same ak
  have a7:R<st2.mu.length:=(qk.1 b0).1;have b2:G2.blk[R]?=some (l,a0):=T2.le.blk _ _ ab;have b3:l<w2.heap.size:=(yf.1 a6).1;have T:Stp G M w G2 (st2.mu.set R (.lp { state := .busy,pending:=none,fn,tmps,params:=ps,assign:=C,body,defers:=d } tm)) w2:=(T1.trans s W1).trans s T2;have U:∀ c:Cell,(st2.mu.set R c).set R .dead=st2.mu:=by
   intro c;rw[List.set_set];apply ui
   grind
  have fin:∀(J:Option Code),Stp G M w G2 (st2.mu.set R (.lp { state:=if J.isNone then .ready else .done,pending:=J,fn,tmps,params:=ps,assign:=C,body,defers:=d } tm))
    (w2.putObj l (.loop { state:=if J.isNone then .ready else .done,pending:=J,fn,tmps,params:=ps,assign:=C,body,defers:=d })):=by
   intro J;have W2:=Stp.write (w:=w2) (w':=w2.putObj l (.loop { state:=if J.isNone then .ready else .done,pending:=J,fn,tmps,params:=ps,assign:=C,body,defers:=d })) T2.sim R _
    (.lp { state:=if J.isNone then .ready else .done,pending:=J,fn,tmps,params:=ps,assign:=C,body,defers:=d } tm) l a0 _ (qJ a7) zSp zSp b2 zSp (World.putObj_heap_same b3)
    (fun b ad=>uO ad) rfl rfl rfl ⟨rfl,fun i=>((aa i).mono T.le (T.ext s))⟩
   simp only[List.set_set]at W2;exact T.trans s W2
  cases ay with
  |normal =>
   cases e2<;>simp only[ERel]at a5
   refine⟨_,_,run_endRound none a6,true,G2,_,rfl,fin none,.inl ⟨rfl,fn,tmps,d,qJ a7,af,?_⟩⟩;rw[U];exact a4
  |ret =>
   cases e2<;>simp only[ERel]at a5
   refine⟨_,_,run_endRound (some .ret) a6,false,G2,_,rfl,fin (some .ret),.inr ⟨rfl,fn,tmps,d,.ret,.ret,qJ a7,rfl,?_⟩⟩;rw[U];exact a4
  |exit id =>
   cases e2<;>simp only[ERel]at a5
   subst a5;refine⟨_,_,run_endRound (some (.exit id)) a6,false,G2,_,rfl,fin (some (.exit id)),.inr ⟨rfl,fn,tmps,d,.exit id,.exit id,qJ a7,rfl,?_⟩⟩;rw[U];exact a4
  |pan v=>exact a4.elim
 |ret=>exact hq.elim
 |exit id=>exact hq.elim
 |pan v=>exact hq.elim
theorem WE{n:Nat}:∀(c:Code),WD P pl n c:=by
  intro c;induction c with
  |skip=>intro ro G0 T w0 s0 Q QQ U a w G hf r _ _ h;exact wpIn_skip (hf .normal .normal U a w G h r trivial)
  |label l=>intro ro G0 T w0 s0 Q QQ U a w G hf r _ _ h;exact wpIn_label (hf .normal .normal U a w G h r trivial)
  |exit id=>intro ro G0 T w0 s0 Q QQ U a w G hf r _ _ h;exact wpIn_exit (hf (.exit id) (.exit id) U a w G h r rfl)
  |ret=>intro ro G0 T w0 s0 Q QQ U a w G hf r _ _ h;exact wpIn_ret (hf .ret .ret U a w G h r trivial)
  |region id cw cu =>
    intro ro G0 T w0 s0 Q QQ U a w G hf r hd hn h;rcases h with ⟨rfl,h2⟩|⟨rfl,h2⟩
    · refine wpIn_region_list (Wq s0 (fun U a w G hq r=>hf .normal .normal U a w G hq r trivial) (fun v U a w G u hq r hv=>hf (.pan v) (.panic _) U a w G hq r ⟨u,rfl,hv⟩) _ U a w G r hd h2)
    · obtain⟨st1,ax,h2⟩:=h2
      obtain⟨G1,r1⟩:=r.fz s0 ax;refine wpIn_region_draw fun t=>?_
      exact qfC s0 hd (fun U a w G hq r=>hf .normal .normal U a w G hq r trivial) (fun v U a w G u hq r hv=>hf (.pan v) (.panic _) U a w G hq r ⟨u,rfl,hv⟩) (r1.drew s0) h2 _ t
  |seq x y ay az =>
    intro ro G0 T w0 s0 Q QQ U a w G hf r hd hn h;simp only[dOkC,qB]at hd;simp only[noRF,qB]at hn;refine wpIn_seq (ay s0 _ _ U a w G ?_ r hd.1 (hn.imp id And.left) h);intro ae e R a' w' G' hq r' he;cases ae<;>cases e<;>simp only[ERel]at he
    · exact az s0 Q QQ R a' w' G' hf r' hd.2 (hn.imp id And.right) hq
    · exact hf (.exit _) (.exit _) R a' w' G' hq r' he
    · exact hf .ret .ret R a' w' G' hq r' trivial
    · exact hf (.pan _) (.panic _) R a' w' G' hq r' he
  |cond b0 x y ay az =>
    intro ro G0 T w0 s0 Q QQ U a w G hf r hd hn h;simp only[dOkC,qB]at hd;simp only[noRF,qB]at hn;obtain⟨t,ht,h1,h2⟩:=h;have rc:=r.ev b0;rw[ht]at rc;have ec:a.eval b0 = .bool t:=by generalize a.eval b0=v at rc;cases rc;rfl
    refine wpIn_cond_split ec (fun e=>ay s0 Q QQ U a w G hf r hd.1 (hn.imp id And.left) (h1 e)) (fun e=>az s0 Q QQ U a w G hf r hd.2 (hn.imp id And.right) (h2 e))
  |block id J ih =>
    intro ro G0 T w0 s0 Q QQ U a w G hf r hd hn h;refine wpIn_block (ih s0 _ _ U a w G ?_ r hd hn h);intro ae e R a' w' G' hq r' he;cases ae<;>cases e<;>simp only[ERel]at he
    · exact hf .normal .normal R a' w' G' hq r' trivial
    · subst he
      simp only[vB]at hq;simp only[Exit.inBlock];split at hq
      · rename_i hid;rw[if_pos hid];exact hf .normal .normal R a' w' G' hq r' trivial
      · rename_i hid;rw[if_neg hid];exact hf (.exit _) (.exit _) R a' w' G' hq r' rfl
    · exact hf .ret .ret R a' w' G' hq r' trivial
    · exact hf (.pan _) (.panic _) R a' w' G' hq r' he
  |loop J ih =>
    intro ro G0 T w0 s0 Q QQ U a w G hf r hd hn h;obtain⟨z,I,n0,st1,ax,hI,a1⟩:=h;obtain⟨G1,r1⟩:=r.fz s0 ax;have hf:=hf.fz s0 z;refine wpIn_loop_ghost (fun k a w=>∃ U G,I k U/\Rel ro G0 T w0 n G U a w) n0 ⟨st1,G1,hI,r1⟩ ?_;intro k a' w' ⟨R,G',bu,r'⟩;refine ih s0 _ _ R a' w' G' ?_ r' hd hn (a1 k R bu);intro ae e st2 a2 w2 G2 hq r2 he;cases ae<;>cases e<;>simp only[ERel]at he
    · obtain⟨m,hm,bv⟩:=hq
      exact⟨m,hm,st2,G2,bv,r2⟩
    · exact hf (.exit _) (.exit _) st2 a2 w2 G2 hq r2 he
    · exact hf .ret .ret st2 a2 w2 G2 hq r2 trivial
    · exact hf (.pan _) (.panic _) st2 a2 w2 G2 hq r2 he
  |scope J ih =>
    intro ro G0 T w0 s0 Q QQ U a w G hf r hd hn h;refine qfE (ih s0 Q _ U a w G ?_ r hd hn h);intro ae e R a' w' G' hq r' he;cases ae<;>cases e<;>simp only[ERel]at he
    · exact hf .normal .normal R a' w' G' hq r' trivial
    · exact hf (.exit _) (.exit _) R a' w' G' hq r' he
    · exact hf .ret .ret R a' w' G' hq r' trivial
    · exact hf (.pan _) (.panic _) R a' w' G' hq r' he
  |rangeFunc g ps a6 J b8 b9 =>
    intro ro G0 T w0 s0 Q QQ U a w G hf r hd hn h;have b1:ro.rd=none/\ro.mks=true:=by
      rcases hn with hn|hn
      · exact hn
      · simp[noRF]at hn
    simp only[dOkC,qB,qI,decide_eq_true_eq]at hd;obtain⟨⟨⟨⟨bb,bc⟩,be⟩,bg⟩,bh⟩:=hd;obtain⟨z,gf,av,rows,I,Ix,hg,af,h0,a1,bi,ah⟩:=h;have hf:=hf.fz s0 z;refine wpIn_rangeFunc fun fn _=>?_
    have eg:=r.ev g;rw[hg]at eg;generalize hq:a.eval g=gv at eg;cases eg with
    |fn _ _ _ bw ag ca hm hv hw =>
    have e0:bw=#[]:=Array.eq_empty_of_size_eq_zero (zUs ca);subst e0;have bj:je P gf:=by rcases af with h|h;exact h.1.1;exact h.1
    generalize ai:(Loop.mk .ready none fn a.tmps ps a6 J w.heap.size)=C;have a3:∃ w1,w1=(w.alloc (.deferred (some []))).alloc (.loop C):=⟨_,rfl⟩;obtain⟨w1,a3⟩:=a3;have cv:w1.heap.size=w.heap.size+2:=by rw[a3];simp
    have aj:∀ b,b<w.heap.size->w1.heap[b]?=w.heap[b]?:=by
      intro b hb;rw[a3,Below.heap_alloc _ _ b zSo,Below.heap_alloc _ _ b hb]
    have cb:w1.heap[w.heap.size]?=some (.deferred (some [])):=by
      rw[a3,Below.heap_alloc _ _ _ zSp];exact World.alloc_heap_new w _
    have cc:w1.heap[w.heap.size+1]?=some (.loop C):=by
      rw[a3];have:=World.alloc_heap_new (w.alloc (.deferred (some []))) (.loop C);simpa using this
    have sG:=r.stp.sim;have a7:∀ b,Live G U.mu b->b<w.heap.size:=fun b hb=>sG.livesize hb
    have a4:∃ G1:Gh,G1=⟨G.imm,G.blk++[(w.heap.size+1,0)]⟩:=⟨_,rfl⟩;obtain⟨G1,a4⟩:=a4;have ak:G.le G1:=by
      rw[a4];exact⟨fun _ h=>h,fun i x hx=>by simp only;rw[qo (qk.1 hx).1];exact hx⟩
    have ab:Ext G w.heap w1.heap:=⟨zOm,fun b hb=>aj b (sG.imm b hb)⟩;have a8:G1.blk[U.mu.length]?=some (w.heap.size+1,0):=by rw[a4,<-sG.len];simp
    have a0:∀(j:Nat) (c:Cell) (bt:Nat×Nat),(U.mu++[Cell.lp C U.tm])[j]?=some c->G1.blk[j]?=some bt->(U.mu[j]?=some c/\G.blk[j]?=some bt)\/(j=U.mu.length/\c = .lp C U.tm/\bt=(w.heap.size+1,0)):=by
      intro j c bt hj a9;by_cases bk:j<U.mu.length
      · rw[qo bk]at hj
        rw[a4]at a9;simp only at a9;rw[qo (by rw[sG.len];exact bk)]at a9;exact .inl ⟨hj,a9⟩
      · have cd:=(qk.1 hj).1
        simp at cd;have:j=U.mu.length:=zOm;subst this;rw[a8]at a9;simp at hj a9;exact .inr ⟨rfl,hj.symm,a9.symm⟩
    have s1:Sim G1 (U.mu++[Cell.lp C U.tm]) w1.heap:=by
      refine⟨by rw[a4];simp[sG.len],fun b hb=>?_,?_,?_,?_,sG.tab.mono ak.imm ab.keep⟩
      · rw[a4]at hb;have:=sG.imm b hb;omega
      · intro j c b2 al g1 g2 g3
        rcases a0 j c _ g1 g3 with ⟨q1,q2⟩|⟨rfl,rfl,q⟩
        · obtain⟨o,k1,k2⟩:=sG.obj j c b2 al q1 g2 q2
          exact⟨o,by rw[aj _ (yf.1 k1).1];exact k1,k2.mono ak ab⟩
        · obtain⟨rfl,rfl⟩:=Prod.mk.inj q
          refine⟨_,cc,rfl,fun i=>?_⟩;rw[<-ai];exact(r.tm i).mono ak ab
      · intro j c b2 al g1 g2 g3
        rcases a0 j c _ g1 g3 with ⟨q1,q2⟩|⟨rfl,rfl,q⟩
        · have:=sG.live j c b2 al q1 g2 q2
          rw[a4];exact this
        · obtain⟨rfl,rfl⟩:=Prod.mk.inj q
          rw[a4];intro bl;have:=sG.imm _ bl;omega
      · intro i j ci cj b ti tj g1 g2 g3 g4 g5 g6
        rcases a0 i ci _ g1 g5 with ⟨q1,q2⟩|⟨rfl,rfl,q⟩<;>rcases a0 j cj _ g2 g6 with ⟨p1,p2⟩|⟨rfl,rfl,p⟩
        · exact sG.inj i j ci cj b ti tj q1 p1 g3 g4 q2 p2
        · obtain⟨rfl,rfl⟩:=Prod.mk.inj p
          have:=a7 _ ⟨i,ci,ti,q1,g3,q2⟩;omega
        · obtain⟨rfl,rfl⟩:=Prod.mk.inj q
          have:=a7 _ ⟨j,cj,tj,p1,g4,p2⟩;omega
        · rfl
    have ad:∀ b,Live G1 (U.mu++[Cell.lp C U.tm]) b->Live G U.mu b\/b=w.heap.size+1:=by
      rintro b ⟨j,c,al,g1,g2,g3⟩;rcases a0 j c _ g1 g3 with ⟨q1,q2⟩|⟨rfl,rfl,q⟩
      · exact .inl ⟨j,c,al,q1,g2,q2⟩
      · exact .inr (Prod.mk.inj q).1
    have t1:Stp G U.mu w G1 (U.mu++[Cell.lp C U.tm]) w1:=by
      refine⟨ak,s1,fun b hb _=>aj b hb,zOm,fun b hb=>?_,fun b hb=>?_,by rw[a3];rfl,by rw[a3];rfl,by rw[a3];rfl,by rw[a3];exact qm _⟩
      · rcases ad b hb with h|h
        · exact .inl h
        · exact .inr zOm
      · rw[a4]at hb;exact .inl hb
    have cf:Mk G1 (U.mu++[Cell.lp C U.tm]) w1.heap w.heap.size:=by
      refine⟨cb,fun hb=>?_,fun hb=>?_⟩
      · rcases ad _ hb with h|h
        · have:=a7 _ h;omega
        · omega
      · rw[a4]at hb;have:=sG.imm _ hb;omega
    have bm:JJ n ps a6 J U.tm U.mu.length I 0 (U.mu++[Cell.lp C U.tm]):=by
      refine⟨fn,a.tmps,w.heap.size,by rw[ai];simp,r.size,?_⟩;have:(U.mu++[Cell.lp C U.tm]).set U.mu.length .dead=U.mu++[.dead]:=zSp;rw[this];exact h0
    have bn:∀(X:Mu->Prop) (M:Mu) (c:Cell),Stb X->M[U.mu.length]?=some c->X (M.set U.mu.length .dead)->X ((M++[Cell.dead]).set U.mu.length Cell.dead):=by
      intro X M c hX hM hx;rw[List.set_append_left _ _ (qk.1 hM).1];exact hX _ hx
    have cg:qe P gf (.yl U.mu.length :: av) (U.mu++[Cell.lp C U.tm]) fun e bo=>∃ r,e = .ret r/\(JJ n ps a6 J U.tm U.mu.length I rows.length bo\/JX ps a6 J U.tm U.mu.length Ix bo):=by
      rcases af with ⟨af,hS,ch⟩|af
      rotate_left
      · exact af.2 U.mu.length _ _ (pC b8 b9 bc be bg bh bb a1) _ bm
      exact af.2 U.mu.length (JJ n ps a6 J U.tm U.mu.length I) (JX ps a6 J U.tm U.mu.length Ix)
       (fun k M ⟨f',t',d',q1,q2,q3⟩=>⟨f',t',d',by rw[qo (qk.1 q1).1];exact q1,q2,bn _ M _ (hS k) q1 q3⟩)
       (fun M ⟨f',t',d',e',c',q1,q2,q3⟩=>⟨f',t',d',e',c',by rw[qo (qk.1 q1).1];exact q1,q2,bn _ M _ (ch e') q1 q3⟩)
       (pC b8 b9 bc be bg bh bb a1) _ bm
    have b3:zM G1 w1.heap (.yl U.mu.length :: av) (#[Value.func (.yield (w.heap.size+1)) #[] #[]]++ag):=by
      refine⟨by simp[hm];omega,fun k x hx=>?_⟩;cases k with
      |zero =>
        simp at hx;subst hx;have e:(#[Value.func (.yield (w.heap.size+1)) #[] #[]]++ag).getD 0 xa=Value.func (.yield (w.heap.size+1)) #[] #[]:=by
          simp only[qH];rw[Array.getElem?_append_left zSp];simp
        rw[e];exact VRel.yl _ _ 0 a8
      |succ k =>
        have:=(hw k x (by simpa using hx)).mono ak ab;have e:(#[Value.func (.yield (w.heap.size+1)) #[] #[]]++ag).getD (k+1) xa=ag.getD k xa:=by
          simp only[qH];rw[Array.getElem?_append_right zSp];simp
        rw[e];exact this
    refine⟨w.heap.size+1,[mkOf w.heap.size],w1,⟨.fn (.func gf) ag,#[Value.func (.yield (w.heap.size+1)) #[] #[]]⟩,w1,gf,#[Value.func (.yield (w.heap.size+1)) #[] #[]]++ag,w1,?_,?_,fun _ _=>trivial,?_,fun h=>by simp[WF,Fence.wide]at h,?_⟩
    · rw[a3,<-ai,show (WF ro).round=none from b1.1];exact run_enterLoop_outer fn a.tmps ps a6 J
    · simp only[resolve,zD,hq,Deferred.ofValue]
      simp[Act.eval]
    · simp only[invoke]
      exact bj _ w1
    · have aq:=cg.2 G1 w1 _ s1 b3
      have:=(callsIn_wide (n:=0)).2 (aq.mono (R':=rangePost (WF ro) 0 P (w.heap.size+1) QQ { a with defers:=mkOf w.heap.size :: a.defers }) ?_)
      · exact this
      rintro e w3 ⟨G3,a5,t3,bq⟩;have hR:(∃ v,e = .returned v)/\(JJ n ps a6 J U.tm U.mu.length I rows.length a5\/JX ps a6 J U.tm U.mu.length Ix a5):=by
        rcases bq with ⟨rv,v,⟨ck,he,hR⟩,rfl,cx⟩|⟨rv,v,⟨ck,he,_⟩,_⟩
        · exact⟨⟨v,rfl⟩,hR⟩
        · exact absurd he zSp
      clear bq;obtain⟨⟨v,rfl⟩,hR⟩:=hR;have tt:Stp G U.mu w G3 a5 w3:=t1.trans sG t3;have cl:Stp G0 T w0 G3 a5 w3:=r.stp.trans s0 tt;have b4:G3.blk[U.mu.length]?=some (w.heap.size+1,0):=t3.le.blk _ _ a8
      have fin:∀(rc:Loop) (e:qX) (ee:Exit),a5[U.mu.length]?=some (.lp rc U.tm)->fzQ z Q e ⟨U.tm,a5.set U.mu.length .dead⟩->(∀ G w,ERel G w e ee)->QQ ee { a with defers:=mkOf w.heap.size :: a.defers } (w3.putObj (w.heap.size+1) (.loop { rc with state := .exhausted })):=by
        intro rc e ee au cm cn;have cp:=t3.sim.hid_not au zSp b4;have br:=t3.sim.live _ _ _ _ au zSp b4;have td:Stp G0 T w0 G3 (a5.set U.mu.length .dead) w3:=cl.trans s0 (Stp.drop t3.sim U.mu.length);have b5:w0.heap.size<=w.heap.size:=r.stp.size;have tp:Stp G0 T w0 G3 (a5.set U.mu.length .dead) (w3.putObj (w.heap.size+1) (.loop { rc with state := .exhausted })):=by
          refine⟨td.le,td.sim.putOther cp br,fun b b6 hl=>?_,by simpa using td.size,td.live,td.inew,td.tape,td.os,td.output,td.drawn⟩;rw[uO zOm];exact td.keep b b6 hl
        have an:Ext G3 w3.heap (w3.putObj (w.heap.size+1) (.loop { rc with state := .exhausted })).heap:=
          ⟨zSp,fun b b6=>uO (fun (e:b=_)=>br (e ▸ b6))⟩
        have bs:∀ D,Mk G1 (U.mu++[Cell.lp C U.tm]) w1.heap D->D≠w.heap.size+1->Mk G3 (a5.set U.mu.length .dead) (w3.putObj (w.heap.size+1) (.loop { rc with state := .exhausted })).heap D:=by
          intro D m cq;have m3:=m.step t3;exact⟨by rw[uO cq];exact m3.obj,fun h=>m3.nlive h.hid,m3.nimm⟩
        refine hf e ee ⟨U.tm,a5.set U.mu.length .dead⟩ _ _ G3 cm ⟨fun i=>?_,fun _=>?_,r.size,tp,fun p hp=>(tt.vrel sG (r.kp p hp)).mono (.refl G3) an⟩ (cn _ _)
        · exact(tt.vrel sG (r.tm i)).mono (.refl G3) an
        · obtain⟨Ds,⟨cr,_⟩,cs,b7⟩:=r.df b1.1
          have aw:∀ D,D∈Ds->D<w.heap.size:=fun D hD=>(yf.1 (b7 D hD).2.obj).1
          refine⟨w.heap.size :: Ds,⟨zP1 cr,fun h=>by rw[b1.2]at h;cases h⟩,vb.2 ⟨fun h=>absurd (aw _ h) zOm,cs⟩,fun D hD=>?_⟩;rcases qt.1 hD with rfl|hD
          · exact⟨b5,bs _ cf zOm⟩
          · exact⟨(b7 D hD).1,bs _ ((b7 D hD).2.step t1) (zW1 (aw D hD))⟩
      have ao:∀(rc:Loop),a5[U.mu.length]?=some (.lp rc U.tm)->w3.heap[w.heap.size+1]?=some (.loop rc):=by
        intro rc au;obtain⟨o,ho,ct⟩:=t3.sim.obj _ _ _ _ au zSp b4;obtain⟨rfl,_⟩:=ct;exact ho
      rcases hR with ⟨f',t',d',q1,q2,q3⟩|⟨f',t',d',e',c',q1,q2,q3⟩
      · refine⟨_,_,run_endLoop (ao _ q1) zSp,?_⟩
        exact fin _ .normal .normal q1 (bi _ q3) (fun _ _=>trivial)
      · refine⟨_,_,run_endLoop (ao _ q1) zSp,?_⟩
        cases e' with
        |ret =>
          simp only[Ja,qp]at q2;subst q2;exact wpIn_ret (fin _ .ret .ret q1 (ah _ _ q3) (fun _ _=>trivial))
        |exit id =>
          simp only[Ja,qp]at q2;subst q2;exact wpIn_exit (fin _ (.exit id) (.exit id) q1 (ah _ _ q3) (fun _ _=>rfl))
        |normal=>simp[Ja]at q2
        |pan v=>simp[Ja]at q2
  |goto l=>intro ro G0 T w0 s0 Q QQ U a w G hf r hd hn h;exact h.elim
  |refuse cy=>intro ro G0 T w0 s0 Q QQ U a w G hf r hd hn h;exact h.elim
def resV(P:j1)(st:St):ResultVar->Option AV
 | .tmp t=>some (st.tm t)
 | .cell a t=>wu P st.mu t (st.tm a)
def resL(P:j1)(st:St):List ResultVar->Option (List AV)
 | []=>some []
 |r :: g=>match resV P st r,resL P st g with|some x,some p=>some (x :: p)|_,_=>none
def jL(P:j1)(st:St):List ResultVar->Option AV
 | [r]=>resV P st r
 |g=>(resL P st g).map .tup
def Jb(g:Array uk):ResultVar->Sem uk
 | .tmp t=>pure (g.getD t xa)
 | .cell a t=>do loadVar t (<-asAddr (g.getD a xa))
theorem pD{ro:Ro}{i:Gh}{g:Mu}{j:j3}{n:Nat}(r:Rel ro i g j n G st a w){x:ResultVar}{z:AV}(h:resV P st x=some z) :
  ∃ u,(Jb a.tmps x).run P w = .ok u w/\VRel G w.heap z u:=by
 cases x with
 |tmp t=>simp only[resV,qp]at h;subst h;exact⟨_,rfl,r.tm t⟩
 |cell l t =>
  obtain⟨b,u,o,p,C⟩:=kh (P:=P) r.stp.sim (r.tm l) h
  grind [Jb,asAddr,qT,zD,qW]
theorem qfF{ro:Ro}{o:Gh}{i:Mu}{p:j3}{n:Nat}(r:Rel ro o i p n G st a w):∀(l:List ResultVar) (zs:List AV),resL P st l=some zs ->
  ∃ g:List uk,(l.mapM (Jb a.tmps)).run P w = .ok g w/\g.length=zs.length/\g.length=l.length/\∀(k:Nat) z,zs[k]?=some z->∃ u,g[k]?=some u/\VRel G w.heap z u:=by
 intro l;induction l with
 |nil=>intro zs h;simp only[resL,qp]at h;simp_all
 |cons x l t =>
  intro zs h;simp only[resL]at h;split at h
  .rename_i z j C I
   simp only[qp]at h;subst h;obtain⟨u,g1,U⟩:=pD r C;obtain⟨g,J,R,T,k4⟩:=t j I;refine⟨u :: g,by simp[List.mapM_cons,g1,J],zP1 R,zP1 T,fun k z' hz=>?_⟩
   grind
  grind
theorem Jc{fn:Func}{ro:Ro}{C:Gh}{j:Mu}{I:j3}{n:Nat}(r:Rel ro C j I n G st a w){z:AV}(h:jL P st fn.results.toList=some z) :
  ∃ u,(results fn a.tmps).run P w = .ok u w/\VRel G w.heap z u:=by
 have i:∀ g:List uk,(fn.results.toList.mapM (Jb a.tmps)).run P w = .ok g w->(results fn a.tmps).run P w = .ok (if h:g.toArray.size=1 then g.toArray[0] else .tuple g.toArray) w:=by
  intro g l;have e:results fn a.tmps=(do let o <-fn.results.mapM (Jb a.tmps);pure (if h:o.size=1 then o[0] else .tuple o)):=rfl;rw[e];simp only[Array.mapM_eq_mapM_toList,qT,Sem.run_map,l,qW,zD]
 unfold jL at h;split at h
 .rename_i x hx
  obtain⟨u,h1,h2⟩:=pD r h;simp_all
 .rename_i rs J
  cases p:resL P st fn.results.toList with
  |none=>simp[p]at h
  |some zs =>
   simp only[p,zd,qp]at h;subst h;obtain⟨g,R,T,k3,U⟩:=qfF r _ _ p;have t:g.toArray.size≠1:=by
    grind [List.size_toArray,List.length_eq_one_iff]
   refine⟨_,i g R,?_⟩;rw[dif_neg t];refine .tup _ _ (zP1 T) (fun k z hz=>?_);obtain⟨u,hu,hv⟩:=U k z hz;have:g.toArray.getD k xa=u:=by simp[qH,hu]
   rw[this];exact hv
def st0(args:List AV)(mu:Mu):St:=⟨fun i=>(args[i]?).getD (.sc xa),mu⟩
def Zo(P:j1)(g:List ResultVar)(R:AEnd->Mu->Prop):qX->St->Prop
 | .normal,U | .ret,U=>OptK (jL P U g) fun r=>R (.ret r) U.mu
 | .pan v,U=>R (.pan v) U.mu
 | .exit _,_=>False
theorem Rel.left{ro:Ro}(o:ro.rd=none){C:Gh}{j:Mu}{I:j3}{n:Nat}{G:Gh}{st:St}{a:Act}{w:j3}(r:Rel ro C j I n G st a w):∃(g:List Nat),a.defers=g.map mkOf++ro.dl/\g.Nodup/\(∀ D,D∈g->w.heap[D]?=some (.deferred (some []))) /\
  Rel ro C j I n G st { a with defers:=ro.dl } (uS g w)/\∀ x v,VRel G w.heap x v->VRel G (uS g w).heap x v:=by
 obtain⟨g,⟨R,_⟩,J,P⟩:=r.df o;obtain⟨T,t⟩:=pj g w J P r.stp;exact⟨g,R,J,fun D U=>(P D U).2.obj,⟨fun i=>(r.tm i).mono (.refl G) t,fun _=>Dfs.nil _ _ _ _ _ _,r.size,T,fun p hp=>(r.kp p hp).mono (.refl G) t⟩,fun x v h=>h.mono (.refl G) t⟩
theorem Rel.start{ro:Ro}{fn:Func}{g:Array uk}(s:Sim G mu w.heap)(l:zM G w.heap args g)(C:args.length<=fn.ntmps)(o:ro.dl=[]:=by rfl)(r:ro.kp=[]:=by rfl) :
  Rel ro G mu w fn.ntmps G (st0 args mu) { tmps:=g++Array.replicate (fn.ntmps-g.size) xa,defers:=[] } w:=by
 have I:g.size<=fn.ntmps:=by rw[l.1];exact C
 refine⟨fun i=>?_,fun _=>⟨[],⟨zP1 o,fun _=>rfl⟩,List.nodup_nil,zSp⟩,zSo,Stp.refl s,fun p hp=>by rw[r]at hp;simp at hp⟩;simp only[st0];by_cases J:i<args.length
 .have hx:args[i]?=some args[i]:=by simp[J]
  have e:(g++Array.replicate (fn.ntmps-g.size) xa).getD i xa=g.getD i xa:=by
   simp only[qH]
   grind
  rw[hx,e];exact l.2 i _ hx
 .rw [List.getElem?_eq_none zOm]
  have e:(g++Array.replicate (fn.ntmps-g.size) xa).getD i xa=xa:=by
   simp only[qH];rw[Array.getElem?_append_right (by rw[l.1];omega),Array.getElem?_replicate];split<;>rfl
  rw[e];exact .sc _ rfl
theorem qe.of_awp{fn:Func}(g:je P f)(hf:P.funcs[f]?=some fn)(hb:fn.body=some c)
  (hn:args.length<=fn.ntmps) (hd:dOkC fn.ntmps c=true) (h:awp P pl c (Zo P fn.results.toList R) (st0 args mu)):qe P f args mu R:=by
 refine⟨g,fun G w vs s ra=>?_⟩;refine(callsIn_wide (n:=0)).1 (callsIn_of_wp_marks hf hb trivial ?_);refine WE (n:=fn.ntmps) c (ro:=Ro.fn) s _ _ (st0 args mu) _ w G ?_ ?_ hd (.inl ⟨rfl,rfl⟩) h
 .intro ae e U a l o j r T
  obtain⟨Ds,g1,g2,g3,i,p⟩:=r.left rfl;have key:∀(u:FrameMode) (R:Ending->j3->Prop),u ≠ .run->LeavesIn Fence.wide 0 P fn a.tmps R [] u (uS Ds l)->LeavesInM Fence.wide 0 P fn a.tmps R a.defers u l:=by
   intro u R hu hl;rw[g1];exact Wp hu Ds l g2 g3 hl
  cases ae<;>cases e<;>simp only[ERel]at T
  .obtain ⟨z,t,C⟩:=j
   obtain⟨u,I,J⟩:=Jc i t;exact key .returning _ zSp ⟨u,I,o,U.mu,i.stp,.inl ⟨z,u,C,rfl,J⟩⟩
  .exact j.elim
  .obtain ⟨z,t,C⟩:=j
   obtain⟨u,I,J⟩:=Jc i t;exact key .returning _ zSp ⟨u,I,o,U.mu,i.stp,.inl ⟨z,u,C,rfl,J⟩⟩
  .obtain ⟨v,rfl,hv⟩:=T
   exact key (.panicking _) _ zSp ⟨o,U.mu,i.stp,.inr ⟨_,v,j,rfl,p _ _ hv⟩⟩
 .exact Rel.start s ra hn
theorem Sim.empty{g:Nat->Prop}{h:Array Obj}(l:∀ b,g b->b<h.size)(o:Zf g h):Sim ⟨g,[]⟩ [] h:=
 ⟨rfl,l,fun i c b t h=>by simp at h,fun i c b t h=>by simp at h,fun i j ci p b t r h=>by simp at h,o⟩
theorem qd.of_sound{r:AV}(h:qe P f args [] fun e mu'=>∃ p,e = .ret p/\Rd mu' p r):qd P f args r:=by
 obtain⟨l,h⟩:=h;refine⟨l,fun o w T hi ra=>?_⟩;refine(h ⟨o,[]⟩ w T hi ra).mono fun e w' ⟨J,mu',U,hR⟩=>?_
 have g:∀ b,¬Live ⟨o,[]⟩ [] b:=fun b ⟨i,c,t,hc,_⟩=>by simp at hc
 rcases hR with ⟨p,v,⟨C,R,I⟩,rfl,hv⟩|⟨p,v,⟨C,R,_⟩,_⟩
 .cases R
  refine⟨fun b=>J.imm b\/Live J mu' b,v,rfl,fun b j => .inl (U.le.imm b j),fun b j=>?_,⟨⟨U.os,U.tape,U.output,U.size,fun k hk=>U.keep k hk (g k)⟩,U.drawn⟩,I.sound U.sim hv⟩;rcases j with j|j
  .refine ⟨U.sim.imm b j,?_⟩
   rcases U.inew b j with h|h|h
   .exact .inl h
   .exact absurd h (g b)
   .exact .inr h
  .refine ⟨U.sim.livesize j,?_⟩
   rcases U.live b j with h|h
   .exact absurd h (g b)
   .exact .inr h
 grind
theorem qSW{fn:Func}(g:je P f)(hf:P.funcs[f]?=some fn)(i:fn.body=some c)(pl:Pol)(h:awp P pl c (Zo P fn.results.toList R) (st0 args mu))(j:Nat.ble args.length fn.ntmps=true:=by kernel_rfl)(l:dOkC fn.ntmps c=true:=by kernel_rfl):qe P f args mu R:=qe.of_awp g hf i (Nat.le_of_ble_eq_true j) l h
theorem qSQ{fn:Func}{r:AV}(g:je P f)(hf:P.funcs[f]?=some fn)(j:fn.body=some c)(pl:Pol)(h:awp P pl c (Zo P fn.results.toList fun e mu'=>∃ i,e = .ret i/\Rd mu' i r) (st0 args []))(l:Nat.ble args.length fn.ntmps=true:=by kernel_rfl)(o:dOkC fn.ntmps c=true:=by kernel_rfl):qd P f args r:=qd.of_sound (qSW g hf j pl h l o)
end
end Go.Ev
