/-
  Own library, part 3: an abstract reading of values and a calculus over it; contracts of functions; plain lemmas.
-/
import Derived.Test.YtahmfpfdgiemoaaGreatDoorProg
import Derived.KernelRfl
import Derived.RecoverIn
import Derived.Sort.Grow
import Derived.Shelf.Strconv.Itoa0
import Derived.Shelf.Strconv.Itoa1
import Derived.Shelf.LaysM
import Derived.Shelf.Strconv.Itoa2
import Derived.Shelf.Strconv.Itoa3
import Derived.Shelf.Sort.Plain
import Derived.Shelf.Bits.Mul64
import Derived.Ground.Names2Prog
import Derived.Shelf.Slices.SearchI
import Derived.Shelf.Slices.In.SortNone
import Derived.Shelf.Slices.Empties
import Derived.Test.YtahmfpfdgiemoaaGreatDoorMb
set_option linter.unusedVariables false
set_option linter.unusedSimpArgs false
set_option maxRecDepth 100000
open Go renaming Code->vn,Oper->wg,Program->qf,TypeId->j1,undef->va,FuncId->us,Operand->uk,Value->j3,World->j2
open Go.Proofs.Tryz renaming prog->qb
open List renaming getElem?_eq_some_iff->qe,mem_map->qk,range->qo,getElem_mem->qt,mem_cons->qu,getElem?_eq_getElem->qv,mem_append->qC,not_mem_nil->qD,getElem?_append_left->qI,all_eq_true->qJ,mem_cons_of_mem->qK,mem_cons_self->qR,getElem?_append_right->qT,take_length->qX,mem_of_getElem?->qZ,append_assoc->zc,map_append->zd,getElem?_map->zm,getElem?_set_self->zo,replicate->zp,length_cons->zq,drop_eq_getElem_cons->zD,take_of_length_le->zK,append_nil->zL,getElem?_eq_none->yC,cons_append->yD,map_cons->yS,getElem?_drop->y7,nodup_cons->jw,ext_getElem?->jx,mem_iff_getElem->vB,getElem?_toArray->vG,length_take->vH,flatten_cons->un,getElem_of_mem->uY,take_append_drop->uZ,pairwise_cons->VS,mem_flatten->VT
open Option.some renaming injEq->qj
open Nat renaming le_refl->qn,zero_add->yc,le_of_ble_eq_true->yi,lt_succ_iff_lt_or_eq->Qf
open Bool renaming and_eq_true->qq,or_eq_true->vF
open Go.IntKind renaming i64->qs
open Array renaming getD_eq_getD_getElem?->qB,getElem?_eq_some_iff->zM,getElem?_eq_getElem->u4
open Option renaming map_some->qS,map_eq_some_iff->yQ
namespace Go.Ev
open Go Go.RowKit
section
variable {g:AV->St->Prop}{body:vn}{l:List wg}
theorem eqS{C:Sort _}{a b:C}(h:a=b):a=b:=h
abbrev aI(n:Int):AV := .sc (.int .i64 n)
abbrev aB(b:Bool):AV := .sc (.bool b)
def panQ(Q:qM->St->Prop):AV->St->Prop:=fun v st=>Q (.pan v) st
def retK(R:AEnd->Mu->Prop)(m:Mu):AV->Prop:=fun r=>R (.ret r) m
def qg(P:qf)(pl:Pol)(l:List wg)(Q:St->Prop)(i:AV->St->Prop)(st:St):Prop:=∃ g,Fz st g/\Jw P pl l.toArray Q i g
theorem qg.intro{P:qf}{pl:Pol}{Q:St->Prop}{st:St}(h:Qq pl l.toArray=true)(k:awpS P pl true l.toArray l Q g st):qg P pl l Q g st:=⟨st,.refl st,.inl (.inl ⟨h,k⟩)⟩
theorem qg.zI{P:qf}{pl:Pol}{Q:St->Prop}{st:St}{R:Prop}(k:R)(h:Qq pl l.toArray=true:=by kernel_rfl)(e:awpS P pl true l.toArray l Q g st=R:=by simp[go_sem];rfl):qg P pl l Q g st:=.intro h (e.mpr k)
theorem qg.move{P:qf}{pl:Pol}{Q:St->Prop}{st:St}(a d:Nat)(h:Jo pl l.toArray a (a+d)=true)(i:(Nat.blt 0 d&&Nat.blt (a+d) l.length)=true)(k:awpS P pl true l.toArray l Q g st)(j:awpS P pl true l.toArray (yT a d l) Q g st):qg P pl l Q g st:=by
 rw[qq]at i;exact⟨st,.refl st,.inl (.inr (.inr ⟨a,d,h,yi i.1,yi i.2,k,j⟩))⟩
theorem qg.tail{P:qf}{pl:Pol}{Q:St->Prop}{st:St}(n:Nat)(h:Ut pl l.toArray n=true)(k:awpS P pl true l.toArray (l.take n) (fun st=>awpS P pl false l.toArray (l.drop n) Q g st) g st):qg P pl l Q g st:=
 ⟨st,.refl st,.inl (.inr (.inl ⟨n,h,k⟩))⟩
@[go_sem ↓] theorem sameK_eq(st:St)(d:Tmp)(mu:Mu)(v:AV)(m:Mu):wN st d mu v m=(v=st.tm d/\m=mu):=eqS rfl
theorem qg.fz{P:qf}{pl:Pol}{Q:St->Prop}{st:St}(h:FzQ (fun _ st=>qg P pl l Q g st) (.exit 0) st):qg P pl l Q g st:=by
 obtain⟨i,f,_,st2,f2,j⟩:=h;exact⟨st2,.step f f2,j⟩
def panT(g:AV->St->Prop):AV->Mu->Prop:=fun v m=>∀ i,g v ⟨i,m⟩
theorem qg.seg{P:qf}{pl:Pol}{Q:St->Prop}{st:St}(O:List Nat)(T:List (Nat×Nat×List Nat))(h:ZQ pl l.toArray O=true)(hT:plan pl l.toArray [] O=T)(i:vQ P l.toArray T)(k:awpT P pl l.toArray Q g T st):qg P pl l Q g st:=by
 subst hT;exact⟨st,.refl st,.inr ⟨O,h,i,k⟩⟩
def newO(P:qf):Nat->Option wg->Prop
 | 2,some o=>(match o.op with | .alloc e=>OptK (qx P e) fun z=>z.cells.all AV.one=true|_=>False)
 |_,_=>True
@[go_sem ↓] theorem newOk_nil(P:qf)(ops:Array wg):vQ P ops []=True:=eqS rfl
@[go_sem ↓] theorem qlO(P:qf)(l:List wg)(j k:Nat)(r:List Nat)(T:List (Nat×Nat×List Nat)):vQ P l.toArray ((j,k,r) :: T)=(newO P k l[j]?/\vQ P l.toArray T):=by
 show ((match k,l.toArray[j]? with|2,some o=>(match o.op with | .alloc e=>OptK (qx P e) fun z=>z.cells.all AV.one=true|_=>False)|_,_=>True)/\vQ P l.toArray T)=_;rw[vG];congr 1
@[go_sem ↓] theorem newO_0(P:qf)(o:Option wg):newO P 0 o=True:=eqS rfl
@[go_sem ↓] theorem newO_1(P:qf)(o:Option wg):newO P 1 o=True:=eqS rfl
@[go_sem ↓] theorem newO_2(P:qf)(i:Option Tmp)(e:j1)(ty:j1)(pos:String)(after:Array Edge)(g:Option (Nat×Bool)):newO P 2 (some ⟨i,.alloc e,ty,pos,after,g⟩)=OptK (qx P e) (fun z=>z.cells.all AV.one=true):=eqS rfl
def segK(P:qf)(pl:Pol)(l:List wg)(Q:St->Prop)(i:AV->St->Prop)(r:List Nat)(T:List (Nat×Nat×List Nat))(g:Option Tmp)(st:St):AV->Mu->Prop:=fun v m=>jV P pl l.toArray r (st.put g v m)/\awpT P pl l.toArray Q i T (st.put g v m)
def segP(g:AV->St->Prop)(k:Nat):AV->Mu->Prop:=fun v m=>k=1/\∀ i,g v ⟨i,m⟩
def segO(P:qf)(pl:Pol)(l:List wg)(Q:St->Prop)(g:AV->St->Prop)(k:Nat)(r:List Nat)(T:List (Nat×Nat×List Nat))(st:St):Option wg->Prop
 |none=>False
 |some o=>OptK (zE l.toArray st o) fun b=>Br b (qw P pl (k != 1) o.dst o.op st.ev st.mu (segK P pl l Q g r T o.dst st) (segP g k)) (awpT P pl l.toArray Q g T (st.put o.dst (.sc va) st.mu))
@[go_sem ↓] theorem awpT_nil(P:qf)(pl:Pol)(ops:Array wg)(Q:St->Prop)(g:AV->St->Prop)(st:St):awpT P pl ops Q g [] st=Q st:=eqS rfl
@[go_sem ↓] theorem awpT_cons(P:qf)(pl:Pol)(l:List wg)(Q:St->Prop)(g:AV->St->Prop)(j k:Nat)(r:List Nat)(T:List (Nat×Nat×List Nat))(st:St):awpT P pl l.toArray Q g ((j,k,r) :: T) st=segO P pl l Q g k r T st l[j]?:=by
 show (match l.toArray[j]? with|none=>False|some o=>OptK (zE l.toArray st o) fun b=>Br b (qw P pl (k != 1) o.dst o.op st.ev st.mu (fun v m=>jV P pl l.toArray r (st.put o.dst v m)/\awpT P pl l.toArray Q g T (st.put o.dst v m)) (fun v m=>k=1/\∀ i,g v ⟨i,m⟩)) (awpT P pl l.toArray Q g T (st.put o.dst (.sc va) st.mu)))=_;rw[vG];cases l[j]?<;>rfl
@[go_sem ↓] theorem segO_0(P:qf)(pl:Pol)(l:List wg)(Q:St->Prop)(i:AV->St->Prop)(r:List Nat)(T:List (Nat×Nat×List Nat))(st:St)(g:Option Tmp)(op:Op)(ty:j1)(pos:String)(after:Array Edge) :
  segO P pl l Q i 0 r T st (some ⟨g,op,ty,pos,after,none⟩)=qw P pl true g op st.ev st.mu (segK P pl l Q i r T g st) noK:=by
 have:segP i 0=noK:=by funext v m;simp[segP,noK]
 show OptK (some true) (fun b=>Br b (qw P pl true g op st.ev st.mu (segK P pl l Q i r T g st) (segP i 0)) _)=_;rw[this];simp[OptK,Br]
@[go_sem ↓] theorem segO_1(P:qf)(pl:Pol)(l:List wg)(Q:St->Prop)(i:AV->St->Prop)(r:List Nat)(T:List (Nat×Nat×List Nat))(st:St)(g:Option Tmp)(op:Op)(ty:j1)(pos:String)(after:Array Edge) :
  segO P pl l Q i 1 r T st (some ⟨g,op,ty,pos,after,none⟩)=qw P pl false g op st.ev st.mu (segK P pl l Q i r T g st) (panT i):=by
 have:segP i 1=panT i:=by funext v m;simp[segP,panT]
 show OptK (some true) (fun b=>Br b (qw P pl false g op st.ev st.mu (segK P pl l Q i r T g st) (segP i 1)) _)=_;rw[this];simp[OptK,Br]
@[go_sem ↓] theorem segO_2(P:qf)(pl:Pol)(l:List wg)(Q:St->Prop)(i:AV->St->Prop)(r:List Nat)(T:List (Nat×Nat×List Nat))(st:St)(g:Option Tmp)(op:Op)(ty:j1)(pos:String)(after:Array Edge) :
  segO P pl l Q i 2 r T st (some ⟨g,op,ty,pos,after,none⟩)=qw P pl true g op st.ev st.mu (segK P pl l Q i r T g st) noK:=by
 have:segP i 2=noK:=by funext v m;simp[segP,noK]
 show OptK (some true) (fun b=>Br b (qw P pl true g op st.ev st.mu (segK P pl l Q i r T g st) (segP i 2)) _)=_;rw[this];simp[OptK,Br]
@[go_sem ↓] theorem segK_eq(P:qf)(pl:Pol)(l:List wg)(Q:St->Prop)(i:AV->St->Prop)(r:List Nat)(T:List (Nat×Nat×List Nat))(g:Option Tmp)(st:St)(v:AV)(m:Mu):segK P pl l Q i r T g st v m=(jV P pl l.toArray r (st.put g v m)/\awpT P pl l.toArray Q i T (st.put g v m)):=eqS rfl
@[go_sem ↓] theorem qlP(P:qf)(pl:Pol)(ops:Array wg)(st:St):jV P pl ops [] st=True:=eqS rfl
def Jx(P:qf)(pl:Pol)(l:List wg)(st:St):Option wg->Prop
 |some o=>OptK (zE l.toArray st o) fun b=>Br b (wP P pl o st) True
 |none=>True
@[go_sem ↓] theorem qlQ(P:qf)(pl:Pol)(l:List wg)(p:Nat)(r:List Nat)(st:St):jV P pl l.toArray (p :: r) st=(Jx P pl l st l[p]?/\jV P pl l.toArray r st):=by
 show ((match l.toArray[p]? with|some o=>OptK (zE l.toArray st o) (fun b=>Br b (wP P pl o st) True)|none=>True)/\jV P pl l.toArray r st)=_;rw[vG];cases l[p]?<;>rfl
@[go_sem ↓] theorem qlR(P:qf)(pl:Pol)(l:List wg)(st:St)(d:Tmp)(op:Op)(ty:j1)(pos:String)(after:Array Edge):Jx P pl l st (some ⟨some d,op,ty,pos,after,none⟩)=qw P pl true (some d) op st.ev st.mu (wN st d st.mu) noK:=by
 show OptK (some true) (fun b=>Br b (qw P pl true (some d) op st.ev st.mu (wN st d st.mu) noK) True)=_;simp[OptK,Br]
def qh(P:qf)(pl:Pol)(body:vn)(Q:qM->St->Prop)(st:St):Prop:=∃(z:Bool) (I:Nat->St->Prop) (n:Nat) (g:St),Fz st g/\I n g/\∀ n st,I n st->awp P pl body (uA I n (fzQ z Q)) st
theorem qh.intro{P:qf}{pl:Pol}{Q:qM->St->Prop}{st:St}(I:Nat->St->Prop)(n:Nat)(h:I n st)(k:∀ n st,I n st->awp P pl body (uA I n Q) st):qh P pl body Q st:=⟨false,I,n,st,.refl st,h,k⟩
theorem qh.introF{P:qf}{pl:Pol}{Q:qM->St->Prop}{st:St}(I:Nat->St->Prop)(n:Nat)(h:I n st)(k:∀ n st,I n st->awp P pl body (uA I n (FzQ Q)) st):qh P pl body Q st:=⟨true,I,n,st,.refl st,h,k⟩
def vR(P:qf)(pl:Pol)(g:AV)(ps:Array Tmp)(l body:vn)(Q:qM->St->Prop)(st:St):Prop:=
 ∃(z:Bool) (p:us) (i:List AV) (rows:List (List AV)) (I:Nat->Mu->Prop) (o:qM->Mu->Prop),
   g = .fn (.func p) [] i/\KR P p i rows I o/\I 0 (st.mu++[.dead]) /\
   (∀ k x j,rows[k]?=some x->I k j->x.length=ps.size/\awp P pl l (asQ (fun st=>awp P pl body (rndQ I o k) st)) ⟨vh st.tm ps.toList x,j⟩) /\
   (∀ j,I rows.length j->fzQ z Q .normal ⟨st.tm,j⟩)/\(∀ e j,o e j->fzQ z Q e ⟨st.tm,j⟩)
theorem vR.intro{P:qf}{pl:Pol}{j:us}{caps:List AV}{ps:Array Tmp}{g:vn}{Q:qM->St->Prop}{st:St}{rows:List (List AV)}(l:jl P j caps rows)(I:Nat->Mu->Prop)(i:qM->Mu->Prop)
  (o:I 0 (st.mu++[.dead])) (p:∀ k mu,I k mu->I k (mu++[.dead])) (r:∀ e mu,i e mu->i e (mu++[.dead]))
  (t:∀ k x mu,rows[k]?=some x->I k mu->x.length=ps.size/\awp P pl g (asQ (fun st=>awp P pl body (rndQ I i k) st)) ⟨vh st.tm ps.toList x,mu⟩)
  (C:∀ mu,I rows.length mu->Q .normal ⟨st.tm,mu⟩) (J:∀ e mu,i e mu->Q e ⟨st.tm,mu⟩):vR P pl (.fn (.func j) [] caps) ps g body Q st:=
 ⟨false,j,caps,rows,I,i,rfl,.inl ⟨l,p,r⟩,o,t,C,J⟩
@[go_sem] theorem setPs_nil(g:Nat->AV)(xs:List AV):vh g [] xs=g:=eqS (by cases xs<;>rfl)
@[go_sem] theorem qlS(g:Nat->AV)(t:Tmp)(ts:List Tmp)(x:AV)(xs:List AV):vh g (t :: ts) (x :: xs)=vh (fun i=>if i=t then x else g i) ts xs:=eqS rfl
@[go_sem] theorem qlT(n:St->Prop)(st:St):asQ n .normal st=n st:=eqS rfl
@[go_sem] theorem qlU(I:Nat->Mu->Prop)(g:qM->Mu->Prop)(k:Nat)(st:St):rndQ I g k .normal st=I (k+1) st.mu:=eqS rfl
@[go_sem] theorem rndQ_ret(I:Nat->Mu->Prop)(g:qM->Mu->Prop)(k:Nat)(st:St):rndQ I g k .ret st=g .ret st.mu:=eqS rfl
section
variable (P:qf) (pl:Pol) (Q:qM->St->Prop) (st:St)
@[go_sem ↓] theorem awp_skip:awp P pl .skip Q st=Q .normal st:=eqS rfl
@[go_sem ↓] theorem awp_exit(id:Nat):awp P pl (.exit id) Q st=Q (.exit id) st:=eqS rfl
@[go_sem ↓] theorem awp_ret:awp P pl .ret Q st=Q .ret st:=eqS rfl
@[go_sem ↓] theorem qcU(a b:vn):awp P pl (.seq a b) Q st=awp P pl a (seqQ (awp P pl b Q) Q) st:=eqS rfl
@[go_sem ↓] theorem awp_block(id:Nat)(b:vn):awp P pl (.block id b) Q st=awp P pl b (jW id Q) st:=eqS rfl
@[go_sem ↓] theorem awp_loop(b:vn):awp P pl (.loop b) Q st=qh P pl b Q st:=eqS rfl
@[go_sem ↓] theorem qlV(g:uk)(ps:Array Tmp)(i body:vn):awp P pl (.rangeFunc g ps i body) Q st=vR P pl (st.ev g) ps i body Q st:=eqS rfl
@[go_sem ↓] theorem qlW(id:Nat)(l:List wg):awp P pl (.region id l.toArray false) Q st=awpS P pl false l.toArray l (Q .normal) (panQ Q) st:=
 propext ⟨fun h=>by rcases h with ⟨_,h⟩|⟨e,_⟩;exact h;exact absurd e zSp,fun h => .inl ⟨rfl,h⟩⟩
@[go_sem ↓] theorem qcV(id:Nat)(l:List wg):awp P pl (.region id l.toArray true) Q st=qg P pl l (Q .normal) (panQ Q) st:=
 propext ⟨fun h=>by rcases h with ⟨e,_⟩|⟨_,h⟩;exact absurd e zSp;exact h,fun h => .inr ⟨rfl,h⟩⟩
def BrS(b:Bool)(p q:St->Prop)(st:St):Prop:=Br b (p st) (q st)
@[go_sem ↓] theorem BrS_true(p q:St->Prop):BrS true p q st=p st:=by simp[BrS,Br]
@[go_sem ↓] theorem BrS_false(p q:St->Prop):BrS false p q st=q st:=by simp[BrS,Br]
@[go_sem] theorem BrS_true'(p q:St->Prop):BrS true p q st=p st:=by simp[BrS,Br]
@[go_sem] theorem qlX(p q:St->Prop):BrS false p q st=q st:=by simp[BrS,Br]
theorem BrS.intro{b:Bool}{p q:St->Prop}{st:St}(g:b=true->p st)(i:b=false->q st):BrS b p q st:=⟨g,i⟩
def UB(v:AV)(p q:St->Prop)(st:St):Prop:=∃ t,v = .sc (.bool t)/\Br t (p st) (q st)
@[go_sem ↓] theorem awp_cond(c:uk)(a b:vn):awp P pl (.cond c a b) Q st=UB (st.ev c) (awp P pl a Q) (awp P pl b Q) st:=eqS rfl
@[go_sem] theorem qlY(t:Bool)(p q:St->Prop):UB (.sc (.bool t)) p q st=BrS t p q st:=by
 simp[UB,BrS]
@[go_sem ↓] theorem qlZ(n:St->Prop):seqQ n Q .normal st=n st:=eqS rfl
@[go_sem ↓] theorem seqQ_exit(n:St->Prop)(i:Nat):seqQ n Q (.exit i) st=Q (.exit i) st:=eqS rfl
@[go_sem ↓] theorem seqQ_ret(n:St->Prop):seqQ n Q .ret st=Q .ret st:=eqS rfl
@[go_sem ↓] theorem ql0(i:Nat):jW i Q .normal st=Q .normal st:=eqS rfl
@[go_sem ↓] theorem ql1(i j:Nat):jW j Q (.exit i) st=if i=j then Q .normal st else Q (.exit i) st:=eqS rfl
@[go_sem ↓] theorem ql2(i:Nat):jW i Q .ret st=Q .ret st:=eqS rfl
@[go_sem ↓] theorem ql3(I:Nat->St->Prop)(n:Nat):uA I n Q .normal st=∃ m,m<n/\I m st:=eqS rfl
@[go_sem ↓] theorem ql4(I:Nat->St->Prop)(n i:Nat):uA I n Q (.exit i) st=Q (.exit i) st:=eqS rfl
@[go_sem ↓] theorem loopQ_ret(I:Nat->St->Prop)(n:Nat):uA I n Q .ret st=Q .ret st:=eqS rfl
@[go_sem ↓] theorem ql5(g:List ResultVar)(R:AEnd->Mu->Prop):we P g R .normal st=OptK (yU P st g) (retK R st.mu):=eqS rfl
@[go_sem ↓] theorem PostQ_ret(g:List ResultVar)(R:AEnd->Mu->Prop):we P g R .ret st=OptK (yU P st g) (retK R st.mu):=eqS rfl
@[go_sem ↓] theorem retK_eq(R:AEnd->Mu->Prop)(m:Mu)(r:AV):retK R m r=R (.ret r) m:=eqS rfl
@[go_sem] theorem ql6(r:ResultVar):yU P st [r]=resV P st r:=eqS rfl
@[go_sem] theorem ql7:yU P st []=some (.tup []):=eqS rfl
@[go_sem] theorem ql8(r s:ResultVar):yU P st [r,s]=(match resV P st r,resV P st s with|some x,some y=>some (.tup [x,y])|_,_=>none):=by
 grind [yU,resL,resV]
@[go_sem] theorem ql9(r s t:ResultVar):yU P st [r,s,t]=(match resV P st r,resV P st s,resV P st t with|some x,some y,some z=>some (.tup [x,y,z])|_,_,_=>none):=by
 simp only[yU,resL]
 grind
@[go_sem] theorem resV_tmp(t:Tmp):resV P st (.tmp t)=some (st.tm t):=eqS rfl
@[go_sem] theorem resV_cell(a:Tmp)(t:j1):resV P st (.cell a t)=vK P st.mu t (st.tm a):=eqS rfl
end
end
section
variable {α:Type}
@[go_sem] theorem OptK_some(v:α)(k:α->Prop):OptK (some v) k=k v:=by simp[OptK]
theorem OptK.intro{o:Option α}{k:α->Prop}(v:α)(h:o=some v)(g:k v):OptK o k:=⟨v,h,g⟩
end
section
variable (P:qf) (pl:Pol) (det:Bool) (ops:Array wg) (Q:St->Prop) (Qp:AV->St->Prop) (st:St)
def Jy(P:qf)(pl:Pol)(det:Bool)(ops:Array wg)(l:List wg)(Q:St->Prop)(Qp:AV->St->Prop)(st:St)(g:Option Tmp):AV->Mu->Prop:=fun v m=>awpS P pl det ops l Q Qp (st.put g v m)
def panS(Qp:AV->St->Prop)(st:St):AV->Mu->Prop:=fun v m=>Qp v ⟨st.tm,m⟩
@[go_sem ↓] theorem contK_eq(l:List wg)(g:Option Tmp)(v:AV)(m:Mu):Jy P pl det ops l Q Qp st g v m=awpS P pl det ops l Q Qp (st.put g v m):=eqS rfl
@[go_sem ↓] theorem awpS_nil:awpS P pl det ops [] Q Qp st=Q st:=eqS rfl
@[go_sem ↓] theorem qmA(g:Option Tmp)(op:Op)(ty:j1)(pos:String)(after:Array Edge)(l:List wg):awpS P pl det ops (⟨g,op,ty,pos,after,none⟩ :: l) Q Qp st =
  qw P pl det g op st.ev st.mu (Jy P pl det ops l Q Qp st g) (panS Qp st):=by
 simp[awpS,zE,OptK,Br];rfl
def runK(P:qf)(pl:Pol)(det:Bool)(ops:Array wg)(g:Option Tmp)(op:Op)(l:List wg)(Q:St->Prop)(Qp:AV->St->Prop):St->Prop:=fun st=>qw P pl det g op st.ev st.mu (Jy P pl det ops l Q Qp st g) (panS Qp st)
def KV(P:qf)(pl:Pol)(det:Bool)(ops:Array wg)(g:Option Tmp)(l:List wg)(Q:St->Prop)(Qp:AV->St->Prop):St->Prop:=fun st=>awpS P pl det ops l Q Qp (st.put g (.sc va) st.mu)
@[go_sem ↓] theorem runK_eq(g:Option Tmp)(op:Op)(l:List wg):runK P pl det ops g op l Q Qp st=qw P pl det g op st.ev st.mu (Jy P pl det ops l Q Qp st g) (panS Qp st):=eqS rfl
@[go_sem ↓] theorem passK_eq(g:Option Tmp)(l:List wg):KV P pl det ops g l Q Qp st=awpS P pl det ops l Q Qp (st.put g (.sc va) st.mu):=eqS rfl
def brK(p q:St->Prop)(st:St):Bool->Prop:=fun b=>BrS b p q st
@[go_sem ↓] theorem brK_eq(p q:St->Prop)(b:Bool):brK p q st b=BrS b p q st:=eqS rfl
def wQ(d:Option Tmp)(st:St)(g:Bool)(p q:St->Prop):Prop:=OptK (match d with|none=>some false|some d=>wL (st.tm d) g) (brK p q st)
@[go_sem ↓] theorem qmB(i:Option Tmp)(op:Op)(ty:j1)(pos:String)(after:Array Edge)(l:List wg)(j:Nat)(g:Bool)(ol:List wg) :
  awpS P pl det ol.toArray (⟨i,op,ty,pos,after,some (j,g)⟩ :: l) Q Qp st=wQ ((ol[j]?).bind (·.dst)) st g (runK P pl det ol.toArray i op l Q Qp) (KV P pl det ol.toArray i l Q Qp):=by
 simp only[awpS,zE,wQ,vG];rfl
@[go_sem] theorem qmC(d:Tmp)(g:Bool)(p q:St->Prop):wQ (some d) st g p q=OptK (wL (st.tm d) g) (brK p q st):=eqS rfl
@[go_sem] theorem qmD(b g:Bool):wL (.sc (.bool b)) g=some (b == g):=eqS rfl
@[go_sem] theorem qmE(g:Bool):wL (.sc va) g=some false:=eqS rfl
end
def plc(l:List (Nat×Nat)):Nat->Option (Nat×Nat):=fun i=>l.toArray[i]?
def plA(s:Nat):Nat->Option (Nat×Nat):=fun i=>some (i*s,s)
@[go_sem] theorem plc_zero(p:Nat×Nat)(l:List (Nat×Nat)):plc (p :: l) 0=some p:=by simp[plc]
@[go_sem] theorem plc_succ(p:Nat×Nat)(l:List (Nat×Nat))(i:Nat):plc (p :: l) (i+1)=plc l i:=by simp[plc]
@[go_sem] theorem plA_eq(s i:Nat):plA s i=some (i*s,s):=eqS rfl
section
variable (st:St) (v:AV) (m:Mu)
@[go_sem] theorem put_tm(d i:Tmp):(st.put (some d) v m).tm i=if i=d then v else st.tm i:=eqS rfl
@[go_sem] theorem qmF(i:Tmp):(st.put none v m).tm i=st.tm i:=eqS rfl
@[go_sem] theorem zi(d:Option Tmp):(st.put d v m).mu=m:=eqS rfl
@[go_sem] theorem st0_tm(args:List AV)(i:Tmp):(st0 args m).tm i=(args[i]?).getD (.sc va):=eqS rfl
@[go_sem] theorem st0_mu(args:List AV):(st0 args m).mu=m:=eqS rfl
@[go_sem] theorem ev_tmp(t:Tmp):st.ev (.tmp t)=st.tm t:=eqS rfl
@[go_sem] theorem ev_const(c:j3):st.ev (.const c)=ofV c:=eqS rfl
@[go_sem] theorem ev_func(f:us):st.ev (.func f) = .fn (.func f) [] []:=eqS rfl
@[go_sem] theorem ofV_int(k:IntKind)(n:Int):ofV (.int k n) = .sc (.int k n):=eqS rfl
@[go_sem] theorem ofV_bool(b:Bool):ofV (.bool b) = .sc (.bool b):=eqS rfl
@[go_sem] theorem qmG(s:ByteArray):ofV (.string s) = .sc (.string s):=eqS rfl
@[go_sem] theorem qmH:ofV (.slice none 0 0) = .lst true []:=eqS rfl
@[go_sem] theorem qmI:ofV .nilIface = .sc .nilIface:=eqS rfl
@[go_sem] theorem qmJ:ofV .nilFunc = .sc .nilFunc:=eqS rfl
end
section
variable (P:qf) (pl:Pol) (det:Bool) (dst:Option Tmp) (ev:uk->AV) (mu:Mu) (K Kp:AV->Mu->Prop)
def km(K:AV->Mu->Prop)(mu:Mu):AV->Prop:=fun z=>K z mu
def ks(K:AV->Mu->Prop):Mu->Prop:=fun m=>K (.sc va) m
def kp(K:AV->Mu->Prop):AV×Mu->Prop:=fun z=>K z.1 z.2
def KW(K:AV->Mu->Prop)(mu:Mu):AV->Prop:=fun z=>z.cells.all AV.one=true/\K (.ptr mu.length 0) (mu++[.arr z.cells])
@[go_sem ↓] theorem km_eq(z:AV):km K mu z=K z mu:=eqS rfl
@[go_sem ↓] theorem ks_eq(m:Mu):ks K m=K (.sc va) m:=eqS rfl
@[go_sem ↓] theorem kp_eq(z:AV)(m:Mu):kp K (z,m)=K z m:=eqS rfl
@[go_sem ↓] theorem allocK_eq(z:AV):KW K mu z=(z.cells.all AV.one=true/\K (.ptr mu.length 0) (mu++[.arr z.cells])):=eqS rfl
@[go_sem ↓] theorem qmK(x:uk):qw P pl det dst (.move x) ev mu K Kp=K (ev x) mu:=eqS rfl
@[go_sem ↓] theorem qmL(x:uk):qw P pl det dst (.assign x) ev mu K Kp=K (ev x) mu:=eqS rfl
def UC(v a b:AV)(k:AV->Prop):Prop:=∃ t,v = .sc (.bool t)/\k (if t then a else b)
@[go_sem ↓] theorem qmM(c a b:uk):qw P pl det dst (.pick c a b) ev mu K Kp=UC (ev c) (ev a) (ev b) (km K mu):=eqS rfl
@[go_sem] theorem qmN(t:Bool)(a b:AV)(k:AV->Prop):UC (.sc (.bool t)) a b k=k (if t then a else b):=by simp[UC]
@[go_sem ↓] theorem qmO(e:j1):qw P pl det dst (.alloc e) ev mu K Kp=OptK (qx P e) (KW K mu):=eqS rfl
@[go_sem ↓] theorem SStep_box(e:j1)(x:uk):qw P pl det dst (.box e x) ev mu K Kp=((ev x).cells.all AV.one=true/\(if (dst.any pl.mt.contains)=true then K (.ptr mu.length 0) (mu++[.arr (ev x).cells]) else K (.ip (ev x).cells) mu)):=eqS rfl
@[go_sem ↓] theorem qmP(t:j1)(ps:List (Nat×uk)):qw P pl det dst (.build t ps.toArray) ev mu K Kp=(yH P t=true/\OptK (ZD P t (ps.map fun p=>(p.1,ev p.2))) (km K mu)):=eqS rfl
@[go_sem ↓] theorem qmQ(t:j1)(n:Nat)(ps:List (Nat×uk)):qw P pl det dst (.buildSlice t n ps.toArray) ev mu K Kp=OptK (ZG P t n (ps.map fun p=>(p.1,ev p.2))) (km K mu):=eqS rfl
@[go_sem ↓] theorem qmR(t:j1)(x:uk):qw P pl det dst (.load t x) ev mu K Kp=OptK (vK P mu t (ev x)) (km K mu):=eqS rfl
@[go_sem ↓] theorem qmS(t:j1)(a x:uk):qw P pl det dst (.store t a x) ev mu K Kp=OptK (Zv P mu t (ev a) (ev x)) (ks K):=eqS rfl
def uB(P:qf)(det:Bool)(op:BinOp)(t:j1)(x y:uk)(ev:uk->AV)(mu:Mu)(K:AV->Mu->Prop):Prop:=if uw y=true then jJ P det op t (ev x) (km K mu) else OptK (uu P op t (ev x) (ev y)) (km K mu)
@[go_sem ↓] theorem qmT(op:BinOp)(t g:j1)(x y:uk):qw P pl det dst (.binOp op t x y g) ev mu K Kp=uB P det op t x y ev mu K:=eqS rfl
@[go_sem ↓] theorem BinGo_tmp(op:BinOp)(t:j1)(x:uk)(u:Tmp):uB P det op t x (.tmp u) ev mu K=OptK (uu P op t (ev x) (ev (.tmp u))) (km K mu):=by simp[uB,uw]
@[go_sem ↓] theorem BinGo_int(op:BinOp)(t:j1)(x:uk)(k:IntKind)(n:Int):uB P det op t x (.const (.int k n)) ev mu K=OptK (uu P op t (ev x) (ev (.const (.int k n)))) (km K mu):=by simp[uB,uw]
@[go_sem ↓] theorem qmU(op:BinOp)(t:j1)(x:uk)(s:ByteArray):uB P det op t x (.const (.string s)) ev mu K=OptK (uu P op t (ev x) (ev (.const (.string s)))) (km K mu):=by simp[uB,uw]
@[go_sem ↓] theorem qmV(op:BinOp)(t:j1)(x:uk):uB P det op t x (.const .nilIface) ev mu K=OptK (uu P op t (ev x) (ev (.const .nilIface))) (km K mu):=by simp[uB,uw]
@[go_sem ↓] theorem qmW(op:UnOp)(t:j1)(x:uk):qw P pl det dst (.unOp op t x) ev mu K Kp=OptK (aUn op (ev x)) (km K mu):=eqS rfl
@[go_sem ↓] theorem qmX(s t:j1)(x:uk):qw P pl det dst (.convert s t x) ev mu K Kp=((P.underlying s).isSome=true/\OptK (Zw P s t (ev x)) (km K mu)):=eqS rfl
@[go_sem ↓] theorem qmY(f:Fn)(a b:List uk):qw P pl det dst (.makeFunc f a.toArray b.toArray) ev mu K Kp=K (.fn f (evs ev a) (evs ev b)) mu:=eqS rfl
@[go_sem ↓] theorem qmZ(t:j1)(l c:uk):qw P pl det dst (.makeSlice t l c) ev mu K Kp=OptK (Ql P mu t (ev l) (ev c)) (kp K):=eqS rfl
@[go_sem ↓] theorem qm0(t:j1)(x:uk)(lo g mx:Option uk):qw P pl det dst (.slice t x lo g mx) ev mu K Kp=(Uf P t (ev x)/\OptK (ZB P t (ev x) (lo.map ev) (g.map ev) (mx.map ev)) (km K mu)):=eqS rfl
@[go_sem ↓] theorem qm1(t:j1)(x:uk)(f:Nat):qw P pl det dst (.fieldAddr t x f) ev mu K Kp=OptK (Zx P t f (ev x)) (km K mu):=eqS rfl
@[go_sem ↓] theorem qm2(t:j1)(x:uk)(f:Nat):qw P pl det dst (.field t x f) ev mu K Kp=OptK (Zz P t f (ev x)) (km K mu):=eqS rfl
@[go_sem ↓] theorem qm3(t:j1)(x i:uk):qw P pl det dst (.indexAddr t x i) ev mu K Kp=OptK (Zy P t (ev x) (ev i)) (km K mu):=eqS rfl
@[go_sem ↓] theorem qm4(t:j1)(x i:uk):qw P pl det dst (.index t x i) ev mu K Kp=OptK (ZA P t (ev x) (ev i)) (km K mu):=eqS rfl
@[go_sem ↓] theorem qm5(x:uk)(i:Nat):qw P pl det dst (.extract x i) ev mu K Kp=OptK (Jj i (ev x)) (km K mu):=eqS rfl
@[go_sem ↓] theorem qm6(t:j1):qw P pl det dst (.makeMap t none) ev mu K Kp=K (.mp mu.length) (mu++[.mp []]):=by
 simp only[qw,true_and]
@[go_sem ↓] theorem qm7(t:j1)(m k:uk)(ok:Bool):qw P pl det dst (.lookup t m k ok) ev mu K Kp=OptK (yG P mu t (ev m) (ev k) ok) (km K mu):=eqS rfl
@[go_sem ↓] theorem qm8(t:j1)(m k v:uk):qw P pl det dst (.mapUpdate t m k v) ev mu K Kp=OptK (vM P mu t (ev m) (ev k) (ev v)) (ks K):=eqS rfl
@[go_sem ↓] theorem qm9(f:uk)(g:List uk)(i:Array j1):qw P pl det dst (.call ⟨.value f,g.toArray,i⟩) ev mu K Kp=qc P det mu (ev f) (evs ev g) K Kp:=eqS rfl
def KX(P:qf)(mu:Mu)(g:Array j1)(l:List AV)(K:AV->Mu->Prop):Prop:=∃ s x,l=[s,x]/\qA P mu g s x K
@[go_sem ↓] theorem qnA(g:List uk)(i:Array j1):qw P pl det dst (.call ⟨.builtin .append,g.toArray,i⟩) ev mu K Kp=KX P mu i (evs ev g) K:=eqS rfl
@[go_sem] theorem AppGo_eq(g:Array j1)(s x:AV):KX P mu g [s,x] K=qA P mu g s x K:=
 propext ⟨fun⟨_,_,e,h⟩=>by cases e;exact h,fun h=>⟨s,x,rfl,h⟩⟩
@[go_sem ↓] theorem SStep_len(g:List uk)(i:Array j1):qw P pl det dst (.call ⟨.builtin .len,g.toArray,i⟩) ev mu K Kp=OptK (jU P mu .len i (evs ev g)) (km K mu):=eqS rfl
@[go_sem ↓] theorem SStep_cap(g:List uk)(i:Array j1):qw P pl det dst (.call ⟨.builtin .cap,g.toArray,i⟩) ev mu K Kp=OptK (jU P mu .cap i (evs ev g)) (km K mu):=eqS rfl
@[go_sem ↓] theorem SStep_min(g:List uk)(i:Array j1):qw P pl det dst (.call ⟨.builtin .min,g.toArray,i⟩) ev mu K Kp=OptK (jU P mu .min i (evs ev g)) (km K mu):=eqS rfl
@[go_sem ↓] theorem SStep_max(g:List uk)(i:Array j1):qw P pl det dst (.call ⟨.builtin .max,g.toArray,i⟩) ev mu K Kp=OptK (jU P mu .max i (evs ev g)) (km K mu):=eqS rfl
@[go_sem] theorem evs_nil:evs ev []=[]:=eqS rfl
@[go_sem] theorem evs_cons(x:uk)(l:List uk):evs ev (x :: l)=ev x :: evs ev l:=eqS rfl
end
@[go_sem] theorem cells_agg(cs:List AV):(AV.agg cs).cells=cs:=eqS rfl
@[go_sem] theorem cells_sc(v:j3):(AV.sc v).cells=[.sc v]:=eqS rfl
@[go_sem] theorem cells_lst(f:Bool)(xs:List (List AV)):(AV.lst f xs).cells=[.lst f xs]:=eqS rfl
@[go_sem] theorem cells_sl(b sz off len:Nat):(AV.sl b sz off len).cells=[.sl b sz off len]:=eqS rfl
@[go_sem] theorem cells_fn(f:Fn)(a b:List AV):(AV.fn f a b).cells=[.fn f a b]:=eqS rfl
@[go_sem] theorem one_int(k:IntKind)(n:Int):(AV.sc (.int k n)).one=true:=eqS rfl
@[go_sem] theorem one_bool(b:Bool):(AV.sc (.bool b)).one=true:=eqS rfl
@[go_sem] theorem qnB(s:ByteArray):(AV.sc (.string s)).one=true:=eqS rfl
@[go_sem] theorem qnC:(AV.sc .nilFunc).one=true:=eqS rfl
@[go_sem] theorem qnD:(AV.sc (.map none)).one=true:=eqS rfl
@[go_sem] theorem one_lst(f:Bool)(xs:List (List AV)):(AV.lst f xs).one=true:=eqS rfl
@[go_sem] theorem one_sl(b sz off len:Nat):(AV.sl b sz off len).one=true:=eqS rfl
@[go_sem] theorem one_fn(f:Fn)(a b:List AV):(AV.fn f a b).one=true:=eqS rfl
@[go_sem] theorem qnE(x:wg)(l:List wg):jk 0 x l=x :: l:=eqS (by cases l<;>rfl)
@[go_sem] theorem qnF(d:Nat)(x y:wg)(l:List wg):jk (d+1) x (y :: l)=y :: jk d x l:=eqS rfl
@[go_sem] theorem qnG(d:Nat)(x:wg)(l:List wg):yT 0 d (x :: l)=jk d x l:=eqS rfl
@[go_sem] theorem qnH(n d:Nat)(x:wg)(l:List wg):yT (n+1) d (x :: l)=x :: yT n d l:=eqS rfl
end Go.Ev
namespace Go.Ev
open Go Go.RowKit
section
variable {g:AV->St->Prop}{ops:Array wg}{pl:Pol}{P:qf}
theorem qw.mono{det:Bool}{I:Option Tmp}{op:Op}{ev:uk->AV}{mu:Mu}{K K' Kp J:AV->Mu->Prop}(h:qw P pl det I op ev mu K Kp)
  (o:∀ v m,K v m->K' v m) (U:∀ v m,Kp v m->J v m):qw P pl det I op ev mu K' J:=by
 cases op<;>simp only[qw]at h⊢<;>try (exact h.elim)
 case move=>exact o _ _ h
 case assign=>exact o _ _ h
 case makeFunc=>exact o _ _ h
 case pick=>obtain⟨t,l,j⟩:=h;exact⟨t,l,o _ _ j⟩
 case alloc=>obtain⟨z,l,j,C⟩:=h;exact⟨z,l,j,o _ _ C⟩
 case box =>
  obtain⟨l,j⟩:=h;refine⟨l,?_⟩;split at j
  .rename_i hc;rw[if_pos hc];exact o _ _ j
  .rename_i hc;rw[if_neg hc];exact o _ _ j
 case build=>obtain⟨p,z,l,j⟩:=h;exact⟨p,z,l,o _ _ j⟩
 case buildSlice=>obtain⟨z,l,j⟩:=h;exact⟨z,l,o _ _ j⟩
 case load=>obtain⟨z,l,j⟩:=h;exact⟨z,l,o _ _ j⟩
 case store=>obtain⟨z,l,j⟩:=h;exact⟨z,l,o _ _ j⟩
 case nilCheck=>obtain⟨z,l,j⟩:=h;exact⟨z,l,o _ _ j⟩
 case binOp =>
  split at h
  .rename_i hy
   simp only[if_pos hy];exact h.mono fun z hz=>o _ _ hz
  .rename_i hy
   simp only[if_neg hy];obtain⟨z,l,j⟩:=h;exact⟨z,l,o _ _ j⟩
 case unOp=>obtain⟨z,l,j⟩:=h;exact⟨z,l,o _ _ j⟩
 case convert=>obtain⟨p,z,l,j⟩:=h;exact⟨p,z,l,o _ _ j⟩
 case makeInterface=>obtain⟨p,j⟩:=h;exact⟨p,o _ _ j⟩
 case makeSlice=>obtain⟨z,l,j⟩:=h;exact⟨z,l,o _ _ j⟩
 case slice=>obtain⟨p,z,l,j⟩:=h;exact⟨p,z,l,o _ _ j⟩
 case fieldAddr=>obtain⟨z,l,j⟩:=h;exact⟨z,l,o _ _ j⟩
 case field=>obtain⟨z,l,j⟩:=h;exact⟨z,l,o _ _ j⟩
 case indexAddr=>obtain⟨z,l,j⟩:=h;exact⟨z,l,o _ _ j⟩
 case index=>obtain⟨z,l,j⟩:=h;exact⟨z,l,o _ _ j⟩
 case extract=>obtain⟨z,l,j⟩:=h;exact⟨z,l,o _ _ j⟩
 case typeAssert=>obtain⟨z,l,j⟩:=h;exact⟨z,l,o _ _ j⟩
 case makeMap=>obtain⟨p,j⟩:=h;exact⟨p,o _ _ j⟩
 case lookup=>obtain⟨z,l,j⟩:=h;exact⟨z,l,o _ _ j⟩
 case mapUpdate=>obtain⟨z,l,j⟩:=h;exact⟨z,l,o _ _ j⟩
 case insert=>obtain⟨z,l,j⟩:=h;exact⟨z,l,o _ _ j⟩
 case mapEntry=>obtain⟨z,l,j⟩:=h;exact⟨z,l,o _ _ j⟩
 case entryStore=>obtain⟨z,l,j⟩:=h;exact⟨z,l,o _ _ j⟩
 case range=>obtain⟨z,l,j⟩:=h;exact⟨z,l,o _ _ j⟩
 case next=>obtain⟨p,a0,b,T,seen,l,j,C,h4⟩:=h;exact⟨p,a0,b,T,seen,l,j,fun i e a c=>o _ _ (C i e a c),fun a=>o _ _ (h4 a)⟩
 case entry=>obtain⟨z,l,j⟩:=h;exact⟨z,l,o _ _ j⟩
 case panic=>obtain⟨p,t,v,l,j⟩:=h;exact⟨p,t,v,l,U _ _ j⟩
 case call c =>
  obtain⟨callee,args,a1⟩:=c;cases callee with
  |invoke r m=>exact h.elim
  |value f =>
   rcases h with ⟨v,l,j⟩|⟨l,⟨g,fi,ca,R,j,C,h4,h5⟩|⟨i,R,j,C,h4⟩⟩
   .exact .inl ⟨v,l,o _ _ j⟩
   .exact .inr ⟨l,.inl ⟨g,fi,ca,R,j,C,fun r m h=>o _ _ (h4 r m h),fun r m h=>U _ _ (h5 r m h)⟩⟩
   .exact .inr ⟨l,.inr ⟨i,R,j,C,fun b m h=>o _ _ (h4 b m h)⟩⟩
  |builtin b =>
   cases b<;>simp only at h⊢<;>try (first | (obtain⟨z,m,l,j⟩:=h;exact⟨z,m,l,o _ _ j⟩) | (obtain⟨z,l,j⟩:=h;exact⟨z,l,o _ _ j⟩))
   obtain⟨s,x,l,h⟩:=h;exact⟨s,x,l,h.mono o⟩
theorem awpS.mono{det:Bool}{Q j:St->Prop}{p:AV->St->Prop}(t:∀ st,Q st->j st)(i:∀ v st,p v st->g v st) :
  ∀(l:List wg) (st:St),awpS P pl det ops l Q p st->awpS P pl det ops l j g st:=by
 intro l;induction l with
 |nil=>intro st h;exact t st h
 |cons o l r =>
  intro st ⟨b,C,I,J⟩;exact⟨b,C,fun e=>(I e).mono (fun v m h=>r _ h) (fun v m h=>i _ _ h),fun e=>r _ (J e)⟩
theorem awpT.mono{Q p:St->Prop}{t:AV->St->Prop}(J:∀ st,Q st->p st)(i:∀ v st,t v st->g v st) :
  ∀(l:List (Nat×Nat×List Nat)) (st:St),awpT P pl ops Q t l st->awpT P pl ops p g l st:=by
 intro l;induction l with
 |nil=>intro st h;exact J st h
 |cons e l C =>
  obtain⟨j,k,r⟩:=e;intro st h;simp only[awpT]at h⊢;cases I:ops[j]? with
  |none=>rw[I]at h;exact h
  |some o =>
   rw[I]at h;simp only at h⊢;obtain⟨b,R,T,U⟩:=h;exact⟨b,R,fun e=>qw.mono (T e) (fun v m h=>⟨h.1,C _ h.2⟩) (fun v m h=>⟨h.1,fun tm=>i _ _ (h.2 tm)⟩),fun e=>C _ (U e)⟩
theorem awp.mono:∀(c:vn) {Q j:qM->St->Prop} {st:St},awp P pl c Q st->(∀ e st,Q e st->j e st)->awp P pl c j st:=by
 intro c;induction c with
 |skip=>intro Q j st h g;exact g _ _ h
 |label l=>intro Q j st h g;exact g _ _ h
 |exit i=>intro Q j st h g;exact g _ _ h
 |ret=>intro Q j st h g;exact g _ _ h
 |region id R a3 =>
  intro Q j st h g;rcases h with ⟨o,p⟩|⟨o,p⟩
  .exact .inl ⟨o,awpS.mono (fun st h=>g _ _ h) (fun v st h=>g _ _ h) _ _ p⟩
  .obtain ⟨st1,r,p⟩:=p
   refine .inr ⟨o,st1,r,?_⟩;rcases p with (⟨C,U⟩|⟨n,C,U⟩|⟨a0,d,g1,g2,g3,g4,g5⟩)|⟨O,C,a2,U⟩
   .exact .inl (.inl ⟨C,awpS.mono (fun st h=>g _ _ h) (fun v st h=>g _ _ h) _ _ U⟩)
   .exact .inl (.inr (.inl ⟨n,C,awpS.mono (fun st h=>awpS.mono (fun st h=>g _ _ h) (fun v st h=>g _ _ h) _ _ h) (fun v st h=>g _ _ h) _ _ U⟩))
   .exact .inl (.inr (.inr ⟨a0,d,g1,g2,g3,awpS.mono (fun st h=>g _ _ h) (fun v st h=>g _ _ h) _ _ g4,awpS.mono (fun st h=>g _ _ h) (fun v st h=>g _ _ h) _ _ g5⟩))
   .exact .inr ⟨O,C,a2,awpT.mono (fun st h=>g _ _ h) (fun v st h=>g _ _ h) _ _ U⟩
 |seq a b J T =>
  intro Q j st h g;refine J (Q:=seqQ (awp P pl b Q) Q) h (fun e st h=>?_);cases e with
  |normal=>exact T h g
  |exit i=>exact g _ _ h
  |ret=>exact g _ _ h
  |pan v=>exact g _ _ h
 |cond a4 a b J T=>intro Q j st ⟨t,h0,o,p⟩ g;exact⟨t,h0,fun e=>J (o e) g,fun e=>T (p e) g⟩
 |block id b ih =>
  intro Q j st h g;refine ih (Q:=jW id Q) h (fun e st h=>?_);cases e with
  |normal=>exact g _ _ h
  |exit i =>
   simp only[jW]at h⊢;split at h
   .rename_i hi;rw[if_pos hi];exact g _ _ h
   .rename_i hi;rw[if_neg hi];exact g _ _ h
  |ret=>exact g _ _ h
  |pan v=>exact g _ _ h
 |loop b ih =>
  intro Q j st ⟨z,I,n,st1,r,h0,o⟩ g;have g:∀ e st,fzQ z Q e st->fzQ z j e st:=fun e st h=>by
   cases z with
   |false=>exact g e st h
   |true=>exact⟨h.choose,h.choose_spec.1,h.choose_spec.2.1,g e _ h.choose_spec.2.2⟩
  refine⟨z,I,n,st1,r,h0,fun n st hI=>ih (Q:=uA I n (fzQ z Q)) (o n st hI) (fun e st h=>?_)⟩;cases e with
  |normal=>exact h
  |exit i=>exact g _ _ h
  |ret=>exact g _ _ h
  |pan v=>exact g _ _ h
 |scope b ih=>intro Q j st h g;exact ih h g
 |rangeFunc f ps a5 b a6 a7 =>
  intro Q j st ⟨z,gf,a1,rows,I,Ix,o,p,C,h6,h7,h8⟩ g;have g:∀ e st,fzQ z Q e st->fzQ z j e st:=fun e st h=>by
   cases z with
   |false=>exact g e st h
   |true=>exact⟨h.choose,h.choose_spec.1,h.choose_spec.2.1,g e _ h.choose_spec.2.2⟩
  exact⟨z,gf,a1,rows,I,Ix,o,p,C,h6,fun mu h=>g _ _ (h7 mu h),fun e mu h=>g _ _ (h8 e mu h)⟩
 |goto l=>intro Q j st h g;exact h.elim
 |refuse w=>intro Q j st h g;exact h.elim
def upQ(I:Nat->St->Prop)(N k:Nat)(Q:qM->St->Prop):qM->St->Prop
 | .normal,st=>k<N/\I (k+1) st
 |e,st=>Q e st
section
variable (Q:qM->St->Prop) (st:St) (I:Nat->St->Prop) (N k:Nat)
@[go_sem ↓] theorem qnI:upQ I N k Q .normal st=(k<N/\I (k+1) st):=eqS rfl
@[go_sem ↓] theorem upQ_exit(i:Nat):upQ I N k Q (.exit i) st=Q (.exit i) st:=eqS rfl
@[go_sem ↓] theorem upQ_ret:upQ I N k Q .ret st=Q .ret st:=eqS rfl
end
end
section
variable {K i:AV->Mu->Prop}{R:Bool->Mu->Prop}{g:us}{args args' caps xs ys:List AV}{mu:Mu}{P:qf}{Q:qM->St->Prop}
theorem qh.up{pl:Pol}{body:vn}{st:St}(N:Nat)(I:Nat->St->Prop)(j:I 0 st)(h:∀ k st,k<=N->I k st->awp P pl body (upQ I N k Q) st):qh P pl body Q st:=by
 refine qh.intro (fun n st=>∃ k,n=N-k/\k<=N/\I k st) N ⟨0,zOm,zOm,j⟩ ?_;rintro n st ⟨k,rfl,l,o⟩;refine awp.mono body (h k st l o) (fun e st g=>?_);cases e with
 |normal=>exact⟨N-(k+1),zW1 g.1,k+1,rfl,g.1,g.2⟩
 |exit i=>exact g
 |ret=>exact g
 |pan v=>exact g
theorem qh.upF{pl:Pol}{body:vn}{st:St}(N:Nat)(I:Nat->St->Prop)(j:I 0 st)(h:∀ k st,k<=N->I k st->awp P pl body (upQ I N k (FzQ Q)) st):qh P pl body Q st:=by
 refine qh.introF (fun n st=>∃ k,n=N-k/\k<=N/\I k st) N ⟨0,zOm,zOm,j⟩ ?_;rintro n st ⟨k,rfl,l,o⟩;refine awp.mono body (h k st l o) (fun e st g=>?_);cases e with
 |normal=>exact⟨N-(k+1),zW1 g.1,k+1,rfl,g.1,g.2⟩
 |exit i=>exact g
 |ret=>exact g
 |pan v=>exact g
theorem KY(mu:Mu):∀ k,cutM (fun i=>!false) mu k=mu:=by
 induction mu with
 |nil=>intro k;rfl
 |cons c l g =>
  intro k;have:=g (k+1);simp[cutM]at this⊢;exact this
theorem FzQ.skip{e:qM}{st:St}(h:Q e st):FzQ Q e st:=by
 refine⟨st,⟨fun _=>false,(KY _ 0).symm,fun i => .same _⟩,?_,h⟩;cases e<;>trivial
theorem FzQ.one{i d b:Nat}{x:AV}{st:St}(g:Rd (cutM (fun j=>j == b) st.mu 0) (st.tm d) x)(k:Q (.exit i) (st.put (some d) x (cutM (fun j=>!(j == b)) st.mu 0))):FzQ Q (.exit i) st:=by
 refine⟨_,⟨fun j=>j == b,rfl,fun j=>?_⟩,trivial,k⟩;simp only[St.put];split
 .rename_i h;subst h;exact .rd _ _ g
 .exact .same _
theorem qc.pure{det:Bool}{v:AV}(j:qd P g args' v)(l:WKs args args')(k:K v mu) :
  qc P det mu (.fn (.func g) [] []) args K i:=
 .inl ⟨v,.inl ⟨g,[],[],args',rfl,j,.inl (zUs l)⟩,k⟩
theorem qc.zP{det:Bool}{v:AV}{Q:Prop}(j:qd P g args' v)(l:WKs args args')(k:Q)(e:K v mu=Q:=by simp[go_sem];rfl):qc P det mu (.fn (.func g) [] []) args K i:=.pure j l (e.mpr k)
theorem qc.clo{det:Bool}{v:AV}(j:qd P g args' v)(l:WKs (args++caps) args')(k:K v mu) :
  qc P det mu (.fn (.func g) [] caps) args K i:=
 .inl ⟨v,.inl ⟨g,[],caps,args',rfl,j,.inl (zUs l)⟩,k⟩
theorem qc.lend{det:Bool}{v:AV}(j:qd P g args' v)(l:Rds mu args args')(hf:FL v)(k:K v mu) :
  qc P det mu (.fn (.func g) [] []) args K i:=
 .inl ⟨v,.inl ⟨g,[],[],args',rfl,j,.inr ⟨zUs l,hf⟩⟩,k⟩
theorem qc.eff{R:AEnd->Mu->Prop}(j:qL P g (args++caps) mu R)(k:∀ r m,R (.ret r) m->K r m)(kp:∀ r m,R (.pan r) m->i r m) :
  qc P false mu (.fn (.func g) [] caps) args K i:=
 .inr ⟨rfl,.inl ⟨g,[],caps,R,rfl,zUs j,k,kp⟩⟩
theorem qc.yield{i:Nat}{g:AV->Mu->Prop}(h:u9 P i args mu R)(k:∀ b m,R b m->K (.sc (.bool b)) m):qc P false mu (.yl i) args K g:=
 .inr ⟨rfl,.inr ⟨i,R,rfl,h,k⟩⟩
theorem u9.hid{i j:Nat}{c:Cell}(I:mu[j]?=some c)(J:c ≠ .dead)(h:u9 P i args (mu.set j .dead) R):u9 P i args mu fun b T=>∃ m,R b m/\m[j]?=some .dead/\T=m.set j c:=by
 intro G w U s ra l p hb;obtain⟨fn,g,r,o,h1,h2⟩:=h G w U (s.hid j) ra l p hb;refine⟨fn,g,r,o,h1,h2.mono ?_⟩;rintro e w' ⟨b,G',m,rfl,t,hR⟩;have C:j<G.blk.length:=by rw[s.len];exact(qe.1 I).1
 obtain⟨g1,g2,g3⟩:=t.unhid s I J (b:=(G.blk[j]'C).1) (t:=(G.blk[j]'C).2) (zP1 C);exact⟨b,G',_,rfl,g3,m,hR,g1,rfl⟩
theorem jl.of{f:us}{rows:List (List AV)}(g:yd P f)
  (h:∀(i:Nat) (I:Nat->Mu->Prop) (j:Mu->Prop),(∀ k mu,I k mu->I k (mu++[.dead]))->(∀ mu,j mu->j (mu++[.dead]))->Yld P i rows I j->∀ mu,I 0 mu ->
   qL P f (.yl i :: caps) mu fun e l=>∃ r,e = .ret r/\(I rows.length l\/j l)):jl P f caps rows:=⟨g,h⟩
theorem WKs.nil:WKs [] []:=trivial
theorem WKs.cons{x y:AV}(h:WK x y)(t:WKs xs ys):WKs (x :: xs) (y :: ys):=⟨h,t⟩
theorem WKs.zk{x:AV}(h:HF x)(t:WKs xs ys):WKs (x :: xs) (x :: ys):=⟨WK.hf h,t⟩
theorem WKs.zs{v:j3}(t:WKs xs ys):WKs (.sc v :: xs) (.sc v :: ys):=⟨WK.hf (HF.sc _),t⟩
def Own(mu:Mu)(sz:Nat)(av:AV)(xs:List (List AV)):Prop:=
 (av = .lst true xs)\/∃ b,av = .sl b sz 0 xs.length/\mu[b]?=some (.arr xs.flatten)
theorem Own.rows{sz:Nat}{av:AV}{xs:List (List AV)}(h:Own mu sz av xs)(w:zX sz xs):qH mu av=some xs:=by
 rcases h with rfl|⟨b,rfl,j⟩
 .rfl
 .have l:=zW w
  simp only[qH,j];rw[if_pos zOm];congr 1;apply jx;intro i;by_cases g:i<xs.length
  .simp only[zm,List.getElem?_range g,qS,yc]
   rw[qv g];congr 1;have o:=w _ (qt g);rw[<-XV w i,zD g,un,List.take_append_of_le_length zOm,zK zOm]
  .rw [yC zSo,yC zOm]
theorem Own.rd{sz:Nat}{av:AV}{xs:List (List AV)}(h:Own mu sz av xs)(w:zX sz xs)(hf:∀ r,r∈xs->∀ c,c∈r->HF c):Rd mu av (.lst false xs):=by
 rcases h with rfl|⟨b,rfl,l⟩
 .exact .wk _ true _ (.hf _ (HF.lst hf))
 .have o:=zW w
  refine .sl b sz 0 xs.length xs.flatten xs l zOm rfl w (fun k x y i j=>?_);rw[yc,j]at i;cases i;obtain⟨r,p,g⟩:=VT.1 (qZ j);exact .hf _ (hf r p _ g)
end
end Go.Ev
namespace Go.Ev
open Go Go.RowKit
section
variable {R:AEnd->Mu->Prop}{f:us}{args:List AV}{mu:Mu}{P:qf}
def ZU(mu:Mu)(give:Nat->Bool):List AV->List AV->Prop
 | [],[]=>True
 |x :: g,y :: j=>(x=y\/Rd (cutM give mu 0) x y)/\ZU mu give g j
 |_,_=>False
theorem ZU.get{give:Nat->Bool}:∀{xs ys:List AV},ZU mu give xs ys->ys.length=xs.length/\∀(k:Nat) x y,xs[k]?=some x->ys[k]?=some y->x=y\/Rd (cutM give mu 0) x y
 | [],[],_=>⟨rfl,zSp⟩
 |x :: xs,y :: ys,⟨h,t⟩=>by
  obtain⟨j,l⟩:=ZU.get t;refine⟨zP1 j,fun k a b g i=>?_⟩;cases k with
  |zero=>simp at g i;subst g;subst i;exact h
  |succ k=>exact l k a b (zUs g) (zUs i)
 | [],_ :: _,h=>h.elim
 |_ :: _,[],h=>h.elim
theorem qL.freeze{args1:List AV}(give:Nat->Bool)(j:ZU mu give args args1)(h:qL P f args1 (cutM (fun i=>!give i) mu 0) R):qL P f args mu R:=by
 obtain⟨g,h⟩:=h;obtain⟨p,j⟩:=j.get;refine⟨g,fun G w t s C=>?_⟩;have o:zz (frz G give mu) w.heap args1 t:=by
  refine⟨by rw[p];exact C.1,fun k y I=>?_⟩;have U:k<args.length:=by rw[<-p];exact(qe.1 I).1
  have J:args[k]?=some args[k]:=qv U;have T:=C.2 k _ J;rcases j k _ y J I with e|r
  .rw [<-e];exact T.mono (u6 s give).le (Ext.refl _ _)
  .exact V4 s give r T
 refine(h (frz G give mu) w t (V3 s give) o).mono fun e w' ⟨G',l,st,hR⟩=>⟨G',l,(u6 s give).trans s st,hR⟩
theorem qL.give(h:qL P f args mu fun e m=>R e m\/∃(g:Nat->Bool) (x y:AV),e = .ret x/\Gv m g x y/\R (.ret y) (cutM (fun i=>!g i) m 0)):qL P f args mu R:=by
 obtain⟨o,h⟩:=h;refine⟨o,fun G w J s T=>(h G w J s T).mono fun e w' ⟨C,l,st,j⟩=>?_⟩;rcases j with ⟨r,v,j,p,t⟩|⟨r,v,j,p,t⟩
 .rcases j with j|⟨g,x,y,I,U,j⟩
  .exact ⟨C,l,st,.inl ⟨r,v,j,p,t⟩⟩
  .cases I
   exact⟨frz C g l,_,st.trans s (u6 st.sim g),.inl ⟨y,v,j,p,U.sound st.sim t⟩⟩
 .rcases j with j|⟨g,x,y,I,_⟩
  .exact ⟨C,l,st,.inr ⟨r,v,j,p,t⟩⟩
  .cases I
theorem qd.toSound{args':List AV}{v:AV}(mu:Mu)(h:qd P f args' v)(p:WKs args args'):qL P f args mu fun e m=>e = .ret v/\m=mu:=by
 refine⟨h.1,fun G w U s r=>?_⟩;have t:VRel G w.heap (.fn (.func f) [] []) (.func (.func f) #[] #[]) := .fn _ _ _ _ _ rfl rfl (fun k x i=>by simp at i) (fun k x i=>by simp at i);obtain⟨g,first,l,e,_,o⟩:=Kq s t r (.inl ⟨f,[],[],args',rfl,h,.inl (zUs p)⟩);injection e with j C I;injection j with j;subst j;subst C;subst I;simp at o;refine o.mono fun e w' ⟨J,u,R,st,T⟩=>⟨J,mu,st,.inl ⟨v,u,⟨rfl,rfl⟩,R,T⟩⟩
end
end Go.Ev
namespace Go.Ev
open Go Go.RowKit
section
variable {C:Type}
section
variable {β:Type}
def fN(n:Nat)(k:Nat->β):β:=match n with
 | 0=>k 0
 |m+1=>k (Nat.succ m)
theorem UD(n:Nat)(k:Nat->β):fN n k=k n:=by cases n<;>rfl
def fI(i:Int)(k:Int->β):β:=match i with
 | .ofNat n=>fN n fun n=>k (.ofNat n)
 | .negSucc n=>fN n fun n=>k (.negSucc n)
theorem fI_eq(i:Int)(k:Int->β):fI i k=k i:=by
 cases i with
 |ofNat n=>exact UD n fun n=>k (.ofNat n)
 |negSucc n=>exact UD n fun n=>k (.negSucc n)
def fBo(b:Bool)(k:Bool->β):β:=match b with
 |true=>k true
 |false=>k false
theorem qcW(b:Bool)(k:Bool->β):fBo b k=k b:=by cases b<;>rfl
def fLi:List C->(List C->β)->β
 | [],k=>k []
 |a :: l,k=>fLi l fun l=>k (a :: l)
theorem Jz:∀(l:List C) (k:List C->β),fLi l k=k l
 | [],k=>rfl
 |a :: l,k=>by rw[fLi,Jz l]
def fLL:List (List C)->(List (List C)->β)->β
 | [],k=>k []
 |a :: l,k=>fLi a fun a=>fLL l fun l=>k (a :: l)
theorem KZ:∀(l:List (List C)) (k:List (List C)->β),fLL l k=k l
 | [],k=>rfl
 |a :: l,k=>by rw[fLL,Jz,KZ l]
def fV(v:AV)(k:AV->β):β:=match v with
 | .sc (.int kd n)=>fI n fun n=>k (.sc (.int kd n))
 | .sc (.bool b)=>fBo b fun b=>k (.sc (.bool b))
 | .lst f g=>fLL g fun g=>k (.lst f g)
 | .agg i=>fLi i fun i=>k (.agg i)
 | .tup i=>fLi i fun i=>k (.tup i)
 | .ip i=>fLi i fun i=>k (.ip i)
 | .sl b p off len=>fN b fun b=>fN p fun p=>fN off fun off=>fN len fun len=>k (.sl b p off len)
 | .ptr b off=>fN b fun b=>fN off fun off=>k (.ptr b off)
 | .mp b=>fN b fun b=>k (.mp b)
 | .fn f a c=>fLi a fun a=>fLi c fun c=>k (.fn f a c)
 |v=>k v
theorem fV_eq(v:AV)(k:AV->β):fV v k=k v:=by
 unfold fV;split<;>simp only[UD,fI_eq,qcW,Jz,KZ]
def fC(c:Cell)(k:Cell->β):β:=match c with
 | .arr g=>fLi g fun g=>k (.arr g)
 | .mp T=>fLi T fun T=>k (.mp T)
 |c=>k c
theorem fC_eq(c:Cell)(k:Cell->β):fC c k=k c:=by
 unfold fC;split<;>simp only[Jz]
def fM:Mu->(Mu->β)->β
 | [],k=>k []
 |c :: l,k=>fC c fun c=>fM l fun l=>k (c :: l)
theorem UE:∀(l:Mu) (k:Mu->β),fM l k=k l
 | [],k=>rfl
 |a :: l,k=>by rw[fM,fC_eq,UE l]
end
end
section
variable {C g i:Type}{ops:Array wg}{ys:List (List AV)}{m mu:Mu}{pl:Pol}{P:qf}
def setJ:List AV->Nat->AV->(List AV->Option g)->Option g
 | [],_,_,_=>none
 |_ :: l,0,v,k=>k (v :: l)
 |a :: l,d+1,v,k=>setJ l d v fun l=>k (a :: l)
theorem K3:∀{l:List AV} {d:Nat} {v:AV} {k:List AV->Option g} {r:g},setJ l d v k=some r->d<l.length/\k (l.set d v)=some r
 | [],d,v,k,r,h=>by cases h
 |a :: l,0,v,k,r,h=>⟨zSp,h⟩
 |a :: l,d+1,v,k,r,h=>by
  obtain⟨i,j⟩:=K3 (l:=l) h
  grind
def nthJ:List AV->Nat->AV
 | [],_ => .sc va
 |a :: _,0=>a
 |_ :: l,d+1=>nthJ l d
theorem JA:∀(l:List AV) (d:Nat),nthJ l d=(l[d]?).getD (.sc va)
 | [],d=>by simp[nthJ]
 |a :: l,0=>rfl
 |a :: l,d+1=>by rw[nthJ,JA l d];simp
structure LS where
 tm:List AV
 mu:Mu
def LS.st(s:LS):St:=⟨fun i=>(s.tm[i]?).getD (.sc va),s.mu⟩
def evJ(g:List AV):uk->AV
 | .tmp t=>nthJ g t
 | .const v=>ofV v
 | .global _ => .any
 | .func f => .fn (.func f) [] []
theorem Qt(s:LS):s.st.ev=evJ s.tm:=by
 funext x;cases x with
 |tmp t=>exact(JA _ _).symm
 |_=>rfl
def putJ(i:List AV)(d:Option Tmp)(v:AV)(k:List AV->Option g):Option g:=match d with
 |none=>k i
 |some d=>setJ i d v k
theorem JD{s:LS}{d:Option Tmp}{v:AV}{k:List AV->Option i}{r:i}(h:putJ s.tm d v k=some r):∃ g,k g=some r/\g.length=s.tm.length/\s.st.put d v m=LS.st ⟨g,m⟩:=by
 cases d with
 |none=>exact⟨_,h,rfl,rfl⟩
 |some d =>
  obtain⟨l,j⟩:=K3 h;refine⟨_,j,zSp,?_⟩;unfold LS.st St.put
  grind
def Stps(P:qf)(pl:Pol)(det:Bool)(g:Option Tmp)(op:Op)(ev:uk->AV)(mu:Mu)(v:AV)(m:Mu):Prop:=∀(K i:AV->Mu->Prop),K v m->qw P pl det g op ev mu K i
def nilV(P:qf)(op:BinOp)(t:j1)(x:AV):Option AV:=
 if (qz P t).isSome&&(decide (op = .eql)||decide (op = .neq)) then match x with
  | .lst _ (_ :: _) | .sl .. => some (.sc (.bool (decide (op = .neq))))
  |_=>none
 else none
def UF(P:qf)(t:j1)(x:AV):Bool:=match x with
 | .lst _ g=>match qz P t with
  |some (_,p,_)=>g.all fun r=>decide (r.length=p)
  |none=>false
 |_=>true
theorem qcX{t:j1}{x:AV}(h:UF P t x=true):Uf P t x:=by
 cases x with
 |lst f g =>
  unfold UF at h;split at h
  .rename_i i j
   cases j;split at h
   .rename_i e p l o
    exact⟨e,p,l,o,fun r C=>of_decide_eq_true (qJ.1 h r C)⟩
   .cases h
  grind
 |_=>trivial
def jA(P:qf)(pl:Pol)(j:Option Tmp)(op:Op)(ev:uk->AV)(mu:Mu):Option AV:=
 match op with
 | .move x | .assign x=>some (ev x)
 | .pick c a b=>match ev c with
  | .sc (.bool t)=>some (if t then ev a else ev b)
  |_=>none
 | .box _ x=>if (ev x).cells.all AV.one&&!(j.any pl.mt.contains) then some (.ip (ev x).cells) else none
 | .build t l=>if yH P t then ZD P t (l.toList.map fun p=>(p.1,ev p.2)) else none
 | .buildSlice t n l=>ZG P t n (l.toList.map fun p=>(p.1,ev p.2))
 | .load t a=>vK P mu t (ev a)
 | .nilCheck x=>Ji (ev x)
 | .binOp op t x y _=>if uw y then nilV P op t (ev x) else uu P op t (ev x) (ev y)
 | .unOp op _ x=>aUn op (ev x)
 | .convert src d x=>if (P.underlying src).isSome then Zw P src d (ev x) else none
 | .makeInterface t x=>if ZO P t then some (.ifc t (ev x)) else none
 | .makeFunc f first g=>some (.fn f (evs ev first.toList) (evs ev g.toList))
 | .slice t x r o C=>if UF P t (ev x) then ZB P t (ev x) (r.map ev) (o.map ev) (C.map ev) else none
 | .fieldAddr s x f=>Zx P s f (ev x)
 | .field t x f=>Zz P t f (ev x)
 | .indexAddr t x i=>Zy P t (ev x) (ev i)
 | .index t x i=>ZA P t (ev x) (ev i)
 | .extract t i=>Jj i (ev t)
 | .typeAssert x _ t ok=>Jk P t ok (ev x)
 | .lookup t m k ok=>yG P mu t (ev m) (ev k) ok
 | .entry i=>wJ mu (ev i)
 | .call c=>match c.callee with
  | .builtin b=>match b with
   | .append | .copy | .delete | .clear=>none
   |b=>jU P mu b c.argTypes (evs ev c.args.toList)
  |_=>none
 |_=>none
theorem K4{det:Bool}{l:Option Tmp}{op:Op}{ev:uk->AV}{v:AV}(h:jA P pl l op ev mu=some v):Stps P pl det l op ev mu v mu:=by
 intro K R g;cases op with
 |move x=>simp only[jA,qj]at h;subst h;exact g
 |assign x=>simp only[jA,qj]at h;subst h;exact g
 |pick c a b =>
  simp only[jA]at h;split at h
  .rename_i t C
   cases h;exact⟨t,C,g⟩
  .cases h
 |box e x =>
  simp only[jA]at h;split at h
  .rename_i j
   simp only[qq,Bool.not_eq_true']at j;cases h;exact⟨j.1,by rw[j.2];exact g⟩
  .cases h
 |build t I =>
  simp only[jA]at h;split at h
  .rename_i j;exact⟨j,v,h,g⟩
  .cases h
 |buildSlice t n I=>exact⟨v,h,g⟩
 |load t a=>exact⟨v,h,g⟩
 |nilCheck x=>exact⟨v,h,g⟩
 |binOp op t x y T =>
  simp only[jA]at h;simp only[qw];split at h
  .rename_i o
   rw[if_pos o];unfold nilV at h;split at h
   .rename_i j
    simp only[qq,vF,decide_eq_true_eq]at j;refine⟨j.1,j.2,?_⟩;split at h
    .rename_i e;cases h;rw[e];exact g
    .rename_i e;cases h;rw[e];exact g
    .cases h
   .cases h
  .rename_i o
   rw[if_neg o];exact⟨v,h,g⟩
 |unOp op t x=>exact⟨v,h,g⟩
 |convert src d x =>
  simp only[jA]at h;split at h
  .rename_i j;exact⟨j,v,h,g⟩
  .cases h
 |makeInterface t x =>
  simp only[jA]at h;split at h
  .rename_i j;cases h;exact⟨j,g⟩
  .cases h
 |makeFunc f first p=>simp only[jA,qj]at h;subst h;exact g
 |slice t x r U mx =>
  simp only[jA]at h;split at h
  .rename_i j;exact⟨qcX j,v,h,g⟩
  .cases h
 |fieldAddr s x f=>exact⟨v,h,g⟩
 |field t x f=>exact⟨v,h,g⟩
 |indexAddr t x i=>exact⟨v,h,g⟩
 |index t x i=>exact⟨v,h,g⟩
 |extract t i=>exact⟨v,h,g⟩
 |typeAssert x a t ok=>exact⟨v,h,g⟩
 |lookup t m k ok=>exact⟨v,h,g⟩
 |entry i=>exact⟨v,h,g⟩
 |call c =>
  simp only[jA]at h;simp only[qw];split at h
  .rename_i b J
   rw[J];cases b<;>first | (cases h;done)|exact⟨v,h,g⟩
  .cases h
 |_=>cases h
def appJ(P:qf)(mu:Mu)(i:Array j1)(s x:AV):Option (AV×Mu):=
 match i with
 | ⟨[t,C]⟩=>match qz P t,qH mu x with
  |some (e,p,I),some j=>match qx P e with
   |some o=>if (qz P C).isSome&&(decide (o.cells.length=p)&&(o.cells.all AV.one&&(!decide (p=0)&&(Nat.ble I 16384&&j.all fun r=>decide (r.length=p)&&r.all AV.one)))) then
     match s with
     | .lst true g=>if (g.all fun r=>decide (r.length=p)&&r.all AV.one)&&Nat.ble (g.length+j.length) 4294967296 then
       (match j with | []=>some (s,mu)|_ :: _=>some (.sl mu.length p 0 (g.length+j.length),mu++[.arr (g++j).flatten])) else none
     | .sl b l 0 len=>match mu[b]? with
      |some (.arr cells)=>if decide (l=p)&&(Nat.ble (len*p) cells.length&&Nat.ble (len+j.length) 4294967296) then
        some (.sl mu.length p 0 (len+j.length),mu.set b .dead++[.arr (cells.take (len*p)++j.flatten)]) else none
      |_=>none
     |_=>none
    else none
   |none=>none
  |_,_=>none
 |_=>none
def appZ(P:qf)(mu:Mu)(j:Array j1)(s x:AV):Option (AV×Mu):=
 match j,s,x with
 | ⟨[t,o]⟩,.lst true g,.sc (.int .i64 (.ofNat n))=>match qz P t,P.underlying o with
  |some (e,p,C),some (.int .i64)=>match qx P e with
   |some l=>if decide (l.cells.length=p)&&(l.cells.all AV.one&&(!decide (p=0)&&(Nat.ble C 16384&&(Nat.ble 1 n&&((g.all fun r=>decide (r.length=p)&&r.all AV.one)&&Nat.ble (g.length+n) 4294967296))))) then
     some (.sl mu.length p 0 (g.length+n),mu++[.arr (g.flatten++(qo (n*p)).map fun i=>l.cells.getD (i % p) .any)]) else none
   |none=>none
  |_,_=>none
 |_,_,_=>none
theorem wfB{sz:Nat}(h:(ys.all fun r=>decide (r.length=sz)&&r.all AV.one)=true):zg sz ys:=fun r g=>by
 grind
theorem qcY{i:Array j1}{s x v:AV}(h:appZ P mu i s x=some (v,m)){K:AV->Mu->Prop}(l:K v m):qA P mu i s x K:=by
 unfold appZ at h;split at h
 .rename_i t o g n
  split at h
  .rename_i e p r C I
   split at h
   .rename_i J R
    split at h
    .rename_i j
     simp only[qq,decide_eq_true_eq,Bool.not_eq_true',decide_eq_false_iff_not]at j;obtain⟨c1,c2,c3,c4,c5,c6,c7⟩:=j;cases h;exact .inr (.inr ⟨t,o,e,p,r,J,n,g,rfl,C,I,R,c1,c2,c3,yi c4,rfl,yi c5,rfl,wfB c6,yi c7,l⟩)
    .cases h
   .cases h
  .cases h
 .cases h
theorem qcZ{l:Array j1}{s x v:AV}(h:appJ P mu l s x=some (v,m)){K:AV->Mu->Prop}(r:K v m):qA P mu l s x K:=by
 unfold appJ at h;split at h
 rotate_left
 .cases h
 rename_i t I;split at h
 rotate_left
 .cases h
 rename_i e p J j R T;split at h
 rotate_left
 .cases h
 rename_i U h3;split at h
 rotate_left
 .cases h
 rename_i C;simp only[qq,decide_eq_true_eq,Bool.not_eq_true',decide_eq_false_iff_not]at C;obtain⟨c1,c2,c3,c4,c5,c6⟩:=C;have c6:=wfB c6;refine .inl ⟨t,I,e,p,J,j,rfl,R,c1,⟨U,h3,c2,c3⟩,c4,yi c5,T,c6,?_⟩;split at h
 .rename_i g
  split at h
  .rename_i i
   rw[qq]at i;refine .inl ⟨g,rfl,wfB i.1,yi i.2,fun e=>?_,fun e=>?_⟩
   .subst e;cases h;exact r
   grind
  .cases h
 .rename_i b a0 len
  split at h
  .rename_i cells o
   split at h
   .rename_i i
    simp only[qq,decide_eq_true_eq]at i;obtain⟨rfl,d2,d3⟩:=i;cases h;exact .inr ⟨b,len,cells,rfl,o,yi d2,yi d3,r⟩
   .cases h
  .cases h
 .cases h
abbrev jB:=AV->List AV->Mu->Option (AV×Mu)
def vS(P:qf)(det:Bool)(C:jB):Prop:=∀ f args I v m,C f args I=some (v,m)->∀ K g:AV->Mu->Prop,K v m->qc P det I f args K g
def UG(mu:Mu)(g:AV):Option (AV×Mu):=
 match g with
 | .ptr b 0=>match mu[b]? with
  |some (.it T seen)=>match (qo T.length).filter (fun i=>!seen.contains i) with
   | []=>some (.tup [.sc (.bool false)],mu)
   | [i]=>match T[i]? with
    |some e=>some (.tup [.sc (.bool true),e.1,e.2],mu.set b (.it T (seen++[i])))
    |none=>none
   |_=>none
  |_=>none
 |_=>none
theorem qc0{g v:AV}(h:UG mu g=some (v,m)){K:AV->Mu->Prop}(l:K v m):Ud mu g K:=by
 unfold UG at h;split at h
 .rename_i b
  split at h
  .rename_i T seen j
   have o:∀ i,i∈(qo T.length).filter (fun i=>!seen.contains i)↔i<T.length/\i ∉ seen:=fun i=>zSp
   refine⟨b,T,seen,rfl,j,?_⟩;split at h
   .grind
   .grind
   .cases h
  .cases h
 .cases h
def UH(P:qf)(mu:Mu)(g:Array j1)(args:List AV):Option (AV×Mu):=
 match g,args with
 | ⟨[t,l]⟩,[.sl b i off len,x]=>match qz P t,mu[b]?,qH mu x with
  |some (e,p,o),some (.arr cells),some j=>if Nat.ble (off+len*p) cells.length&&j.all (fun r=>decide (r.length=p)&&r.all AV.one) then
    some (.sc (.int .i64 ((min j.length len:Nat):Int)),mu.set b (.arr (putCells cells off (j.take len).flatten))) else none
  |_,_,_=>none
 |_,_=>none
theorem qc1{g:Array j1}{args:List AV}{v:AV}(h:UH P mu g args=some (v,m)){K:AV->Mu->Prop}(l:K v m):wK P mu .copy g args K:=by
 unfold UH at h;split at h
 .rename_i t J b o off len x
  split at h
  .rename_i e p R cells j r C I
   split at h
   .rename_i i
    rw[qq]at i;cases h;exact⟨_,_,.copy r C (yi i.1) I (wfB i.2),l⟩
   .cases h
  .cases h
 .cases h
def vT(P:qf)(pl:Pol)(j:Bool)(C:jB)(g:Option Tmp)(op:Op)(ev:uk->AV)(mu:Mu):Option (AV×Mu):=
 match op with
 | .next i str=>if j||str then none else UG mu (ev i)
 | .alloc e=>match qx P e with
  |some z=>if z.cells.all AV.one then some (.ptr mu.length 0,mu++[.arr z.cells]) else none
  |none=>none
 | .box _ x=>if (ev x).cells.all AV.one&&g.any pl.mt.contains then some (.ptr mu.length 0,mu++[.arr (ev x).cells]) else none
 | .store t a x=>(Zv P mu t (ev a) (ev x)).map fun m=>(.sc va,m)
 | .makeSlice t l c=>Ql P mu t (ev l) (ev c)
 | .makeMap _ r=>match r with
  |none=>some (.mp mu.length,mu++[.mp []])
  |some _=>none
 | .mapUpdate t m k v=>(vM P mu t (ev m) (ev k) (ev v)).map fun m=>(.sc va,m)
 | .insert t m k v=>(vM P mu t (ev m) (ev k) (ev v)).map fun m=>(.sc va,m)
 | .mapEntry t m k=>wI P mu t (ev m) (ev k)
 | .entryStore _ m s v=>(Jg mu (ev m) (ev s) (ev v)).map fun m=>(.sc va,m)
 | .range t m=>Jh P mu t (ev m)
 | .call c=>match c.callee with
  | .value f=>C (ev f) (evs ev c.args.toList) mu
  | .builtin b=>match b with
   | .append=>match evs ev c.args.toList with
    | [s,x]=>match appJ P mu c.argTypes s x with
     |some r=>some r
     |none=>appZ P mu c.argTypes s x
    |_=>none
   | .copy=>UH P mu c.argTypes (evs ev c.args.toList)
   |_=>none
  |_=>none
 |_=>none
theorem JI{o:Option Mu}{v:AV}(h:(o.map fun m=>(AV.sc va,m))=some (v,m)):o=some m/\v = .sc va:=by
 simp_all
theorem qc2{det:Bool}{C:jB}(I:vS P det C){p:Option Tmp}{op:Op}{ev:uk->AV}{mu m:Mu}{v:AV}(h:vT P pl det C p op ev mu=some (v,m)):Stps P pl det p op ev mu v m:=by
 intro K J g;cases op with
 |alloc e =>
  simp only[vT]at h;split at h
  .rename_i z R
   split at h
   .rename_i j;cases h;exact⟨z,R,j,g⟩
   .cases h
  .cases h
 |box e x =>
  simp only[vT]at h;split at h
  .rename_i j
   rw[qq]at j;cases h;exact⟨j.1,by rw[if_pos j.2];exact g⟩
  .cases h
 |store t a x =>
  simp only[vT]at h;obtain⟨o,rfl⟩:=JI h;exact⟨m,o,g⟩
 |makeSlice t l c=>exact⟨(v,m),h,g⟩
 |makeMap t r =>
  cases r with
  |none=>cases h;exact⟨rfl,g⟩
  |some r=>cases h
 |mapUpdate t a k w =>
  simp only[vT]at h;obtain⟨o,rfl⟩:=JI h;exact⟨m,o,g⟩
 |insert t a k w =>
  simp only[vT]at h;obtain⟨o,rfl⟩:=JI h;exact⟨m,o,g⟩
 |mapEntry t a k=>exact⟨(v,m),h,g⟩
 |entryStore t a s w =>
  simp only[vT]at h;obtain⟨o,rfl⟩:=JI h;exact⟨m,o,g⟩
 |range t a=>exact⟨(v,m),h,g⟩
 |call c =>
  simp only[vT]at h;simp only[qw];split at h
  .rename_i f hf
   rw[hf];exact I _ _ _ _ _ h K J g
  .grind [qcZ,qcY,qc1]
  .cases h
 |next i str =>
  simp only[vT]at h;split at h
  .cases h
  .rename_i j
   simp only[vF,not_or,Bool.not_eq_true]at j;exact⟨j.1,j.2,qc0 h g⟩
 |_=>cases h
def JK(P:qf)(pl:Pol)(j:Bool)(C:jB)(g:Option Tmp)(op:Op)(ev:uk->AV)(mu:Mu)(k:AV->Mu->Option i):Option i:=
 match jA P pl g op ev mu with
 |some v=>fV v fun v=>k v mu
 |none=>match vT P pl j C g op ev mu with
  |some (v,m)=>fV v fun v=>fM m fun m=>k v m
  |none=>none
theorem K5{det:Bool}{C:jB}(j:vS P det C){g:Option Tmp}{op:Op}{ev:uk->AV}{mu:Mu}{k:AV->Mu->Option i}{r:i}(h:JK P pl det C g op ev mu k=some r) :
  ∃ v m,Stps P pl det g op ev mu v m/\k v m=some r:=by
 grind [JK,fV_eq,K4,UE,qc2]
def ZV(ops:Array wg)(i:List AV)(o:wg):Option Bool:=
 match o.guard with
 |none=>some true
 |some (j,g)=>match (ops[j]?).bind (·.dst) with
  |none=>some false
  |some d=>wL (nthJ i d) g
theorem UI(ops:Array wg)(s:LS)(o:wg):zE ops s.st o=ZV ops s.tm o:=by
 unfold zE ZV;cases o.guard with
 |none=>rfl
 |some q =>
  obtain⟨j,w⟩:=q;simp only;cases (ops[j]?).bind (·.dst) with
  |none=>rfl
  |some d=>simp only[JA];rfl
def regJ(P:qf)(pl:Pol)(i:Bool)(C:jB)(ops:Array wg):List wg->List AV->Mu->Option LS
 | [],g,I=>some ⟨g,I⟩
 |o :: l,g,I=>match ZV ops g o with
  |some true=>JK P pl i C o.dst o.op (evJ g) I fun v m=>putJ g o.dst v fun g=>regJ P pl i C ops l g m
  |some false=>putJ g o.dst (.sc va) fun g=>regJ P pl i C ops l g I
  |none=>none
theorem JL{det:Bool}{C:jB}(i:vS P det C){ops:Array wg}{Q:St->Prop}{t:AV->St->Prop}:∀{l:List wg} {s s':LS},regJ P pl det C ops l s.tm s.mu=some s'->Q s'.st->awpS P pl det ops l Q t s.st
 | [],s,s',h,g=>by
  cases h;exact g
 |o :: l,s,s',h,g=>by
  unfold regJ at h;unfold awpS;rw[UI];split at h
  .rename_i j
   obtain⟨v,m,I,J⟩:=K5 i h;refine⟨true,j,fun _=>?_,fun e=>by cases e⟩;rw[Qt];refine I _ _ ?_;obtain⟨R,p,_,r⟩:=JD (m:=m) J;rw[r];exact JL i p g
  .rename_i j
   refine⟨false,j,fun e=>by(cases e),fun _=>?_⟩;obtain⟨R,p,_,r⟩:=JD (m:=s.mu) h;have:s.st.mu=s.mu:=rfl;rw[this,r];exact JL i p g
  .cases h
def eqSc:j3->j3->Bool
 | .bool a,.bool b=>a == b
 | .int k a,.int g b=>decide (k=g)&&decide (a=b)
 | .string a,.string b=>decide (a=b)
 | .pointer none,.pointer none=>true
 | .nilIface,.nilIface=>true
 | .nilFunc,.nilFunc=>true
 | .map none,.map none=>true
 |_,_=>false
theorem qc3{a b:j3}(h:eqSc a b=true):a=b:=by
 unfold eqSc at h;split at h
 .rw [beq_iff_eq]at h;rw[h]
 .grind
 .rw [decide_eq_true_eq]at h;rw[h]
 all_goals first|rfl|cases h
def eqLi(e:C->C->Bool):List C->List C->Bool
 | [],[]=>true
 |a :: l,b :: m=>e a b&&eqLi e l m
 |_,_=>false
theorem uC{e:C->C->Bool}(g:∀ a b,e a b=true->a=b):∀{l m:List C},eqLi e l m=true->l=m
 | [],[],_=>rfl
 |a :: l,b :: m,h=>by
  rw[eqLi,qq]at h;rw[g _ _ h.1,uC g h.2]
 | [],_ :: _,h=>by cases h
 |_ :: _,[],h=>by cases h
def eqV:Nat->AV->AV->Bool
 | 0,_,_=>false
 |n+1,x,y=>match x,y with
  | .sc a,.sc b=>eqSc a b
  | .sl a b c d,.sl i l o r=>decide (a=i)&&(decide (b=l)&&(decide (c=o)&&decide (d=r)))
  | .ptr a b,.ptr i l=>decide (a=i)&&decide (b=l)
  | .mp a,.mp b=>decide (a=b)
  | .lst f g,.lst t j=>f == t&&eqLi (eqLi (eqV n)) g j
  | .agg a,.agg b=>eqLi (eqV n) a b
  | .tup a,.tup b=>eqLi (eqV n) a b
  | .ip a,.ip b=>eqLi (eqV n) a b
  | .im a,.im b=>eqLi (fun p q=>eqV n p.1 q.1&&eqV n p.2 q.2) a b
  |_,_=>false
theorem Qu:∀{n:Nat} {x y:AV},eqV n x y=true->x=y
 | 0,_,_,h=>by cases h
 |n+1,x,y,h=>by
  have g:∀ a b,eqV n a b=true->a=b:=fun a b h=>Qu h
  unfold eqV at h;split at h
  .rw [qc3 h]
  .grind
  .grind
  .rw [decide_eq_true_eq]at h;rw[h]
  .rw [qq,beq_iff_eq]at h;grind [uC]
  .rw [uC g h]
  .rw [uC g h]
  .rw [uC g h]
  .rw [uC (fun p q h=>by grind) h]
  .cases h
def allJ(p:C->Bool):List C->Bool
 | []=>true
 |a :: l=>p a&&allJ p l
theorem jX{p:C->Bool}:∀{l:List C},allJ p l=true->∀ a,a∈l->p a=true
 | [],_,a,g=>by cases g
 |b :: l,h,a,g=>by
  rw[allJ,qq]at h;rcases qu.1 g with rfl|g
  .exact h.1
  .exact jX h.2 a g
def hfB:Nat->AV->Bool
 | 0,_=>false
 |n+1,x=>match x with
  | .any | .sc _=>true
  | .lst _ g=>allJ (allJ (hfB n)) g
  | .agg i | .tup i | .ip i=>allJ (hfB n) i
  | .im T=>allJ (fun p=>hfB n p.1&&hfB n p.2) T
  | .fn _ a b=>allJ (hfB n) a&&allJ (hfB n) b
  | .ifc _ v=>hfB n v
  |_=>false
theorem jY:∀{n:Nat} {x:AV},hfB n x=true->HF x
 | 0,_,h=>by cases h
 |n+1,x,h=>by
  have g:∀ l:List AV,allJ (hfB n) l=true->∀ c,c∈l->HF c:=fun l h c i=>jY (jX h c i)
  unfold hfB at h;split at h
  .exact HF.any
  .exact HF.sc _
  .grind [HF.lst,jX]
  .exact HF.agg (g _ h)
  .exact HF.tup (g _ h)
  .exact HF.ip (g _ h)
  .exact HF.im fun p j=>by
    have:=jX h p j;rw[qq]at this;exact⟨jY this.1,jY this.2⟩
  .rw [qq]at h
   exact HF.fn (g _ h.1) (g _ h.2)
  .exact HF.ifc (jY h)
  .cases h
def flB:Nat->AV->Bool
 | 0,_=>false
 |n+1,x=>match x with
  | .sc _=>true
  | .agg g | .tup g=>allJ (flB n) g
  | .ifc _ v=>flB n v
  |_=>false
theorem UJ:∀{n:Nat} {x:AV},flB n x=true->FL x
 | 0,_,h=>by cases h
 |n+1,x,h=>by
  have g:∀ l:List AV,allJ (flB n) l=true->∀ c,c∈l->FL c:=fun l h c i=>UJ (jX h c i)
  unfold flB at h;split at h
  .exact FL.sc _
  .exact FL.agg (g _ h)
  .exact FL.tup (g _ h)
  .exact FL.ifc (UJ h)
  .cases h
def mapJ(f:C->Option g):List C->Option (List g)
 | []=>some []
 |a :: l=>match f a with
  |some b=>match mapJ f l with
   |some m=>some (b :: m)
   |none=>none
  |none=>none
theorem wR{f:C->Option g}:∀{l:List C} {m:List g},mapJ f l=some m->m.length=l.length/\∀(k:Nat) x y,l[k]?=some x->m[k]?=some y->f x=some y
 | [],m,h=>by cases h;grind
 |a :: l,m,h=>by
  unfold mapJ at h;split at h
  .rename_i b j
   split at h
   .rename_i o i
    cases h;obtain⟨p,r⟩:=wR i
    grind
   .cases h
  .cases h
theorem UK{f:AV->Option AV}{xs:List (List AV)}(h:mapJ (mapJ f) xs=some ys):(∀(k:Nat) x y,xs[k]?=some x->ys[k]?=some y->x.length=y.length)/\∀(k:Nat) x y,xs.flatten[k]?=some x->ys.flatten[k]?=some y->f x=some y:=by
 induction xs generalizing ys with
 |nil=>grind
 |cons a l g =>
  unfold mapJ at h;split at h
  .rename_i b i
   split at h
   .rename_i m j
    cases h;obtain⟨o,p⟩:=g j;obtain⟨g1,r⟩:=wR i
    grind
   .cases h
  .cases h
def vU(sz:Nat):Nat->List AV->List (List AV)
 | 0,_=>[]
 |n+1,l=>l.take sz :: vU sz n (l.drop sz)
theorem K6(sz:Nat):∀(n:Nat) (l:List AV),n*sz<=l.length->(vU sz n l).length=n/\(∀ r,r∈vU sz n l->r.length=sz)/\(vU sz n l).flatten=l.take (n*sz)
 | 0,l,_=>⟨rfl,(fun r g=>by cases g),by simp[vU]⟩
 |n+1,l,h=>by
  have e:(n+1)*sz=sz+n*sz:=by rw[Nat.succ_mul,Nat.add_comm]
  rw[e]at h⊢;obtain⟨i,j,o⟩:=K6 sz n (l.drop sz) zSo;refine⟨by simp[vU,i],fun r g=>?_,?_⟩
  .rcases qu.1 g with rfl|g
   .simp;omega
   .exact j r g
  grind [vU,un]
def rdV(mu:Mu):Nat->AV->Option AV
 | 0,_=>none
 |n+1,x=>if hfB 64 x then some x else match x with
  | .sl b j off len=>match mu[b]? with
   |some (.arr cells)=>if Nat.ble (off+len*j) cells.length then (mapJ (mapJ (rdV mu n)) (vU j len (cells.drop off))).map (.lst false) else none
   |_=>none
  | .ptr b off=>match mu[b]? with
   |some (.arr cells)=>if Nat.ble off cells.length then (mapJ (rdV mu n) (cells.drop off)).map .ip else none
   |_=>none
  | .agg i=>(mapJ (rdV mu n) i).map .agg
  | .tup i=>(mapJ (rdV mu n) i).map .tup
  | .lst f g=>(mapJ (mapJ (rdV mu n)) g).map (.lst f)
  | .fn f a c=>match mapJ (rdV mu n) a,mapJ (rdV mu n) c with
   |some a,some c=>some (.fn f a c)
   |_,_=>none
  | .mp b=>match mu[b]? with
   |some (.mp T)=>(mapJ (fun p=>match rdV mu n p.1,rdV mu n p.2 with|some x,some y=>some (x,y)|_,_=>none) T).map .im
   |_=>none
  | .ifc t v=>(rdV mu n v).map (.ifc t)
  |_=>none
theorem UL:∀{n:Nat} {x y:AV},rdV mu n x=some y->Rd mu x y
 | 0,_,_,h=>by cases h
 |n+1,x,y,h=>by
  have R:∀ a b,rdV mu n a=some b->Rd mu a b:=fun a b h=>UL h
  have C:∀{l m:List AV},mapJ (rdV mu n) l=some m->m.length=l.length/\∀(k:Nat) x y,l[k]?=some x->m[k]?=some y->Rd mu x y:=fun h=>⟨(wR h).1,fun k x y t o=>R _ _ ((wR h).2 k x y t o)⟩
  unfold rdV at h;by_cases U:hfB 64 x=true
  .rw [if_pos U]at h
   cases h;exact .hf _ (jY U)
  rw[if_neg U]at h;clear U;split at h
  .rename_i b p off len
   split at h
   .rename_i cells I
    split at h
    .rename_i P
     have P:=yi P;rw[yQ]at h;obtain⟨j,o,rfl⟩:=h;obtain⟨c1,c2,c3⟩:=K6 p len (cells.drop off) zSo;obtain⟨r1,r2⟩:=UK o;have J:=(wR o).1;refine .sl b p off len cells j I P (by rw[J,c1]) (fun r hr=>?_) fun k x y t i=>?_
     .obtain ⟨k,hk,rfl⟩:=uY hr
      have a0:k<(vU p len (cells.drop off)).length:=zOm;have:=r1 k _ _ (qv a0) (qv hk)
      grind
     .refine R _ _ (r2 k x y ?_ i)
      have a1:=X7 (xs:=vU p len (cells.drop off)) (ys:=j) J r1
      grind
    .cases h
   .cases h
  .rename_i b off
   split at h
   .rename_i cells I
    split at h
    .rename_i P
     have P:=yi P;rw[yQ]at h;obtain⟨j,o,rfl⟩:=h;obtain⟨h1,h2⟩:=C o;refine .ptr b off cells j I (by simp at h1;omega) fun k x y t i=>h2 k x y (by rw[y7];exact t) i
    .cases h
   .cases h
  .rw [yQ]at h
   obtain⟨j,o,rfl⟩:=h;exact .agg _ _ (C o).1 (C o).2
  .rw [yQ]at h
   obtain⟨j,o,rfl⟩:=h;exact .tup _ _ (C o).1 (C o).2
  .rw [yQ]at h
   obtain⟨j,o,rfl⟩:=h;exact .lst _ _ _ (wR o).1 (UK o).1 fun k x y t i=>R _ _ ((UK o).2 k x y t i)
  .split at h
   .rename_i a c ha I
    cases h;exact .fn _ _ _ _ _ (C ha).1 (C I).1 (C ha).2 (C I).2
   .cases h
  .split at h
   .rename_i T I
    rw[yQ]at h;obtain⟨fs,o,rfl⟩:=h;obtain⟨h1,h2⟩:=wR o;have h3:∀(k:Nat) x y,T[k]?=some x->fs[k]?=some y->Rd mu x.1 y.1/\Rd mu x.2 y.2:=fun k x y t i=>by
     grind
    exact .mp _ T fs I h1 (fun k x y t i=>(h3 k x y t i).1) fun k x y t i=>(h3 k x y t i).2
   .cases h
  .rw [yQ]at h
   obtain⟨j,o,rfl⟩:=h;exact .ifc _ _ _ (R _ _ o)
  .cases h
abbrev FunJ:=us->List AV->Mu->Option (AV×Mu)
variable {F:FunJ}
def ZW(P:qf)(F:FunJ):Prop:=∀ f args I v m,F f args I=some (v,m)->qL P f args I fun e l=>e = .ret v/\l=m
def seqC(F:FunJ):jB:=fun f args I=>match f with
 | .fn (.func g) first i=>F g (first++args++i) I
 |_=>none
theorem qc4{l:List AV}(h:allJ (hfB 64) l=true):WKs l l:=by
 induction l with
 |nil=>trivial
 |cons a l g =>
  rw[allJ,qq]at h;exact⟨.hf (jY h.1),g h.2⟩
theorem qc5(j:ZW P F):vS P false (seqC F):=by
 intro f args I v m h K p t;unfold seqC at h;split at h
 .rename_i g first i
  refine .inr ⟨rfl,.inl ⟨g,first,i,_,rfl,j _ _ _ _ _ h,fun r l o=>?_,fun r l o=>?_⟩⟩
  .grind
  grind
 .cases h
def detC(F:FunJ):jB:=fun f args I=>match f with
 | .fn (.func g) first i=>if allJ (hfB 64) (first++args++i) then
   match F g (first++args++i) [] with
   |some (v,m)=>match rdV m 64 v with
    |some w=>some (w,I)
    |none=>none
   |none=>none
  else match mapJ (rdV I 64) (first++args++i) with
   |some l=>match F g l [] with
    |some (v,m)=>match rdV m 64 v with
     |some w=>if flB 64 w then some (w,I) else none
     |none=>none
    |none=>none
   |none=>none
 |_=>none
theorem K7:∀{l m:List AV},mapJ (rdV mu 64) l=some m->Rds mu l m
 | [],m,h=>by cases h;trivial
 |a :: l,m,h=>by
  unfold mapJ at h;split at h
  .rename_i b g
   split at h
   .rename_i j i
    cases h;exact⟨UL g,K7 i⟩
   .cases h
  .cases h
theorem sndP(g:ZW P F){f:us}{args:List AV}{v w:AV}{m:Mu}(h:F f args []=some (v,m))(C:rdV m 64 v=some w):qd P f args w:=by
 refine qd.of_sound ?_;obtain⟨i,j⟩:=g _ _ _ _ _ h;refine⟨i,fun G o p s r=>(j G o p s r).mono fun e I ⟨t,l,st,J⟩=>⟨t,l,st,?_⟩⟩
 grind [UL]
theorem qc6(p:ZW P F):vS P true (detC F):=by
 intro f args I v m h K T r;unfold detC at h;split at h
 .rename_i g first i
  split at h
  .rename_i t
   split at h
   .rename_i C J j
    split at h
    .rename_i w o
     cases h;exact .inl ⟨_,.inl ⟨g,first,i,_,rfl,sndP p j o,.inl (qc4 t)⟩,r⟩
    .cases h
   .cases h
  .split at h
   .rename_i l R
    split at h
    .rename_i C J j
     split at h
     .rename_i w o
      split at h
      .rename_i hf
       cases h;exact .inl ⟨_,.inl ⟨g,first,i,_,rfl,sndP p j o,.inr ⟨K7 R,UJ hf⟩⟩,r⟩
      .cases h
     .cases h
    .cases h
   .cases h
 .cases h
def noC:jB:=fun _ _ _=>none
theorem qc7{det:Bool}:vS P det noC:=fun _ _ _ _ _ h=>by cases h
def JM(P:qf)(pl:Pol)(ops:Array wg)(g:List AV)(mu:Mu):List Nat->Bool
 | []=>true
 |p :: l=>(match ops[p]? with
  |some o=>match ZV ops g o with
   |some true=>match o.dst with
    |some d=>match jA P pl o.dst o.op (evJ g) mu with
     |some v=>eqV 64 v (nthJ g d)
     |none=>false
    |none=>false
   |some false=>true
   |none=>false
  |none=>true)&&JM P pl ops g mu l
theorem K8{s:LS}:∀{l:List Nat},JM P pl ops s.tm s.mu l=true->jV P pl ops l s.st
 | [],_=>trivial
 |p :: l,h=>by
  unfold JM at h;rw[qq]at h;refine⟨?_,K8 h.2⟩;have g:=h.1;split at g
  .rename_i o j
   rw[j];simp only;rw[UI];split at g
   .rename_i i
    refine⟨true,i,fun _=>?_,fun e=>by cases e⟩;split at g
    .rename_i d r
     split at g
     .rename_i v t
      show wP P pl o s.st;unfold wP;rw[Qt];refine K4 t _ _ ?_;rw[r];refine⟨?_,rfl⟩;rw[Qu g,JA];rfl
     .cases g
    .cases g
   .rename_i i
    exact⟨false,i,fun e=>by(cases e),fun _=>trivial⟩
   .cases g
  grind
def newJ(P:qf)(ops:Array wg):List (Nat×Nat×List Nat)->Bool
 | []=>true
 | (j,k,_) :: T=>(match k,ops[j]? with
  | 2,some o=>(match o.op with
   | .alloc e=>match qx P e with
    |some z=>z.cells.all AV.one
    |none=>false
   |_=>false)
  |_,_=>true)&&newJ P ops T
theorem K9:∀{T:List (Nat×Nat×List Nat)},newJ P ops T=true->vQ P ops T
 | [],_=>trivial
 | (j,k,r) :: T,h=>by
  unfold newJ at h;rw[qq]at h;refine⟨?_,K9 h.2⟩;have g:=h.1;by_cases l:k=2
  .subst l
   cases p:ops[j]? with
   |none=>trivial
   |some o =>
    rw[p]at g;simp only at g⊢;cases i:o.op<;>rw[i]at g<;>simp only at g⊢<;>try (cases g;done)
    split at g
    .rename_i z t;exact⟨z,t,g⟩
    .cases g
  grind
def segJ(P:qf)(pl:Pol)(C:jB)(ops:Array wg):List (Nat×Nat×List Nat)->List AV->Mu->Option LS
 | [],g,I=>some ⟨g,I⟩
 | (j,k,r) :: T,g,I=>match ops[j]? with
  |none=>none
  |some o=>match ZV ops g o with
   |some true=>JK P pl (k != 1) (if k=1 then C else noC) o.dst o.op (evJ g) I fun v m=>putJ g o.dst v fun g=>if JM P pl ops g m r then segJ P pl C ops T g m else none
   |some false=>putJ g o.dst (.sc va) fun g=>segJ P pl C ops T g I
   |none=>none
theorem UM{C:jB}(l:vS P false C){ops:Array wg}{Q:St->Prop}{J:AV->St->Prop}:∀{T:List (Nat×Nat×List Nat)} {s s':LS},segJ P pl C ops T s.tm s.mu=some s'->Q s'.st->awpT P pl ops Q J T s.st
 | [],s,s',h,i=>by cases h;exact i
 | (j,k,r) :: T,s,s',h,i=>by
  unfold segJ at h;unfold awpT;split at h
  .cases h
  .rename_i o R
   rw[R];simp only;have U:vS P (k != 1) (if k=1 then C else noC):=by
    by_cases e:k=1
    .subst e;exact l
    .rw [if_neg e];exact qc7
   rw[UI];split at h
   .rename_i p
    obtain⟨v,m,h1,h2⟩:=K5 U h;refine⟨true,p,fun _=>?_,fun e=>by cases e⟩;rw[Qt];refine h1 _ _ ?_;obtain⟨I,g,_,t⟩:=JD (m:=m) h2;rw[t];split at g
    .rename_i hr
     exact⟨K8 (s:=⟨I,m⟩) hr,UM l g i⟩
    .cases g
   .rename_i p
    refine⟨false,p,fun e=>by(cases e),fun _=>?_⟩;obtain⟨I,g,_,t⟩:=JD (m:=s.mu) h;have:s.st.mu=s.mu:=rfl;rw[this,t];exact UM l g i
   .cases h
def wS(pl:Pol)(ops:Array wg):Nat->List Nat->List Nat
 | 0,pre=>pre
 |f+1,pre =>
  let g:=(qo ops.size).filter fun i=>!pre.contains i
  let l (j:Nat):Bool:=(qo ops.size).all fun i=>match zr ops i with|some d=>!yJ ops j d||pre.contains i|none=>true
  let o (j:Nat):Bool:=pre.all fun i=>ze pl ops i == 0||(zN ops j).testBit i
  match g.find? fun j=>ze pl ops j == 0&&(l j&&o j) with
  |some j=>wS pl ops f (pre++[j])
  |none=>match g.find? fun j=>ze pl ops j == 1&&(l j&&o j) with
   |some j=>if (g.filter fun k=>ze pl ops k == 2&&(zN ops j).testBit k).isEmpty then wS pl ops f (pre++[j]) else
    match g.find? fun k=>ze pl ops k == 2&&(zN ops j).testBit k with
    |some k=>wS pl ops f (pre++[k])
    |none=>pre
   |none=>match g.find? fun j=>ze pl ops j == 2 with
    |some j=>wS pl ops f (pre++[j])
    |none=>pre
def UN(P:qf)(pl:Pol)(C D:jB)(ops:Array wg)(g:List AV)(mu:Mu):Option LS:=
 match (if Qq pl ops then regJ P pl true D ops ops.toList g mu else none) with
 |some s=>some s
 |none=>if ZQ pl ops (wS pl ops (ops.size+1) [])&&newJ P ops (plan pl ops [] (wS pl ops (ops.size+1) [])) then segJ P pl C ops (plan pl ops [] (wS pl ops (ops.size+1) [])) g mu else none
theorem qc8{C D:jB}(l:vS P false C)(o:vS P true D){ops:Array wg}{Q:St->Prop}{p:AV->St->Prop}{s s':LS}(h:UN P pl C D ops s.tm s.mu=some s')(j:Q s'.st):Jw P pl ops Q p s.st:=by
 unfold UN at h;split at h
 .rename_i s1 i
  cases h;split at i
  .rename_i g
   exact .inl (.inl ⟨g,JL o i j⟩)
  .cases i
 .split at h
  .rename_i g
   rw[qq]at g;exact .inr ⟨_,g.1,K9 g.2,UM l h j⟩
  .cases h
abbrev jc:=FunJ->List AV->Mu->Option (AV×Mu)
structure EnvJ where
 S:us->Option jc
 N:us->List AV->Bool
 pol:us->List Nat
 cal:us->Bool
def jm(P:qf)(f:us)(h:jc):Prop:=∀ F,ZW P F->∀ args I v m,h F args I=some (v,m)->qL P f args I fun e l=>e = .ret v/\l=m
def qW(P:qf)(E:EnvJ):Prop:=(∀ f h,E.S f=some h->jm P f h)/\(∀ f,E.cal f=true->yd P f)/\∀ f g,E.N f g=true->Uy P f g []
def nV:Nat->AV->AV
 | 0,x=>x
 |n+1,x=>match x with
  | .lst _ g => .lst false (g.map (List.map (nV n)))
  | .agg i => .agg (i.map (nV n))
  | .tup i => .tup (i.map (nV n))
  | .ip i => .ip (i.map (nV n))
  |x=>x
theorem UO:∀(m k:Nat) (x:AV),hfB k x=true->WK x (nV m x)
 | 0,k,x,h => .hf (jY h)
 |m+1,0,x,h=>by cases h
 |m+1,k+1,x,h=>by
  have ih:∀ c,hfB k c=true->WK c (nV m c):=fun c l=>UO m k c l
  have hx:=jY h;have key:∀(j:List AV),(∀ c,c∈j->hfB k c=true)->∀(i:Nat) y,(j.map (nV m))[i]?=some y->∃ c,j[i]?=some c/\WK c y:=fun j l i y o=>by
   grind
  unfold hfB at h;intro G J v r;unfold nV;cases x with
  |lst f g =>
   simp only at h⊢;have P:∀ c,c∈g.flatten->hfB k c=true:=fun c l=>by
    grind [VT,jX]
   cases r with
   |nil=>exact .nil _
   |emp _ a cap l=>exact .emp false a cap zSp
   |lst _ _ p a cap j e R rd T U hl l hi hz hr t =>
    have a0:(g.map (List.map (nV m))).flatten=g.flatten.map (nV m):=(List.map_flatten ..).symm;have:=VRel.lst (G:=⟨G.imm,[]⟩) (h:=J) false (g.map (List.map (nV m))) p a cap j e R rd T U (zUs hl) zSp hi (fun q hq=>by
     grind) (fun i y o=>by
     grind) (fun i y o=>by
     rw[a0]at o;obtain⟨c,C,I⟩:=key _ P i y o;exact I G J _ (t i c C))
    grind
  |agg j =>
   simp only at h⊢;cases r with
   |agg _ vs hn t =>
    refine .agg _ _ (zUs hn) fun i y o=>?_
    obtain⟨c,C,I⟩:=key j (fun c l=>jX h c l) i y o;exact I G J _ (t i c C)
  |tup j =>
   simp only at h⊢;cases r with
   |tup _ vs hn t =>
    refine .tup _ _ (zUs hn) fun i y o=>?_
    obtain⟨c,C,I⟩:=key j (fun c l=>jX h c l) i y o;exact I G J _ (t i c C)
  |ip j =>
   simp only at h⊢;cases r with
   |ip _ a arr e R rd T U hi hr t =>
    refine .ip _ a arr e R rd T U hi (fun i y o=>?_) fun i y o=>?_
    .grind
    .obtain ⟨c,C,I⟩:=key j (fun c l=>jX h c l) i y o
     exact I G J _ (t i c C)
  |_=>exact hx G J v r
theorem kc:∀{l:List AV},allJ (hfB 64) l=true->WKs l (l.map (nV 64))
 | [],_=>trivial
 |a :: l,h=>by
  rw[allJ,qq]at h;exact⟨UO 64 64 a h.1,kc h.2⟩
def jZ(X:List AV->Option AV):jc:=fun _ args I=>if allJ (hfB 64) args then
  match X (args.map (nV 64)) with
  |some v=>some (v,I)
  |none=>none
 else none
theorem ZX{f:us}{X:List AV->Option AV}(h:∀ args v,X args=some v->qd P f args v):jm P f (jZ X):=by
 intro F l args I v m g;unfold jZ at g;split at g
 .rename_i i
  split at g
  .rename_i w j
   cases g;exact(h _ _ j).toSound I (kc i)
  .cases g
 .cases g
def tabX:List (List AV×AV)->List AV->Option AV
 | [],_=>none
 |p :: l,args=>if eqLi (eqV 64) (p.1.map (nV 64)) args then some p.2 else tabX l args
theorem ZY{f:us}:∀{l:List (List AV×AV)},(∀ p,p∈l->qd P f (p.1.map (nV 64)) p.2)->∀ args v,tabX l args=some v->qd P f args v
 | [],_,_,_,h=>by cases h
 |p :: l,g,args,v,h=>by
  unfold tabX at h;split at h
  .grind [uC,Qu,qR]
  .exact ZY (fun q i=>g q (qK _ i)) args v h
structure RT where
 c:Pol->vn->List AV->Mu->Option (qM×LS)
 f:FunJ
def uD(P:qf)(E:EnvJ)(R:RT)(pl:Pol)(c:vn)(j:List AV)(mu:Mu):Option (qM×LS):=
 match c with
 | .skip=>some (.normal,⟨j,mu⟩)
 | .label _=>some (.normal,⟨j,mu⟩)
 | .region _ l o=>match (match o with
   |false=>regJ P pl false (seqC R.f) l l.toList j mu
   |true=>UN P pl (seqC R.f) (detC R.f) l j mu) with
  |some s=>some (.normal,s)
  |none=>none
 | .seq a b=>match R.c pl a j mu with
  |some (.normal,s)=>R.c pl b s.tm s.mu
  |r=>r
 | .cond c a b=>match evJ j c with
  | .sc (.bool true)=>R.c pl a j mu
  | .sc (.bool false)=>R.c pl b j mu
  |_=>none
 | .block id b=>match R.c pl b j mu with
  |some (.exit i,s)=>if i=id then some (.normal,s) else some (.exit i,s)
  |r=>r
 | .loop b=>match R.c pl b j mu with
  |some (.normal,s)=>R.c pl (.loop b) s.tm s.mu
  |r=>r
 | .exit id=>some (.exit id,⟨j,mu⟩)
 | .ret=>some (.ret,⟨j,mu⟩)
 | .scope b=>R.c pl b j mu
 | .rangeFunc g _ _ _=>match evJ j g with
  | .fn (.func t) [] p=>if E.N t p then fM (mu++[.dead]) fun mu=>some (.normal,⟨j,mu⟩) else none
  |_=>none
 |_=>none
def funJ(P:qf)(E:EnvJ)(R:RT):FunJ:=fun f args I=>match E.S f with
 |some h=>h R.f args I
 |none=>match P.funcs[f]? with
  |some fn=>match fn.body with
   |some c=>if E.cal f&&(Nat.ble args.length fn.ntmps&&dOkC fn.ntmps c) then
     match R.c ⟨E.pol f⟩ c (args++zp (fn.ntmps-args.length) (.sc va)) I with
     |some (.normal,s)=>match yU P s.st fn.results.toList with
      |some r=>some (r,s.mu)
      |none=>none
     |some (.ret,s)=>match yU P s.st fn.results.toList with
      |some r=>some (r,s.mu)
      |none=>none
     |_=>none
    else none
   |none=>none
  |none=>none
def runJ(P:qf)(E:EnvJ):Nat->RT
 | 0=>⟨fun _ _ _ _=>none,fun _ _ _=>none⟩
 |n+1=>⟨uD P E (runJ P E n),funJ P E (runJ P E n)⟩
def qc9(P:qf)(R:RT):Prop:=∀ U c g I e i,R.c U c g I=some (e,i)->∀ Q:qM->St->Prop,Q e i.st->awp P U c Q (LS.st ⟨g,I⟩)
theorem qdA(args:List AV)(k:Nat)(mu:Mu):LS.st ⟨args++zp k (.sc va),mu⟩=st0 args mu:=by
 grind [LS.st,st0,qI,qT,yC]
theorem JN{E:EnvJ}(hE:qW P E):∀ N n,n<=N->qc9 P (runJ P E n)/\ZW P (runJ P E n).f
 | 0,n,hn=>by
  obtain rfl:n=0:=zOm;exact⟨(fun _ _ _ _ _ _ h=>by cases h),(fun _ _ _ _ _ h=>by cases h)⟩
 | N+1,n,hn=>by
  by_cases h0:n<=N
  .exact JN hE N n h0
  obtain rfl:n=N+1:=zOm;obtain⟨j,T⟩:=JN hE N N (qn _);have hS:=qc5 T;have hD:=qc6 T;refine⟨?_,?_⟩
  .intro U c tm I e s' h Q o
   change uD P E (runJ P E N) U c tm I=some (e,s') at h;cases c with
   |skip=>cases h;exact o
   |label l=>cases h;exact o
   |exit id=>cases h;exact o
   |ret=>cases h;exact o
   |region id R a0 =>
    simp only[uD]at h;cases a0 with
    |false =>
     simp only at h;split at h
     .rename_i s p
      cases h;exact .inl ⟨rfl,JL (s:=⟨tm,I⟩) hS p o⟩
     .cases h
    |true =>
     simp only at h;split at h
     .rename_i s p
      cases h;exact .inr ⟨rfl,_,.refl _,qc8 (s:=⟨tm,I⟩) hS hD p o⟩
     .cases h
   |seq a b =>
    simp only[uD]at h;split at h
    .rename_i s p
     exact j _ _ _ _ _ _ p _ (j _ _ _ _ _ _ h _ o)
    .rename_i t
     refine j _ _ _ _ _ _ h _ ?_;cases e with
     |normal=>exact absurd h (t s')
     |_=>exact o
   |cond c a b =>
    simp only[uD]at h;split at h
    .rename_i hc
     exact⟨true,by rw[Qt];exact hc,(fun _=>j _ _ _ _ _ _ h _ o),(fun e=>by cases e)⟩
    .rename_i hc
     exact⟨false,by rw[Qt];exact hc,(fun e=>by cases e),(fun _=>j _ _ _ _ _ _ h _ o)⟩
    .cases h
   |block id b =>
    simp only[uD]at h;split at h
    .rename_i i s p
     refine j _ _ _ _ _ _ p _ ?_;show if i=id then _ else _
     grind
    .rename_i t
     refine j _ _ _ _ _ _ h _ ?_;cases e with
     |exit i=>exact absurd h (t i s')
     |_=>exact o
   |loop b =>
    refine⟨false,fun k st=>k<=N+1/\∃ tm I,st=LS.st ⟨tm,I⟩/\(runJ P E k).c U (.loop b) tm I=some (e,s'),N+1,_,.refl _,⟨qn _,tm,I,rfl,h⟩,?_⟩;rintro k st ⟨hk,a1,a2,rfl,h1⟩;cases k with
    |zero=>cases h1
    |succ k =>
     obtain⟨ic,_⟩:=JN hE N k zOm;change uD P E (runJ P E k) U (.loop b) a1 a2=some (e,s') at h1;simp only[uD]at h1;split at h1
     .rename_i s p
      exact ic _ _ _ _ _ _ p _ ⟨k,zOm,zOm,s.tm,s.mu,rfl,h1⟩
     .rename_i t
      refine ic _ _ _ _ _ _ h1 _ ?_;cases e with
      |normal=>exact absurd h1 (t s')
      |_=>exact o
   |scope b=>exact j _ _ _ _ _ _ h _ o
   |rangeFunc g ps a5 a4 =>
    simp only[uD]at h;split at h
    .rename_i gf J hg
     split at h
     .rename_i hN
      rw[UE]at h;cases h;refine⟨false,gf,J,[],fun _ m=>m=I++[.dead],fun _ _=>False,by rw[Qt];exact hg,.inr (hE.2.2 gf J hN),rfl,fun k x m hx=>by simp at hx,fun m hm=>?_,fun _ _ hf=>hf.elim⟩;subst hm;exact o
     .cases h
    .cases h
   |_=>cases h
  .intro f args I v m h
   change funJ P E (runJ P E N) f args I=some (v,m) at h;unfold funJ at h;split at h
   .rename_i hk hh
    exact hE.1 f hk hh _ T _ _ _ _ h
   split at h
   .rename_i fn a3
    split at h
    .rename_i c hc
     split at h
     .rename_i C
      simp only[qq]at C;refine qL.of_awp (hE.2.1 f C.1) a3 hc (yi C.2.1) C.2.2 (pl:=⟨E.pol f⟩) ?_;rw[<-qdA args (fn.ntmps-args.length) I];split at h
      .rename_i s p
       refine j _ _ _ _ _ _ p _ ?_;split at h
       .rename_i r hr;cases h;exact⟨_,hr,rfl,rfl⟩
       .cases h
      .rename_i s p
       refine j _ _ _ _ _ _ p _ ?_;split at h
       .rename_i r hr;cases h;exact⟨_,hr,rfl,rfl⟩
       .cases h
      .cases h
     .cases h
    .cases h
   .cases h
def ZZ(P:qf)(E:EnvJ)(n:Nat)(f:us)(args:List AV):Option AV:=match (runJ P E n).f f args [] with
 |some (v,m)=>rdV m 64 v
 |none=>none
theorem UP{E:EnvJ}(g:qW P E){n:Nat}{f:us}{args:List AV}{v:AV}(h:ZZ P E n f args=some v):qd P f args v:=by
 unfold ZZ at h;split at h
 .rename_i w m i
  exact sndP (JN g n n (qn _)).2 i h
 .cases h
end
end Go.Ev
namespace Go.Proofs.YtahmfpfdgiemoaaGreatDoor
open Go Go.Ev Go.Proofs Tryz
namespace Ty
@[go_sem] theorem sz3:szOf qb 3=some 1:=eqS zKr
@[go_sem] theorem ag3:qV qb 3=some false:=eqS zKr
@[go_sem] theorem ze3:qx qb 3=some (.sc (.int .i64 0)):=eqS zKr
@[go_sem] theorem sz4:szOf qb 4=some 1:=eqS zKr
@[go_sem] theorem ag4:qV qb 4=some false:=eqS zKr
@[go_sem] theorem ze4:qx qb 4=some (.sc (.bool false)):=eqS zKr
@[go_sem] theorem bo4:VX qb 4=true:=eqS zKr
@[go_sem] theorem sz5:szOf qb 5=some 1:=eqS zKr
@[go_sem] theorem ag5:qV qb 5=some false:=eqS zKr
@[go_sem] theorem ze5:qx qb 5=some (.sc (.int .u8 0)):=eqS zKr
@[go_sem] theorem sz9:szOf qb 9=some 1:=eqS zKr
@[go_sem] theorem ag9:qV qb 9=some false:=eqS zKr
@[go_sem] theorem ze9:qx qb 9=some (.sc (.string ⟨#[]⟩)):=eqS zKr
@[go_sem] theorem ay20:VY qb 20=true:=eqS zKr
@[go_sem] theorem sz22:szOf qb 22=some 1:=eqS zKr
@[go_sem] theorem ag22:qV qb 22=some false:=eqS zKr
@[go_sem] theorem sl22:qz qb 22=some (72,2,24):=eqS zKr
@[go_sem] theorem sz23:szOf qb 23=some 1:=eqS zKr
@[go_sem] theorem ag23:qV qb 23=some false:=eqS zKr
@[go_sem] theorem sl23:qz qb 23=some (74,3,48):=eqS zKr
@[go_sem] theorem sz24:szOf qb 24=some 1:=eqS zKr
@[go_sem] theorem ag24:qV qb 24=some false:=eqS zKr
@[go_sem] theorem sl24:qz qb 24=some (131,7,104):=eqS zKr
@[go_sem] theorem sz25:szOf qb 25=some 1:=eqS zKr
@[go_sem] theorem ag25:qV qb 25=some false:=eqS zKr
@[go_sem] theorem sl25:qz qb 25=some (108,6,80):=eqS zKr
@[go_sem] theorem sz27:szOf qb 27=some 4:=eqS zKr
@[go_sem] theorem ag27:qV qb 27=some true:=eqS zKr
@[go_sem] theorem fl27_0:qF qb 27 0=some (0,22,1):=eqS zKr
@[go_sem] theorem fl27_1:qF qb 27 1=some (1,23,1):=eqS zKr
@[go_sem] theorem fl27_2:qF qb 27 2=some (2,24,1):=eqS zKr
@[go_sem] theorem fl27_3:qF qb 27 3=some (3,25,1):=eqS zKr
@[go_sem] theorem sz28:szOf qb 28=some 1:=eqS zKr
@[go_sem] theorem ag28:qV qb 28=some false:=eqS zKr
@[go_sem] theorem ze28:qx qb 28=some (.lst true []):=eqS zKr
@[go_sem] theorem sl28:qz qb 28=some (3,1,8):=eqS zKr
@[go_sem] theorem sz30:szOf qb 30=some 2:=eqS zKr
@[go_sem] theorem ag30:qV qb 30=some true:=eqS zKr
@[go_sem] theorem fl30_0:qF qb 30 0=some (0,28,1):=eqS zKr
@[go_sem] theorem fl30_1:qF qb 30 1=some (1,3,1):=eqS zKr
@[go_sem] theorem sz32:szOf qb 32=some 1:=eqS zKr
@[go_sem] theorem ag32:qV qb 32=some false:=eqS zKr
@[go_sem] theorem sl32:qz qb 32=some (114,1,24):=eqS zKr
@[go_sem] theorem sz33:szOf qb 33=some 1:=eqS zKr
@[go_sem] theorem ag33:qV qb 33=some false:=eqS zKr
@[go_sem] theorem sl33:qz qb 33=some (35,5,64):=eqS zKr
@[go_sem] theorem sz35:szOf qb 35=some 5:=eqS zKr
@[go_sem] theorem ag35:qV qb 35=some true:=eqS zKr
@[go_sem] theorem ze35:qx qb 35=some (.agg [.sc (.int .i64 0),.sc (.string ⟨#[]⟩),.sc (.int .i64 0),.lst true [],.sc (.int .i64 0)]):=eqS zKr
@[go_sem] theorem pl35:y8 qb 35=some (plc [(0,1),(1,1),(2,1),(3,1),(4,1)]):=eqS zKr
@[go_sem] theorem fl35_0:qF qb 35 0=some (0,3,1):=eqS zKr
@[go_sem] theorem fl35_1:qF qb 35 1=some (1,9,1):=eqS zKr
@[go_sem] theorem fl35_2:qF qb 35 2=some (2,3,1):=eqS zKr
@[go_sem] theorem fl35_3:qF qb 35 3=some (3,33,1):=eqS zKr
@[go_sem] theorem fl35_4:qF qb 35 4=some (4,3,1):=eqS zKr
@[go_sem] theorem zo35:yH qb 35=true:=eqS zKr
@[go_sem] theorem sz36:szOf qb 36=some 1:=eqS zKr
@[go_sem] theorem ag36:qV qb 36=some false:=eqS zKr
@[go_sem] theorem sl36:qz qb 36=some (86,1,24):=eqS zKr
@[go_sem] theorem sz38:szOf qb 38=some 14:=eqS zKr
@[go_sem] theorem ag38:qV qb 38=some true:=eqS zKr
@[go_sem] theorem fl38_0:qF qb 38 0=some (0,27,4):=eqS zKr
@[go_sem] theorem fl38_1:qF qb 38 1=some (4,30,2):=eqS zKr
@[go_sem] theorem fl38_2:qF qb 38 2=some (6,32,1):=eqS zKr
@[go_sem] theorem fl38_3:qF qb 38 3=some (7,35,5):=eqS zKr
@[go_sem] theorem fl38_4:qF qb 38 4=some (12,36,1):=eqS zKr
@[go_sem] theorem fl38_5:qF qb 38 5=some (13,5,1):=eqS zKr
@[go_sem] theorem sz41:szOf qb 41=some 1:=eqS zKr
@[go_sem] theorem ag41:qV qb 41=some false:=eqS zKr
@[go_sem] theorem sl41:qz qb 41=some (113,4,64):=eqS zKr
@[go_sem] theorem sz42:szOf qb 42=some 1:=eqS zKr
@[go_sem] theorem ag42:qV qb 42=some false:=eqS zKr
@[go_sem] theorem sl42:qz qb 42=some (87,1,24):=eqS zKr
@[go_sem] theorem sz44:szOf qb 44=some 4:=eqS zKr
@[go_sem] theorem ag44:qV qb 44=some true:=eqS zKr
@[go_sem] theorem ze44:qx qb 44=some (.agg [.lst true [],.sc (.int .i64 0),.lst true [],.sc (.int .i64 0)]):=eqS zKr
@[go_sem] theorem pl44:y8 qb 44=some (plc [(0,2),(2,1),(3,1)]):=eqS zKr
@[go_sem] theorem fl44_0:qF qb 44 0=some (0,30,2):=eqS zKr
@[go_sem] theorem fl44_1:qF qb 44 1=some (2,42,1):=eqS zKr
@[go_sem] theorem fl44_2:qF qb 44 2=some (3,3,1):=eqS zKr
@[go_sem] theorem zo44:yH qb 44=true:=eqS zKr
@[go_sem] theorem sz50:szOf qb 50=some 1:=eqS zKr
@[go_sem] theorem ag50:qV qb 50=some false:=eqS zKr
@[go_sem] theorem ze50:qx qb 50=some (.lst true []):=eqS zKr
@[go_sem] theorem sl50:qz qb 50=some (44,4,64):=eqS zKr
@[go_sem] theorem sz51:szOf qb 51=some 1:=eqS zKr
@[go_sem] theorem ag51:qV qb 51=some false:=eqS zKr
@[go_sem] theorem ze51:qx qb 51=some (.sc (.int .i64 0)):=eqS zKr
@[go_sem] theorem sl68:qz qb 68=some (124,3,24):=eqS zKr
@[go_sem] theorem fl72_0:qF qb 72 0=some (0,9,1):=eqS zKr
@[go_sem] theorem fl72_1:qF qb 72 1=some (1,4,1):=eqS zKr
@[go_sem] theorem sz74:szOf qb 74=some 3:=eqS zKr
@[go_sem] theorem ag74:qV qb 74=some true:=eqS zKr
@[go_sem] theorem ze74:qx qb 74=some (.agg [.sc (.string ⟨#[]⟩),.lst true [],.sc (.bool false)]):=eqS zKr
@[go_sem] theorem fl74_0:qF qb 74 0=some (0,9,1):=eqS zKr
@[go_sem] theorem fl74_1:qF qb 74 1=some (1,28,1):=eqS zKr
@[go_sem] theorem fl74_2:qF qb 74 2=some (2,4,1):=eqS zKr
@[go_sem] theorem sz78:szOf qb 78=some 2:=eqS zKr
@[go_sem] theorem ag78:qV qb 78=some true:=eqS zKr
@[go_sem] theorem ze78:qx qb 78=some (.agg [.sc (.int .i64 0),.sc (.int .i64 0)]):=eqS zKr
@[go_sem] theorem ia78:YY qb 78=some 2:=eqS zKr
@[go_sem] theorem pl78:y8 qb 78=some (plc [(0,1),(1,1)]):=eqS zKr
@[go_sem] theorem fl78_0:qF qb 78 0=some (0,51,1):=eqS zKr
@[go_sem] theorem zo78:yH qb 78=true:=eqS zKr
@[go_sem] theorem sl82:qz qb 82=some (78,2,16):=eqS zKr
@[go_sem] theorem sz86:szOf qb 86=some 1:=eqS zKr
@[go_sem] theorem ag86:qV qb 86=some false:=eqS zKr
@[go_sem] theorem sl86:qz qb 86=some (4,1,1):=eqS zKr
@[go_sem] theorem sz87:szOf qb 87=some 1:=eqS zKr
@[go_sem] theorem ag87:qV qb 87=some false:=eqS zKr
@[go_sem] theorem ze87:qx qb 87=some (.lst true []):=eqS zKr
@[go_sem] theorem sl87:qz qb 87=some (90,2,32):=eqS zKr
@[go_sem] theorem sz90:szOf qb 90=some 2:=eqS zKr
@[go_sem] theorem ag90:qV qb 90=some true:=eqS zKr
@[go_sem] theorem ze90:qx qb 90=some (.agg [.sc (.int .i64 0),.lst true []]):=eqS zKr
@[go_sem] theorem pl90:y8 qb 90=some (plc [(0,1),(1,1)]):=eqS zKr
@[go_sem] theorem fl90_0:qF qb 90 0=some (0,3,1):=eqS zKr
@[go_sem] theorem fl90_1:qF qb 90 1=some (1,28,1):=eqS zKr
@[go_sem] theorem zo90:yH qb 90=true:=eqS zKr
@[go_sem] theorem sz91:szOf qb 91=some 2:=eqS zKr
@[go_sem] theorem ag91:qV qb 91=some true:=eqS zKr
@[go_sem] theorem ze91:qx qb 91=some (.agg [.sc (.int .i64 0),.sc (.int .i64 0)]):=eqS zKr
@[go_sem] theorem sl91:qz qb 91=none:=eqS zKr
@[go_sem] theorem ar91:Qg qb 91=some (2,3,1):=eqS zKr
@[go_sem] theorem pl91:y8 qb 91=some (plA 1):=eqS zKr
@[go_sem] theorem zo91:yH qb 91=true:=eqS zKr
@[go_sem] theorem sz95:szOf qb 95=some 1:=eqS zKr
@[go_sem] theorem ag95:qV qb 95=some false:=eqS zKr
@[go_sem] theorem ze95:qx qb 95=some (.lst true []):=eqS zKr
@[go_sem] theorem sl95:qz qb 95=some (91,2,16):=eqS zKr
@[go_sem] theorem sz100:szOf qb 100=some 1:=eqS zKr
@[go_sem] theorem ag100:qV qb 100=some false:=eqS zKr
@[go_sem] theorem sl100:qz qb 100=some (144,3,24):=eqS zKr
@[go_sem] theorem fl108_0:qF qb 108 0=some (0,9,1):=eqS zKr
@[go_sem] theorem fl108_1:qF qb 108 1=some (1,35,5):=eqS zKr
@[go_sem] theorem sz113:szOf qb 113=some 4:=eqS zKr
@[go_sem] theorem ag113:qV qb 113=some true:=eqS zKr
@[go_sem] theorem ze113:qx qb 113=some (.agg [.sc (.int .i64 0),.lst true [],.sc (.int .i64 0),.lst true []]):=eqS zKr
@[go_sem] theorem pl113:y8 qb 113=some (plc [(0,2),(2,2)]):=eqS zKr
@[go_sem] theorem fl113_0:qF qb 113 0=some (0,90,2):=eqS zKr
@[go_sem] theorem fl113_1:qF qb 113 1=some (2,90,2):=eqS zKr
@[go_sem] theorem zo113:yH qb 113=true:=eqS zKr
@[go_sem] theorem sz114:szOf qb 114=some 1:=eqS zKr
@[go_sem] theorem ag114:qV qb 114=some false:=eqS zKr
@[go_sem] theorem sl114:qz qb 114=some (5,1,1):=eqS zKr
@[go_sem] theorem ze124:qx qb 124=some (.agg [.sc (.int .i64 0),.sc (.int .i64 0),.sc (.int .i64 0)]):=eqS zKr
@[go_sem] theorem pl124:y8 qb 124=some (plc [(0,1),(1,1),(2,1)]):=eqS zKr
@[go_sem] theorem zo124:yH qb 124=true:=eqS zKr
@[go_sem] theorem sz129:szOf qb 129=some 1:=eqS zKr
@[go_sem] theorem ag129:qV qb 129=some false:=eqS zKr
@[go_sem] theorem sl129:qz qb 129=some (186,2,24):=eqS zKr
@[go_sem] theorem fl131_0:qF qb 131 0=some (0,9,1):=eqS zKr
@[go_sem] theorem fl131_1:qF qb 131 1=some (1,129,1):=eqS zKr
@[go_sem] theorem fl131_2:qF qb 131 2=some (2,35,5):=eqS zKr
@[go_sem] theorem sz137:szOf qb 137=some 1:=eqS zKr
@[go_sem] theorem ag137:qV qb 137=some false:=eqS zKr
@[go_sem] theorem sz144:szOf qb 144=some 3:=eqS zKr
@[go_sem] theorem ag144:qV qb 144=some true:=eqS zKr
@[go_sem] theorem ze144:qx qb 144=some (.agg [.sc (.int .i64 0),.sc (.int .i64 0),.sc (.int .i64 0)]):=eqS zKr
@[go_sem] theorem pl144:y8 qb 144=some (plc [(0,1),(1,1),(2,1)]):=eqS zKr
@[go_sem] theorem fl144_0:qF qb 144 0=some (0,3,1):=eqS zKr
@[go_sem] theorem fl144_1:qF qb 144 1=some (1,3,1):=eqS zKr
@[go_sem] theorem fl144_2:qF qb 144 2=some (2,3,1):=eqS zKr
@[go_sem] theorem zo144:yH qb 144=true:=eqS zKr
@[go_sem] theorem sz145:szOf qb 145=some 1:=eqS zKr
@[go_sem] theorem ag145:qV qb 145=some false:=eqS zKr
@[go_sem] theorem sz146:szOf qb 146=some 1:=eqS zKr
@[go_sem] theorem ag146:qV qb 146=some false:=eqS zKr
@[go_sem] theorem ze146:qx qb 146=some (.sc .nilFunc):=eqS zKr
@[go_sem] theorem sz161:szOf qb 161=some 1:=eqS zKr
@[go_sem] theorem ag161:qV qb 161=some false:=eqS zKr
@[go_sem] theorem sl161:qz qb 161=some (280,2,24):=eqS zKr
@[go_sem] theorem ze168:qx qb 168=some (.agg [.sc (.int .i64 0),.lst true []]):=eqS zKr
@[go_sem] theorem pl168:y8 qb 168=some (plc [(0,1),(1,1)]):=eqS zKr
@[go_sem] theorem zo168:yH qb 168=true:=eqS zKr
@[go_sem] theorem sz172:szOf qb 172=some 1:=eqS zKr
@[go_sem] theorem ag172:qV qb 172=some false:=eqS zKr
@[go_sem] theorem ze172:qx qb 172=some (.sc (.map none)):=eqS zKr
@[go_sem] theorem mt172:mapT qb 172=some (3,3):=eqS zKr
@[go_sem] theorem fl186_0:qF qb 186 0=some (0,9,1):=eqS zKr
@[go_sem] theorem fl186_1:qF qb 186 1=some (1,3,1):=eqS zKr
@[go_sem] theorem sl189:qz qb 189=none:=eqS zKr
@[go_sem] theorem ar189:Qg qb 189=some (64,4,1):=eqS zKr
@[go_sem] theorem sz191:szOf qb 191=some 65:=eqS zKr
@[go_sem] theorem ag191:qV qb 191=some true:=eqS zKr
@[go_sem] theorem ze191:qx qb 191=some (.agg [.sc (.int .i64 0),.sc (.bool false),.sc (.bool false),.sc (.bool false),.sc (.bool false),.sc (.bool false),.sc (.bool false),.sc (.bool false),.sc (.bool false),.sc (.bool false),.sc (.bool false),.sc (.bool false),.sc (.bool false),.sc (.bool false),.sc (.bool false),.sc (.bool false),.sc (.bool false),.sc (.bool false),.sc (.bool false),.sc (.bool false),.sc (.bool false),.sc (.bool false),.sc (.bool false),.sc (.bool false),.sc (.bool false),.sc (.bool false),.sc (.bool false),.sc (.bool false),.sc (.bool false),.sc (.bool false),.sc (.bool false),.sc (.bool false),.sc (.bool false),.sc (.bool false),.sc (.bool false),.sc (.bool false),.sc (.bool false),.sc (.bool false),.sc (.bool false),.sc (.bool false),.sc (.bool false),.sc (.bool false),.sc (.bool false),.sc (.bool false),.sc (.bool false),.sc (.bool false),.sc (.bool false),.sc (.bool false),.sc (.bool false),.sc (.bool false),.sc (.bool false),.sc (.bool false),.sc (.bool false),.sc (.bool false),.sc (.bool false),.sc (.bool false),.sc (.bool false),.sc (.bool false),.sc (.bool false),.sc (.bool false),.sc (.bool false),.sc (.bool false),.sc (.bool false),.sc (.bool false),.sc (.bool false)]):=eqS zKr
@[go_sem] theorem pl191:y8 qb 191=some (plc [(0,1),(1,64)]):=eqS zKr
@[go_sem] theorem fl191_0:qF qb 191 0=some (0,3,1):=eqS zKr
@[go_sem] theorem fl191_1:qF qb 191 1=some (1,189,64):=eqS zKr
@[go_sem] theorem zo191:yH qb 191=true:=eqS zKr
@[go_sem] theorem sz196:szOf qb 196=some 7:=eqS zKr
@[go_sem] theorem ag196:qV qb 196=some true:=eqS zKr
@[go_sem] theorem ze196:qx qb 196=some (.agg [.lst true [],.lst true [],.lst true [],.lst true [],.lst true [],.sc (.int .i64 0),.sc (.bool false)]):=eqS zKr
@[go_sem] theorem pl196:y8 qb 196=some (plc [(0,4),(4,1),(5,1),(6,1)]):=eqS zKr
@[go_sem] theorem fl196_0:qF qb 196 0=some (0,27,4):=eqS zKr
@[go_sem] theorem fl196_1:qF qb 196 1=some (4,86,1):=eqS zKr
@[go_sem] theorem fl196_2:qF qb 196 2=some (5,3,1):=eqS zKr
@[go_sem] theorem fl196_3:qF qb 196 3=some (6,4,1):=eqS zKr
@[go_sem] theorem zo196:yH qb 196=true:=eqS zKr
@[go_sem] theorem sl197:qz qb 197=some (250,66,88):=eqS zKr
@[go_sem] theorem sz199:szOf qb 199=some 1:=eqS zKr
@[go_sem] theorem ag199:qV qb 199=some false:=eqS zKr
@[go_sem] theorem sl199:qz qb 199=some (9,1,16):=eqS zKr
@[go_sem] theorem sz201:szOf qb 201=some 7:=eqS zKr
@[go_sem] theorem ag201:qV qb 201=some true:=eqS zKr
@[go_sem] theorem ze201:qx qb 201=some (.agg [.lst true [],.lst true [],.lst true [],.lst true [],.lst true [],.sc (.int .i64 0),.sc (.int .i64 0)]):=eqS zKr
@[go_sem] theorem pl201:y8 qb 201=some (plc [(0,4),(4,1),(5,1),(6,1)]):=eqS zKr
@[go_sem] theorem fl201_0:qF qb 201 0=some (0,27,4):=eqS zKr
@[go_sem] theorem fl201_1:qF qb 201 1=some (4,199,1):=eqS zKr
@[go_sem] theorem fl201_2:qF qb 201 2=some (5,3,1):=eqS zKr
@[go_sem] theorem fl201_3:qF qb 201 3=some (6,3,1):=eqS zKr
@[go_sem] theorem zo201:yH qb 201=true:=eqS zKr
@[go_sem] theorem sl239:qz qb 239=some (28,1,24):=eqS zKr
@[go_sem] theorem sl244:qz qb 244=some (191,65,72):=eqS zKr
@[go_sem] theorem ze250:qx qb 250=some (.agg [.sc (.string ⟨#[]⟩),.sc (.int .i64 0),.sc (.bool false),.sc (.bool false),.sc (.bool false),.sc (.bool false),.sc (.bool false),.sc (.bool false),.sc (.bool false),.sc (.bool false),.sc (.bool false),.sc (.bool false),.sc (.bool false),.sc (.bool false),.sc (.bool false),.sc (.bool false),.sc (.bool false),.sc (.bool false),.sc (.bool false),.sc (.bool false),.sc (.bool false),.sc (.bool false),.sc (.bool false),.sc (.bool false),.sc (.bool false),.sc (.bool false),.sc (.bool false),.sc (.bool false),.sc (.bool false),.sc (.bool false),.sc (.bool false),.sc (.bool false),.sc (.bool false),.sc (.bool false),.sc (.bool false),.sc (.bool false),.sc (.bool false),.sc (.bool false),.sc (.bool false),.sc (.bool false),.sc (.bool false),.sc (.bool false),.sc (.bool false),.sc (.bool false),.sc (.bool false),.sc (.bool false),.sc (.bool false),.sc (.bool false),.sc (.bool false),.sc (.bool false),.sc (.bool false),.sc (.bool false),.sc (.bool false),.sc (.bool false),.sc (.bool false),.sc (.bool false),.sc (.bool false),.sc (.bool false),.sc (.bool false),.sc (.bool false),.sc (.bool false),.sc (.bool false),.sc (.bool false),.sc (.bool false),.sc (.bool false),.sc (.bool false)]):=eqS zKr
@[go_sem] theorem pl250:y8 qb 250=some (plc [(0,1),(1,65)]):=eqS zKr
@[go_sem] theorem fl250_0:qF qb 250 0=some (0,9,1):=eqS zKr
@[go_sem] theorem fl250_1:qF qb 250 1=some (1,191,65):=eqS zKr
@[go_sem] theorem zo250:yH qb 250=true:=eqS zKr
@[go_sem] theorem sl251:qz qb 251=some (258,9,112):=eqS zKr
@[go_sem] theorem ze258:qx qb 258=some (.agg [.sc (.string ⟨#[]⟩),.sc (.string ⟨#[]⟩),.sc (.bool false),.sc (.int .i64 0),.sc (.string ⟨#[]⟩),.sc (.int .i64 0),.lst true [],.sc (.int .i64 0),.sc (.int .i64 0)]):=eqS zKr
@[go_sem] theorem pl258:y8 qb 258=some (plc [(0,1),(1,1),(2,1),(3,5),(8,1)]):=eqS zKr
@[go_sem] theorem fl258_0:qF qb 258 0=some (0,9,1):=eqS zKr
@[go_sem] theorem fl258_1:qF qb 258 1=some (1,9,1):=eqS zKr
@[go_sem] theorem fl258_2:qF qb 258 2=some (2,4,1):=eqS zKr
@[go_sem] theorem fl258_3:qF qb 258 3=some (3,35,5):=eqS zKr
@[go_sem] theorem fl258_4:qF qb 258 4=some (8,3,1):=eqS zKr
@[go_sem] theorem zo258:yH qb 258=true:=eqS zKr
end Ty
end Go.Proofs.YtahmfpfdgiemoaaGreatDoor
namespace Go.Ev
open Go
section
variable {av s x:AV}{K:AV->Mu->Prop}{xs ys:List (List AV)}{mu:Mu}{bt e i lo sz t:Nat}{P:qf}{Q:qM->St->Prop}
abbrev rI(n:Int):List AV:=[.sc (.int .i64 n)]
abbrev lI(xs:List Int):AV := .lst false (xs.map rI)
structure Rl where
 ar:Int
 ts:List Int
 deriving DecidableEq
structure Sc where
 atoms:List Int
 steps:Int
structure Fld where
 name:ByteArray
 sorts:List Int
 var:Bool
structure Bd where
 lo:Rl
 up:Rl
 deriving DecidableEq
abbrev cRel(r:Rl):List AV:=[aI r.ar,lI r.ts]
abbrev eRel(r:Rl):AV := .agg (cRel r)
abbrev lRel(g:List Rl):AV := .lst false (g.map cRel)
abbrev eSc(s:Sc):AV := .agg [lI s.atoms,aI s.steps]
abbrev uE(s:ByteArray×Bool):List AV:=[.sc (.string s.1),aB s.2]
abbrev jn(f:Fld):List AV:=[.sc (.string f.name),lI f.sorts,aB f.var]
abbrev JO(f:Fld):AV := .agg (jn f)
abbrev cBd(b:Bd):List AV:=[aI b.lo.ar,lI b.lo.ts,aI b.up.ar,lI b.up.ts]
abbrev lBd(b:List Bd):AV := .lst false (b.map cBd)
theorem zf(xs:List Int):HF (lI xs):=HF.lst fun r i c g=>by
 obtain⟨n,_,rfl⟩:=qk.1 i;simp at g;subst g;exact HF.sc _
theorem JP(r:Rl):∀ c,c∈cRel r->HF c:=by
 intro c g;simp at g;rcases g with rfl|rfl
 .exact HF.sc _
 .exact zf _
theorem zZ(r:Rl):HF (eRel r):=HF.agg (JP r)
theorem Z0(g:List Rl):HF (lRel g):=HF.lst fun r i c j=>by
 obtain⟨n,_,rfl⟩:=qk.1 i;exact JP n c j
theorem zx(s:Sc):HF (eSc s):=HF.agg fun c g=>by
 simp at g;rcases g with rfl|rfl
 .exact zf _
 .exact HF.sc _
theorem kf(f:Fld):∀ c,c∈jn f->HF c:=by
 intro c g;simp at g;rcases g with rfl|rfl|rfl
 .exact HF.sc _
 .exact zf _
 .exact HF.sc _
theorem kh(f:Fld):HF (JO f):=HF.agg (kf f)
theorem j0(b:List Bd):HF (lBd b):=HF.lst fun r i c g=>by
 obtain⟨n,_,rfl⟩:=qk.1 i;simp at g;rcases g with rfl|rfl|rfl|rfl
 .exact HF.sc _
 .exact zf _
 .exact HF.sc _
 .exact zf _
@[go_sem] theorem ieq(a b:Int):(a == b)=decide (a=b):=eqS rfl
@[go_sem] theorem ine(a b:Int):(a != b)=!decide (a=b):=eqS rfl
@[go_sem] theorem natEq(a b:Nat):((a:Int)=(b:Int))=(a=b):=propext ⟨Int.ofNat_inj.1,fun h=>by rw[h]⟩
inductive Tag (p:St->Prop):Type where
 |mk:Tag p
def Keep(p:St->Prop)(_:Tag p)(st:St):Prop:=p st
theorem Keep.loop{p:Nat->St->Prop}{st:St}{n:Nat}(m:Nat)(g:m<n)(h:p m st):∃ m,m<n/\Keep (p m) .mk st:=⟨m,g,h⟩
theorem qh.keep{pl:Pol}{body:vn}{st:St}(I:Nat->St->Prop)(n:Nat)(h:I n st)(k:∀ n st,I n st->awp P pl body (uA (fun n=>Keep (I n) .mk) n Q) st):qh P pl body Q st := .intro (fun n=>Keep (I n) .mk) n h k
theorem zU(xs:List Int):zg 1 (xs.map rI):=fun r g=>by
 obtain⟨n,_,rfl⟩:=qk.1 g;exact⟨rfl,rfl⟩
theorem wT(xs:List Rl):zg 2 (xs.map cRel):=fun r g=>by
 obtain⟨n,_,rfl⟩:=qk.1 g;exact⟨rfl,rfl⟩
def OwnF(lo:Nat)(mu:Mu)(sz:Nat)(av:AV)(xs:List (List AV)):Prop:=Own mu sz av xs/\(∀ b s o l,av = .sl b s o l->lo<=b)/\lo<=mu.length
theorem OwnF.one(h:OwnF lo mu sz av xs):av.one=true:=by
 rcases h.1 with rfl|⟨b,rfl,_⟩<;>rfl
theorem OwnF.cells(h:OwnF lo mu sz av xs):av.cells=[av]:=by
 rcases h.1 with rfl|⟨b,rfl,_⟩<;>rfl
theorem OwnF.nil(h:lo<=mu.length):OwnF lo mu sz (.lst true []) []:=⟨.inl rfl,fun _ _ _ _ e=>by simp at e,h⟩
theorem OwnF.set{c:Cell}(h:OwnF lo mu sz av xs)(p:i<lo):OwnF lo (mu.set i c) sz av xs:=by
 obtain⟨j,g,l⟩:=h;refine⟨?_,g,zUs l⟩;rcases j with rfl|⟨b,rfl,o⟩
 .exact .inl rfl
 .have:=g _ _ _ _ rfl
  exact .inr ⟨b,rfl,by rw[zGl];exact o⟩
theorem y9.ownF{j:Nat}{zv:AV}(hs:qz P t=some (e,sz,bt))(p:(qz P j).isSome=true)(hz:qx P e=some zv)
  (r:zv.cells.length=sz) (C:zv.cells.all AV.one=true) (I:sz≠0) (hb:bt<=16384) (J:OwnF lo mu sz s xs) (hx:qH mu x=some ys) (wx:zg sz xs) (wy:zg sz ys) (hl:xs.length+ys.length<=4294967296)
  (k:∀ av g,OwnF lo g sz av (xs++ys)->(∀ i,i<lo->g[i]?=mu[i]?)->K av g):y9 P mu #[t,j] s x K:=by
 obtain⟨J,R,T⟩:=J;refine⟨t,j,e,sz,bt,ys,rfl,hs,p,⟨zv,hz,r,C⟩,I,hb,hx,wy,?_⟩;rcases J with rfl|⟨b,rfl,hc⟩
 .refine .inl ⟨xs,rfl,wx,hl,fun h=>?_,fun h=>?_⟩
  .subst h
   exact k _ _ ⟨.inl zSp,fun _ _ _ _ e=>by simp at e,T⟩ (fun _ _=>rfl)
  .refine k _ _ ⟨.inr ⟨mu.length,zSp,zSp⟩,fun b s o l e=>?_,zSo⟩ (fun i hi=>?_)
   .injection e;omega
   .rw [zGa]
 .have a0:=zW wx.ok
  have a1:=R _ _ _ _ rfl;refine .inr ⟨b,xs.length,xs.flatten,rfl,hc,zOm,hl,?_⟩;have U:xs.flatten.take (xs.length*sz)=xs.flatten:=zK zOm;refine k _ _ ⟨.inr ⟨mu.length,zSp,?_⟩,fun b s o l e=>?_,zSo⟩ (fun i hi=>?_)
  .rw [U,qT zSp];simp
  .injection e;omega
  .rw [qI zSo]
   rw[zGl]
theorem qA.ownF{r:Nat}{zv:AV}(C:qz P t=some (e,sz,bt))(g:(qz P r).isSome=true)(I:qx P e=some zv)
  (j:zv.cells.length=sz) (o:zv.cells.all AV.one=true) (p:sz≠0) (J:bt<=16384) (R:OwnF lo mu sz s xs) (T:qH mu x=some ys) (U:zg sz xs) (wy:zg sz ys) (hl:xs.length+ys.length<=4294967296)
  (k:∀ av l,OwnF lo l sz av (xs++ys)->(∀ i,i<lo->l[i]?=mu[i]?)->K av l):qA P mu #[t,r] s x K:=
 .inl (y9.ownF C g I j o p J R T U wy hl k)
theorem qA.ints{j:Nat}{xs ys:List Int}{z:Int}(o:qz P t=some (e,1,bt))(g:(qz P j).isSome=true)(p:qx P e=some (aI z))
  (r:bt<=16384) (C:OwnF lo mu 1 s (xs.map rI)) (I:qH mu x=some (ys.map rI)) (J:xs.length+ys.length<=4294967296)
  (k:∀ av l,OwnF lo l 1 av ((xs++ys).map rI)->(∀ i,i<lo->l[i]?=mu[i]?)->K av l):qA P mu #[t,j] s x K:=
 qA.ownF o g p rfl rfl zOm r C I (zU _) (zU _) (zUs J) (fun av l R T=>k av l (by rw[zd];exact R) T)
theorem qdB{low g l:Mu}(o:low.length=lo)(p:lo<=l.length)(h:∀ i,i<lo->l[i]?=(low++g)[i]?):l=low++l.drop lo:=by
 have:l.take lo=low:=by
  apply jx;intro i;by_cases j:i<lo
  .rw [List.getElem?_take_of_lt j,h i j,zGa]
  .rw [yC zSo,yC zOm]
 rw[<-this,uZ]
theorem qA.intsL{low g:Mu}{p:Nat}{xs ys:List Int}{z:Int}(r:qz P t=some (e,1,bt))(j:(qz P p).isSome=true)(C:qx P e=some (aI z))
  (I:bt<=16384) (J:OwnF low.length (low++g) 1 s (xs.map rI)) (R:qH (low++g) x=some (ys.map rI)) (T:xs.length+ys.length<=4294967296)
  (k:∀ av i,OwnF low.length (low++i) 1 av ((xs++ys).map rI)->K av (low++i)):qA P (low++g) #[t,p] s x K:=
 qA.ints r j C I J R T fun av l o U=>by
  have:=qdB rfl o.2.2 U;rw[this]at o⊢;exact k _ _ o
theorem OwnF.low{low low' g:Mu}(h:OwnF low.length (low++g) sz av xs)(i:low'.length=low.length):OwnF low'.length (low'++g) sz av xs:=by
 obtain⟨o,j,_⟩:=h;refine⟨?_,by rw[i];exact j,zSp⟩;rcases o with rfl|⟨b,rfl,l⟩
 .exact .inl rfl
 .have:=j _ _ _ _ rfl
  refine .inr ⟨b,rfl,?_⟩;rw[qT zOm]at l⊢;rw[i];exact l
theorem OwnF.rdI{xs:List Int}(h:OwnF lo mu 1 av (xs.map rI)):Rd mu av (lI xs):=
 h.1.rd (zU xs).ok fun r i c g=>by
  obtain⟨n,_,rfl⟩:=qk.1 i;simp at g;subst g;exact HF.sc _
theorem Rd.rel{r:Rl}(h:Rd mu av (lI r.ts)):Rd mu (.agg [aI r.ar,av]) (eRel r):=by
 refine .agg _ _ rfl (fun k x y g i=>?_)
 match k with
 | 0=>simp at g i;subst g;subst i;exact .zsc _
 | 1=>simp at g i;subst g;subst i;exact h
 |k+2=>simp at g
theorem ki(b:Nat)(mu:Mu):(cutM (fun j=>j == b) mu 0)[b]?=mu[b]?:=by
 rw[jI];cases mu[b]?<;>simp
theorem kj{b:Nat}(h:i≠b)(mu:Mu):(cutM (fun j=>!(j == b)) mu 0)[i]?=mu[i]?:=by
 rw[jI];cases mu[i]?<;>simp[h]
theorem FzQ.own{d:Nat}{st:St}(o:st.tm d=av)(g:OwnF lo st.mu sz av xs)(wf:zg sz xs)(hf:∀ r,r∈xs->∀ c,c∈r->HF c)
  (k:∀ l full,l.length=st.mu.length->(∀ j,j<lo->l[j]?=st.mu[j]?)->Q (.exit i) (st.put (some d) (.lst full xs) l)):FzQ Q (.exit i) st:=by
 rcases g.1 with h|⟨b,h,p⟩
 .refine FzQ.one (b:=st.mu.length) (d:=d) (x := .lst true xs) ?_ (k _ _ (uq _ _ _) fun j t=>kj (zW1 g.2.2) _)
  rw[o,h];exact .hf _ (HF.lst hf)
 .refine FzQ.one (b:=b) (d:=d) (x := .lst false xs) ?_ (k _ _ (uq _ _ _) fun j t=>kj (zW1 (g.2.1 _ _ _ _ h)) _)
  rw[o];exact Own.rd (.inr ⟨b,h,by rw[ki];exact p⟩) wf.ok hf
def allN(p:Nat->Bool):Nat->Bool
 | 0=>true
 |n+1=>allN p n&&p n
theorem UQ{p:Nat->Bool}{n:Nat}:allN p n=true↔∀ i,i<n->p i=true:=by
 induction n with
 |zero=>simp[allN]
 |succ n l =>
  simp only[allN,qq,l];refine⟨fun h i j=>?_,fun h=>⟨fun i j=>h i zOm,h n zOm⟩⟩;rcases Qf.1 j with g|g
  .exact h.1 i g
  .subst g;exact h.2
theorem qdC{p:Nat->Bool}{n k:Nat}(g:k<n)(h:p k=false):allN p n=false:=by
 rw[<-Bool.not_eq_true,UQ];intro i;have:=i k g;simp[h]at this
def gI(xs:List Int)(i:Nat):Int:=(xs[i]?).getD 0
theorem vV{xs:List Int}(h:i<xs.length):gI xs i=xs[i]:=by simp[gI,h]
def sumI(xs:List Int):Int:=xs.foldr (·+·) 0
theorem qdD(a b:List Int):sumI (a++b)=sumI a+sumI b:=by
 induction a with
 |nil=>simp[sumI]
 |cons x a g=>simp only[sumI,yD,List.foldr_cons]at *;omega
theorem uF(l:List Int)(k:Nat)(h:k<l.length):sumI (l.take (k+1))=sumI (l.take k)+l[k]:=by
 rw[List.take_add_one,qv h,qdD];simp[sumI]
theorem qdE(l:List Int)(m:Int)(h:∀ a,a∈l->0<=a/\a<=m):0<=sumI l/\sumI l<=m*l.length:=by
 induction l with
 |nil=>simp[sumI]
 |cons x l g =>
  have j:=h x zSp;have o:=g (fun a i=>h a (zP1 i));simp only[sumI,List.foldr_cons,zq]at *
  have:m*((l.length+1:Nat):Int)=m*l.length+m:=by rw[Int.natCast_succ,Int.mul_add];simp
  omega
def GSc(s:Sc):Prop:=s.atoms.length<=4/\∀ a,a∈s.atoms->0<=a/\a<=5
theorem GSc.sum{s:Sc}(h:GSc s)(k:Nat):0<=sumI (s.atoms.take k)/\sumI (s.atoms.take k)<=20:=by
 have:=qdE (s.atoms.take k) 5 (fun a g=>h.2 a (List.mem_of_mem_take g));have i:=h.1;have j:=List.length_take_le k s.atoms;simp only[vH]at *
 omega
end
end Go.Ev
namespace Go.Ev
open Go Go.RowKit
section
variable {es:List (AV×AV)}
theorem PIx.of_mem{C:Type}{es i:List C}(t:es.Nodup)(I:i.Nodup)(h:∀ x,x∈i↔x∈es):∃ T U,PIx T U es i:=by
 have l:i.length=es.length:=((List.perm_ext_iff_of_nodup I t).2 h).length_eq;have f:∀ k,∃ j,k<es.length->j<es.length/\i[j]?=es[k]?:=by
  intro k;by_cases o:k<es.length
  .obtain ⟨j,p⟩:=List.mem_iff_getElem?.1 ((h es[k]).2 zSp)
   exact⟨j,fun _=>⟨by have:=(qe.1 p).1;omega,by rw[p];simp[o]⟩⟩
  .exact ⟨0,fun h=>absurd h o⟩
 have g:∀ j,∃ k,j<es.length->k<es.length/\es[k]?=i[j]?:=by
  intro j;by_cases p:j<es.length
  .have r:j<i.length:=by omega
   obtain⟨k,o⟩:=List.mem_iff_getElem?.1 ((h i[j]).1 zSp);exact⟨k,fun _=>⟨(qe.1 o).1,by rw[o];simp[r]⟩⟩
  .exact ⟨0,fun h=>absurd h p⟩
 refine⟨fun k=>Classical.choose (f k),fun k=>Classical.choose (g k),l,fun k o=>?_⟩;obtain⟨J,P⟩:=Classical.choose_spec (f k) o;obtain⟨R,b2⟩:=Classical.choose_spec (g k) o;obtain⟨c1,c2⟩:=Classical.choose_spec (g (Classical.choose (f k))) J;obtain⟨d1,d2⟩:=Classical.choose_spec (f (Classical.choose (g k))) R;refine⟨J,R,?_,?_,P⟩
 .exact (List.getElem?_inj c1 t).1 (c2.trans P)
 .exact (List.getElem?_inj (by rw[l];exact d1) I).1 (d2.trans b2)
theorem kl(h:(es.map Prod.fst).Nodup):es.Nodup:=(List.pairwise_map.1 h).imp (fun g e=>g (by rw[e]))
theorem Rd.mps{mu:Mu}{b:Nat}{fs:List (AV×AV)}(l:mu[b]?=some (.mp es))(o:(es.map Prod.fst).Nodup)(j:(fs.map Prod.fst).Nodup)(p:∀ x,x∈es↔x∈fs)(hf:∀ x,x∈es->HF x.1/\HF x.2):Rd mu (.mp b) (.ims fs):=by
 obtain⟨r,t,C⟩:=PIx.of_mem (kl j) (kl o) p;refine .ims _ fs es r t C j (.mp b es es l rfl (fun k x y g i=>?_) (fun k x y g i=>?_))
 .rw [g]at i;cases i;exact .hf _ (hf x (qZ g)).1
 .rw [g]at i;cases i;exact .hf _ (hf x (qZ g)).2
end
end Go.Ev
namespace Go.Ev
open Go Go.RowKit
section
variable {R:AEnd->Mu->Prop}{args:List AV}{pl:Pol}{P:qf}
def MRel(G:Gh)(h:Array Obj):Option AV->FrameMode->Prop
 |none,u=>u = .returning
 |some x,u=>∃ v,u = .panicking [{ v,recovered:=false }]/\VRel G h x v
def jo(P:qf)(g:us)(args:List AV)(mu:Mu)(m:Option AV)(R:Mu->Prop):Prop:=yd P g /\
 ∀(G:Gh) (w:j2) (i:Array j3) (u:FrameMode),Sim G mu w.heap->zz G w.heap args i->MRel G w.heap m u ->
  CallsDIn Fence.wide 0 P g i u w fun e j o=>∃ v p l,e = .returned v/\settle j = .returning/\Stp G mu w p l o/\R l
def UR(P:qf)(j:List ResultVar)(g:us)(i:List AV)(R:AEnd->Mu->Prop):qM->St->Prop
 | .normal,st | .ret,st=>jo P g i st.mu none fun l=>OptK (yU P ⟨st.tm,l⟩ j) fun r=>R (.ret r) l
 | .pan v,st=>jo P g i st.mu (some v) fun l=>OptK (yU P ⟨st.tm,l⟩ j) fun r=>R (.ret r) l
 | .exit _,_=>False
def wU(ops:Array wg):Option (List wg×wg):=
 match ops.toList.reverse with
 |o :: r=>match o.op,o.guard,o.dst with | .defer _,none,none=>some (r.reverse,o)|_,_,_=>none
 | []=>none
theorem qdF{ops:Array wg}{pre:List wg}{o:wg}(h:wU ops=some (pre,o)):ops.toList=pre++[o]/\o.guard=none/\o.dst=none:=by
 unfold wU at h;split at h
 .rename_i l r g
  split at h
  .rename_i c p i j
   simp only[qj,Prod.mk.injEq]at h;obtain⟨rfl,rfl⟩:=h;refine⟨?_,i,j⟩;have:=congrArg List.reverse g;simpa using this
  .exact absurd h zSp
 .exact absurd h zSp
def wV(P:qf)(pl:Pol)(r:List ResultVar)(R:AEnd->Mu->Prop)(o:wg)(l:vn)(st:St):Prop:=
 ∃ x args p g first i,o.op = .defer { callee := .value x,args,argTypes:=p }/\st.ev x = .fn (.func g) first i/\yd P g/\awp P pl l (UR P r g (first++evs st.ev args.toList++i) R) st
def awpD(P:qf)(pl:Pol)(j:List ResultVar)(R:AEnd->Mu->Prop):vn->St->Prop
 | .seq (.region _ g false) i,st=>match wU g with
  |some (pre,o)=>awpS P pl false g pre (fun st=>wV P pl j R o i st) (fun v st=>R (.pan v) st.mu) st
  |none=>awpS P pl false g g.toList (fun st=>awpD P pl j R i st) (fun v st=>R (.pan v) st.mu) st
 |_,_=>False
def Ro.bare:Ro:=⟨none,[],false,[]⟩
theorem Rel.bare{i:Gh}{g:Mu}{j:j2}{n:Nat}{G:Gh}{st:St}{a:Act}{w:j2}(r:Rel Ro.bare i g j n G st a w):a.defers=[]:=by
 obtain⟨l,⟨o,p⟩,_⟩:=r.df rfl;have:l=[]:=p rfl;subst this;simpa[Ro.bare] using o
def REnd(G : Gh)(mu : Mu)(w : j2)(R : AEnd->Mu->Prop)(e : Ending)(w' : j2) : Prop := ∃ i l, Stp G mu w i l w' /\
      ((∃ r v,R (.ret r) l/\e = .returned v/\VRel i w'.heap r v)\/(∃ r v,R (.pan r) l/\e = .panicked [{ v,recovered:=false }]/\VRel i w'.heap r v))
theorem qdG{fn:Func}{G0:Gh}{I:Mu}{w0:j2}(s0:Sim G0 I w0.heap):∀(c:vn) (st:St) (a:Act) (w:j2) (G:Gh),Rel Ro.bare G0 I w0 fn.ntmps G st a w ->
  dOkC fn.ntmps c=true->awpD P pl fn.results.toList R c st->c.wpIn (WF Ro.bare) 0 P (bodyPostM Fence.wide 0 P fn (REnd G0 I w0 R)) a w:=by
 intro c;induction c with
 |seq x y _ ih =>
  intro st a w G r hd h;cases x with
  |region id a2 a7 =>
   cases a7 with
   |true=>exact h.elim
   |false =>
    simp only[dOkC,qq]at hd;have T:(a2.toList.all fun o=>dOk fn.ntmps o.dst)=true:=hd.1;have a0:∀ v (st:St) a w G u,R (.pan v) st.mu->Rel Ro.bare G0 I w0 fn.ntmps G st a w->VRel G w.heap v u->LeavesInM Fence.wide 0 P fn a.tmps (REnd G0 I w0 R) a.defers (.panicking [{ v:=u,recovered:=false }]) w:=by
     intro v st a w G u C r J;rw[r.bare];exact⟨G,st.mu,r.stp,.inr ⟨v,u,C,rfl,J⟩⟩
    cases hl:wU a2 with
    |none =>
     simp only[awpD,hl]at h;refine wpIn_seq (wpIn_region_list ?_);refine Um s0 ?_ ?_ a2.toList st a w G r T h
     .intro st a w G C r
      exact ih st a w G r hd.2 C
     .intro v st a w G u C r J
      exact a0 v st a w G u C r J
    |some q =>
     obtain⟨pre,o⟩:=q;simp only[awpD,hl]at h;obtain⟨ho,hg,a1⟩:=qdF hl;refine wpIn_seq (wpIn_region_list ?_);rw[ho]at T⊢;rw[List.all_append,qq]at T;refine KD s0 ?_ ?_ pre st a w G r T.1 h
     .intro st a w G C r
      obtain⟨xo,args,ah,g,first,a8,a9,hx,aa,a4⟩:=C;obtain⟨od,aq,ai,ab,aj,ar⟩:=o;simp only at a9 hg a1;subst a9;subst hg;subst a1;simp only[wpListIn,Region.wanted,if_true];have rf:=r.ev xo;rw[hx]at rf;generalize C:a.eval xo=fv at rf;cases rf with
      |fn _ _ _ a5 U hn hm J hw =>
      have ra:=zz.append3 ⟨hn,J⟩ (ux r.ev args) ⟨hm,hw⟩;have ad:((({ dst:=none,op := .defer { callee := .value xo,args,argTypes:=ah },type:=ai,pos:=ab,after:=aj,guard:=none }:wg).semAt (WF Ro.bare).round a.eval).run P w) =
        .ok (.defer { target := .fn (.func g) U,args:=a5++args.map a.eval }) w:=by
       rw[show (WF Ro.bare).round=none from rfl,Oper.semAt_none];simp only[execOp,resolve,Sem.run_bind,Sem.run_pure,Result.andThen_ok,C,Deferred.ofValue]
      refine⟨fun _ _=>trivial,?_⟩;rw[ad,Oper.uponIn_defer];rw[r.bare]
      let d:Deferred:={ target := .fn (.func g) U,args:=a5++args.map a.eval }
      let t:=first++evs st.ev args.toList++a8
      let j:=a5++args.map a.eval++U
      let ro:Ro:=⟨none,[d],true,t.zip j.toList⟩
      have af:∀{G:Gh} {h:Array Obj},(∀ p,p∈ro.kp->VRel G h p.1 p.2)↔zz G h t j:=by
       intro G h;constructor
       .intro hk
        refine⟨ra.1,fun k x hx=>?_⟩;have ak:k<j.size:=by rw[ra.1];exact(qe.1 hx).1
        have J:j.toList[k]?=some (j.getD k va):=by simp[qB,ak]
        have:(x,j.getD k va)∈t.zip j.toList:=qZ (i:=k) (by rw[List.getElem?_zip_eq_some];exact⟨hx,J⟩);exact hk _ this
       .intro ha p hp
        obtain⟨k,hk⟩:=List.mem_iff_getElem?.1 hp;rw[List.getElem?_zip_eq_some]at hk;have:=ha.2 k p.1 hk.1;have e:j.getD k va=p.2:=by
         have h2:=hk.2;rw[Array.getElem?_toList]at h2;simp[qB,h2]
        rwa[e]at this
      show y.wpIn (WF Ro.bare) 0 P _ _ _;refine UA (pl:=pl) (n:=fn.ntmps) y (ro:=ro) s0 _ _ st _ w G ?_ ⟨r.tm,fun _=>Dfs.nil _ _ _ _ _ _,r.size,r.stp,af.2 ra⟩ hd.2 (.inl ⟨rfl,rfl⟩) a4;intro ae e st a w' G' C r he;obtain⟨Ds,g1,g2,g3,r',al⟩:=r.left rfl;have key:∀(m:Option AV) (u:FrameMode),u ≠ .run->MRel G' (vO Ds w').heap m u->jo P g t st.mu m (fun l=>OptK (yU P ⟨st.tm,l⟩ fn.results.toList) fun r=>R (.ret r) l) ->
        LeavesInM Fence.wide 0 P fn a.tmps (REnd G0 I w0 R) a.defers u w':=by
       intro m u hu hm hs;rw[g1];refine Ul hu Ds w' g2 g3 ?_;refine⟨hu,.inr ⟨fun h=>by simp[Fence.wide]at h,.func g,U,g,j,rfl,?_,fun _ _=>trivial,?_⟩⟩
       .simp only[invoke,d]
        exact aa _ _
       .refine (hs.2 G' (vO Ds w') j u r'.stp.sim (af.1 r'.kp) hm).mono ?_
        intro e u' av ⟨v,G2,an,he,ag,ao,z,hz,hR⟩;subst he;simp only;rw[ag];have r2:=r'.put (d:=none) s0 ao (.any va) rfl;obtain⟨u2,k1,k2⟩:=ZT (fn:=fn) r2 hz;exact⟨u2,k1,G2,an,r2.stp,.inl ⟨z,u2,hR,rfl,k2⟩⟩
      cases ae<;>cases e<;>simp only[ERel]at he
      .exact key none .returning zSp rfl C
      .exact C.elim
      .exact key none .returning zSp rfl C
      .obtain ⟨v,rfl,J⟩:=he
       exact key (some _) (.panicking _) zSp ⟨v,rfl,al _ _ J⟩ C
     .intro v st a w G u C r J
      exact a0 v st a w G u C r J
  |_=>exact h.elim
 |_=>intro st a w G r hd h;exact h.elim
theorem qL.of_awpD{f:us}{fn:Func}{c:vn}{mu:Mu}(g:yd P f)(hf:P.funcs[f]?=some fn)(i:fn.body=some c)
  (j:args.length<=fn.ntmps) (l:dOkC fn.ntmps c=true) (h:awpD P pl fn.results.toList R c (st0 args mu)):qL P f args mu R:=by
 refine⟨g,fun G w p s o=>?_⟩;refine(callsIn_wide (n:=0)).1 (callsIn_of_wp_marks hf i trivial ?_);refine qdG (pl:=pl) s c (st0 args mu) _ w G ?_ l h;exact Rel.start s o j
theorem jo.of_awp{f:us}{fn:Func}{id:Nat}{o:wg}{g:vn}{mu:Mu}{m:Option AV}{R:Mu->Prop}(U:yd P f)(hf:P.funcs[f]?=some fn)
  (hb:fn.body=some (.seq (.region id #[o] false) g)) (ho:∃ d ty pos a5,o={ dst:=d,op := .call { callee := .builtin .recover,args:=#[],argTypes:=a5 },type:=ty,pos:=pos,after:=#[],guard:=none })
  (hn:args.length<=fn.ntmps) (hd:dOkC fn.ntmps (.seq (.region id #[o] false) g)=true) (hr:noRF g=true)
  (h:awp P pl g (we P fn.results.toList fun e l=>∃ r,e = .ret r/\R l) ((st0 args mu).put o.dst (m.getD (.sc .nilIface)) mu)):jo P f args mu m R:=by
 obtain⟨od,a7,a0,a1,rfl⟩:=ho;refine⟨U,fun G w vs u s ra hm=>?_⟩;refine callsDIn_of_wpSIn hf hb trivial fun i cs hc=>?_
 have r0:Rel Ro.bare G mu w fn.ntmps G (st0 args mu) { tmps:=vs++Array.replicate (fn.ntmps-vs.size) va,defers:=[] } w:=Rel.start s ra hn;simp only[dOkC,qq]at hd;have a8:dOk fn.ntmps od=true:=by have:=hd.1;simpa using this
 refine wpSIn_seq (wpSIn_region ?_);have go:∀(J:List Frame) (v:j3) (T:FrameMode),J={ i with mode:=T } :: cs->settle T = .returning->VRel G w.heap (m.getD (.sc .nilIface)) v ->
   g.wpSIn Fence.wide 0 P (bodyPostS P fn i cs fun e T w'=>∃ v G' l,e = .returned v/\settle T = .returning/\Stp G mu w G' l w'/\R l)
    (({ tmps:=vs++Array.replicate (fn.ntmps-vs.size) va,defers:=[] }:Act).put od v) J w:=by
  intro J v T a4 I hv;refine wpSIn_of_wpIn rfl ?_;refine UA (pl:=pl) (n:=fn.ntmps) g (ro:=Ro.bare) s _ _ _ _ w G ?_ (r0.put s (Stp.refl s) hv a8) hd.2 (.inr hr) h;intro ae e st a w' G' hq r he;cases ae<;>cases e<;>simp only[ERel]at he
  .obtain ⟨z,hz,z',_,hR⟩:=hq
   obtain⟨u2,k1,k2⟩:=ZT (fn:=fn) r hz;exact⟨r.bare,T,a4,u2,k1,u2,G',st.mu,rfl,I,r.stp,hR⟩
  .exact hq.elim
  .obtain ⟨z,hz,z',_,hR⟩:=hq
   obtain⟨u2,k1,k2⟩:=ZT (fn:=fn) r hz;exact⟨r.bare,T,a4,u2,k1,u2,G',st.mu,rfl,I,r.stp,hR⟩
  .obtain ⟨z,hz,_⟩:=hq
   exact absurd hz zSp
 have a9:∀ ev:uk->j3,(execOp ev { dst:=od,op := .call { callee := .builtin .recover,args:=#[],argTypes:=a1 },type:=a7,pos:=a0,after:=#[],guard:=none }).run P w = .ok .recover w:=by
  intro ev;simp[execOp,resolve,invoke,builtin]
 simp only[List.size_toArray,zq,List.length_nil,qo,qo.loop,wpOpsSIn];refine⟨fun _ _=>trivial,?_⟩;simp only[Region.wanted];cases m with
 |none =>
  have hu:u = .returning:=hm;have t:recoverD (i :: cs)=none:=by simp[recoverD,hc,hu]
  rw[t];exact go _ .nilIface .returning (by rw[<-hu,<-hc]) rfl (.sc _ rfl)
 |some x =>
  obtain⟨v,hu,hv⟩:=hm;have t:recoverD (i :: cs)=some (v,{ i with mode := .panicking [{ v,recovered:=true }] } :: cs):=by simp[recoverD,hc,hu]
  rw[t];exact go _ v (.panicking [{ v,recovered:=true }]) rfl rfl hv
end
end Go.Ev
namespace Go.Ev
open Go Go.RowKit
section
variable {R:AEnd->Mu->Prop}{ops:Array wg}{f g:us}{args:List AV}{i:List ResultVar}{mu:Mu}{pl:Pol}{P:qf}
def EndR(G:Gh)(h:Array Obj):AEnd->Ending->Prop
 | .ret r,e=>∃ v,e = .returned v/\VRel G h r v
 | .pan r,e=>∃ v,e = .panicked [{ v,recovered:=false }]/\VRel G h r v
def JQ(P:qf)(f:us)(args:List AV)(V:AEnd->Prop):Prop:=yd P f /\
 ∀(i:Nat->Prop) (w:j2) (l:Array j3),Sim ⟨i,[]⟩ [] w.heap->zz ⟨i,[]⟩ w.heap args l ->
  Calls P f l w fun e j=>∃ g a,V a/\EndR ⟨g,[]⟩ j.heap a e/\(∀ b,i b->g b)/\(∀ b,g b->b<j.heap.size/\(i b\/w.heap.size<=b))/\ZI w.heap.size w j
abbrev US(P:qf)(f:us)(args:List AV)(e:AEnd):Prop:=JQ P f args (·=e)
theorem US.toP{r:AV}(h:US P f args (.ret r)):qd P f args r:=by
 refine⟨h.1,fun i w l o p=>(h.2 i w l o p).mono fun e T ⟨g,a,j,t,C,I,J⟩=>?_⟩;subst j;obtain⟨v,R,j⟩:=t;exact⟨g,v,R,C,I,J,j⟩
def RdE(mu:Mu):AEnd->AEnd->Prop
 | .ret x,.ret y=>Rd mu x y
 | .pan x,.pan y=>Rd mu x y
 |_,_=>False
theorem JQ.of_sound{V:AEnd->Prop}(h:qL P f args [] fun e l=>∃ C,V C/\RdE l e C):JQ P f args V:=by
 obtain⟨I,h⟩:=h;refine⟨I,fun p w vs hi ra=>?_⟩;refine(h ⟨p,[]⟩ w vs hi ra).mono fun e R ⟨T,l,st,hR⟩=>?_
 have g:∀ b,¬Live ⟨p,[]⟩ [] b:=fun b ⟨i,c,t,hc,_⟩=>by simp at hc
 have fin:∀ a,V a->EndR ⟨fun b=>T.imm b\/Live T l b,[]⟩ R.heap a e->∃ j a,V a/\EndR ⟨j,[]⟩ R.heap a e/\(∀ b,p b->j b)/\(∀ b,j b->b<R.heap.size/\(p b\/w.heap.size<=b))/\ZI w.heap.size w R:=by
  intro a J hr;refine⟨fun b=>T.imm b\/Live T l b,a,J,hr,fun b r => .inl (st.le.imm b r),fun b r=>?_,⟨st.os,st.tape,st.output,st.size,fun k hk=>st.keep k hk (g k)⟩,st.drawn⟩;rcases r with r|r
  .refine ⟨st.sim.imm b r,?_⟩
   rcases st.inew b r with h|h|h
   .exact .inl h
   .exact absurd h (g b)
   .exact .inr h
  .refine ⟨st.sim.livesize r,?_⟩
   rcases st.live b r with h|h
   .exact absurd h (g b)
   .exact .inr h
 rcases hR with ⟨r',v,⟨C,J,o⟩,rfl,U⟩|⟨r',v,⟨C,J,o⟩,rfl,U⟩
 .cases C with
  |ret y=>exact fin _ J ⟨v,rfl,o.sound st.sim U⟩
  |pan y=>exact o.elim
 .cases C with
  |ret y=>exact o.elim
  |pan y=>exact fin _ J ⟨v,rfl,o.sound st.sim U⟩
@[go_sem] theorem RdE_ret(mu:Mu)(x y:AV):RdE mu (.ret x) (.ret y)=Rd mu x y:=eqS rfl
theorem qc.eff0{K i:AV->Mu->Prop}(j:qL P g args mu R)(k:∀ r m,R (.ret r) m->K r m)(kp:∀ r m,R (.pan r) m->i r m) :
  qc P false mu (.fn (.func g) [] []) args K i:=
 .inr ⟨rfl,.inl ⟨g,[],[],R,rfl,zUs j,k,kp⟩⟩
theorem qL.hid{i:Nat}{c:Cell}(C:mu[i]?=some c)(I:c ≠ .dead)(h:qL P f args (mu.set i .dead) R) :
  qL P f args mu fun e m=>∃ g,R e g/\g[i]?=some .dead/\m=g.set i c:=by
 refine⟨h.1,fun G w J s T=>?_⟩;have j:i<G.blk.length:=by rw[s.len];exact(qe.1 C).1
 refine(h.2 G w J (s.hid i) T).mono fun e w' ⟨U,g,t,hR⟩=>?_
 obtain⟨g1,g2,g3⟩:=t.unhid s C I (b:=(G.blk[i]'j).1) (t:=(G.blk[i]'j).2) (zP1 j);refine⟨U,g.set i c,g3,?_⟩;rcases hR with ⟨r,v,l,o,p⟩|⟨r,v,l,o,p⟩
 .exact .inl ⟨r,v,⟨g,l,g1,rfl⟩,o,p⟩
 .exact .inr ⟨r,v,⟨g,l,g1,rfl⟩,o,p⟩
theorem qL.monoR{R':AEnd->Mu->Prop}(h:qL P f args mu R)(k:∀ e m,R e m->R' e m):qL P f args mu R':=by
 refine⟨h.1,fun G w l s o=>(h.2 G w l s o).mono fun e J ⟨p,C,t,I⟩=>⟨p,C,t,?_⟩⟩;rcases I with ⟨r,v,g,i,j⟩|⟨r,v,g,i,j⟩
 .exact .inl ⟨r,v,k _ _ g,i,j⟩
 .exact .inr ⟨r,v,k _ _ g,i,j⟩
attribute [go_sem] wU
def JR(P:qf)(pl:Pol)(i:List ResultVar)(R:AEnd->Mu->Prop)(ops:Array wg)(g:vn)(st:St):Option (List wg×wg)->Prop
 |some (pre,o)=>awpS P pl false ops pre (fun st=>wV P pl i R o g st) (fun v st=>R (.pan v) st.mu) st
 |none=>awpS P pl false ops ops.toList (fun st=>awpD P pl i R g st) (fun v st=>R (.pan v) st.mu) st
@[go_sem ↓] theorem awpD_seq{id:Nat}{g:vn}{st:St} :
  awpD P pl i R (.seq (.region id ops false) g) st=JR P pl i R ops g st (wU ops):=by
 cases h:wU ops<;>simp only[awpD,JR,h]
@[go_sem] theorem qnJ{g:vn}{st:St}{pre:List wg}{o:wg} :
  JR P pl i R ops g st (some (pre,o))=awpS P pl false ops pre (fun st=>wV P pl i R o g st) (fun v st=>R (.pan v) st.mu) st:=eqS rfl
@[go_sem] theorem qnK{g:vn}{st:St} :
  JR P pl i R ops g st none=awpS P pl false ops ops.toList (fun st=>awpD P pl i R g st) (fun v st=>R (.pan v) st.mu) st:=eqS rfl
theorem wV.intro{p:List ResultVar}{x:uk}{args:Array uk}{l:Array j1}{ty:j1}{pos:String}{r:Array Edge}{t:Option (Nat×Bool)}{d:Option Tmp}{i:vn}{st:St}{first caps:List AV}
  (C:st.ev x = .fn (.func g) first caps) (o:yd P g) (h:awp P pl i (UR P p g (first++evs st.ev args.toList++caps) R) st) :
  wV P pl p R { dst:=d,op := .defer { callee := .value x,args:=args,argTypes:=l },type:=ty,pos:=pos,after:=r,guard:=t } i st:=
 ⟨x,args,l,g,first,caps,rfl,C,o,h⟩
@[go_sem] theorem PostD_ret{j:List ResultVar}{i:List AV}{st:St}:UR P j g i R .ret st=jo P g i st.mu none fun l=>OptK (yU P ⟨st.tm,l⟩ j) fun r=>R (.ret r) l:=eqS rfl
theorem jo.mono{m:Option AV}{R R':Mu->Prop}(h:jo P g args mu m R)(k:∀ l,R l->R' l):jo P g args mu m R':=
 ⟨h.1,fun G w i u s j o=>(h.2 G w i u s j o).mono fun e J T ⟨v,p,l,r,t,C,I⟩=>⟨v,p,l,r,t,C,k _ I⟩⟩
@[go_sem] theorem ofV_mnone:ofV (.map none) = .sc (.map none):=eqS rfl
theorem Rd.aggs{xs ys:List AV}(h:Rds mu xs ys):Rd mu (.agg xs) (.agg ys) := .agg _ _ h.get.1 h.get.2
end
end Go.Ev
namespace Go.Proofs.YtahmfpfdgiemoaaGreatDoor
open Go Go.Ev Go.Proofs Tryz
namespace Y1
inductive Nd where
 |mk (op:Int) (name:ByteArray) (n:Int) (kids:List Nd) (pos:Int)
def Nd.op:Nd->Int | .mk o _ _ _ _=>o
def Nd.name:Nd->ByteArray | .mk _ s _ _ _=>s
def Nd.n:Nd->Int | .mk _ _ n _ _=>n
def Nd.kids:Nd->List Nd | .mk _ _ _ ks _=>ks
def Nd.pos:Nd->Int | .mk _ _ _ _ p=>p
abbrev aS(s:ByteArray):AV := .sc (.string s)
mutual
def cNd:Nd->List AV
 | .mk op t n ks p=>[aI op,aS t,aI n,.lst false (cNds ks),aI p]
def cNds:List Nd->List (List AV)
 | []=>[]
 |k :: ks=>cNd k :: cNds ks
end
theorem UT:∀ ks:List Nd,cNds ks=ks.map cNd
 | []=>by simp[cNds]
 |k :: ks=>by simp[cNds,UT ks]
theorem yu(n:Nd):cNd n=[aI n.op,aS n.name,aI n.n,.lst false (n.kids.map cNd),aI n.pos]:=by
 obtain⟨op,t,k,ks,p⟩:=n;simp[cNd,UT,Nd.op,Nd.name,Nd.n,Nd.kids,Nd.pos]
@[go_sem] theorem Z1(n:Nd):(cNd n).length=5:=by rw[yu];rfl
@[go_sem] theorem cNd_take(n:Nd):(cNd n).take 5=cNd n:=zK (by rw[Z1];exact qn _)
@[go_sem] theorem JS(n:Nd):(cNd n).all AV.one=true:=by rw[yu];rfl
@[go_sem] theorem qO(n:Nd):(∀ x,x∈cNd n->x.one=true)=True:=eq_true fun x g=>by have:=qJ.1 (JS n) x g;simpa using this
@[go_sem] theorem cNd_f0(n:Nd):(cNd n).take 1=[aI n.op]:=by rw[yu];rfl
@[go_sem] theorem cNd_f1t(n:Nd):(cNd n).tail.take 1=[aS n.name]:=by rw[yu];rfl
@[go_sem] theorem cNd_f2(n:Nd):((cNd n).drop 2).take 1=[aI n.n]:=by rw[yu];rfl
@[go_sem] theorem cNd_f3(n:Nd):((cNd n).drop 3).take 1=[.lst false (n.kids.map cNd)]:=by rw[yu];rfl
@[go_sem] theorem kn(n:Nd):((cNd n).drop 4).take 1=[aI n.pos]:=by rw[yu];rfl
@[go_sem high] theorem put_cNd(z:List AV)(o:Nat)(n:Nd):putCells z o (cNd n)=z.take o++(cNd n++z.drop (o+5)):=by
 rw[yu];simp[putCells]
abbrev eNd(n:Nd):AV := .agg (cNd n)
abbrev lNd(ks:List Nd):AV := .lst false (ks.map cNd)
mutual
theorem wW:∀(n:Nd),∀ c,c∈cNd n->HF c
 | .mk op t n ks p=>by
  intro c g;simp only[cNd,qu,qD,or_false]at g;rcases g with rfl|rfl|rfl|rfl|rfl
  .exact HF.sc _
  .exact HF.sc _
  .exact HF.sc _
  .exact HF.lst (UU ks)
  .exact HF.sc _
theorem UU:∀(ks:List Nd),∀ r,r∈cNds ks->∀ c,c∈r->HF c
 | []=>by intro r g;simp[cNds]at g
 |k :: ks=>by
  intro r g;simp only[cNds,qu]at g;rcases g with rfl|g
  .exact wW k
  .exact UU ks r g
end
theorem za(n:Nd):HF (eNd n):=HF.agg (wW n)
theorem kq(ks:List Nd):HF (lNd ks):=HF.lst (by rw[<-UT];exact UU ks)
abbrev JT(e p:Int):AV := .ifc 213 (.agg [aI e,aI p])
theorem qdH(mu:Mu)(b:Nat)(x y:AV)(g:mu[b]?=some (.arr [x,y])):jo qb 132 [.ptr b 0] mu none fun l=>l=mu:=by
 refine jo.of_awp call132 func132 rfl ⟨_,_,_,_,rfl⟩ (yi zKr) zKr zKr (pl:={}) ?_;simp[go_sem]
end Y1
namespace Y2
open Y1
abbrev aT(t:List Int):AV := .agg (t.map fun x => .sc (.int .i8 x))
structure Kd where
 ar:Int
 ts:List (List Int)
abbrev mKd(ts:List (List Int)):AV := .ims (ts.map fun t=>(aT t,aB true))
abbrev cKd(k:Kd):List AV:=[aI k.ar,mKd k.ts]
theorem hf_aT(t:List Int):HF (aT t):=HF.agg fun c g=>by
 obtain⟨x,_,rfl⟩:=qk.1 g;exact HF.sc _
theorem jM{a b:ByteArray}(h:¬a=b):(a.toList == b.toList)=false:=by
 cases g:(a.toList == b.toList) with
 |false=>rfl
 |true=>exact absurd (Kf (by rw[beq_toListBytes];exact g)) h
def aSc:List (ByteArray×Kd)->AV
 | [] => .sc (.pointer none)
 |v :: s => .ip [aS v.1,aI v.2.ar,mKd v.2.ts,aSc s]
def jC(name:ByteArray):List (ByteArray×Kd)->List (ByteArray×Kd)
 | []=>[]
 |v :: s=>if v.1=name then v :: s else jC name s
end Y2
namespace Y3
def pad(l:List Int):List Int:=[l.getD 0 0,l.getD 1 0,l.getD 2 0]
abbrev i8s(l:List Int):List AV:=l.map fun x => .sc (.int .i8 x)
end Y3
namespace Y4
end Y4
namespace P1
open Y1 Y2 Y3
section
abbrev Tp:=List Int
variable {a b:List Tp}
structure Pd where
 name:ByteArray
 params:List (ByteArray×Int)
 body:Nd
structure TS where
 sorts:List (ByteArray×Bool)
 fields:List Fld
 preds:List Pd
 facts:List (ByteArray×Nd)
def ins(l:List Tp)(t:Tp):List Tp:=if t∈l then l else l++[t]
def uni(a b:List Tp):List Tp:=b.foldl ins a
theorem qdI{l:List Tp}{t x:Tp}:x∈ins l t↔x∈l\/x=t:=by
 unfold ins;split
 .exact ⟨.inl,fun h=>h.elim id fun e=>by rw[e];assumption⟩
 .simp
theorem vj{x:Tp}:x∈uni a b↔x∈a\/x∈b:=by
 unfold uni;induction b generalizing a with
 |nil=>simp
 |cons t b g =>
  rw[List.foldl_cons,g,qdI,qu,or_assoc]
theorem qdJ{l:List Tp}{t:Tp}(h:l.Nodup):(ins l t).Nodup:=by
 unfold ins;split
 .exact h
 .rename_i i
  rw[List.nodup_append];exact⟨h,zSp,fun x j y g e=>by simp at g;subst g;subst e;exact i j⟩
theorem Z2(h:a.Nodup):(uni a b).Nodup:=by
 unfold uni;induction b generalizing a with
 |nil=>exact h
 |cons t b g=>exact g (qdJ h)
def kOf(l:List Int):Kd:=⟨l.length,[pad l]⟩
def kSum(a b:Kd):Kd:=⟨a.ar,uni (uni [] a.ts) b.ts⟩
def conc(x:Tp)(n:Nat)(y:Tp)(m skip:Nat):Tp:=pad (x.take (n-skip)++(y.take m).drop skip)
def pairs(a b:List Tp):List (Tp×Tp):=a.flatMap fun x=>b.map fun y=>(x,y)
theorem Qv{x y:Tp}:(x,y)∈pairs a b↔x∈a/\y∈b:=by
 simp[pairs]
def vW(n m:Nat)(a b:List Tp):List Tp:=uni [] ((pairs a b).filterMap fun q=>if q.1.getD (n-1) 0=q.2.getD 0 0 then some (conc q.1 n q.2 m 1) else none)
def zA(a b:Kd):Kd:=⟨a.ar+b.ar-2,vW a.ar.toNat b.ar.toNat a.ts b.ts⟩
def uG(n m:Nat)(a b:List Tp):List Tp:=uni [] ((pairs a b).map fun q=>conc q.1 n q.2 m 0)
def vX(a b:Kd):Kd:=⟨a.ar+b.ar,uG a.ar.toNat b.ar.toNat a.ts b.ts⟩
def cloN:Nat->Nat->Kd->Kd
 | 0,_,a=>a
 |f+1,n,a=>if n<a.ts.length then cloN f a.ts.length (kSum a (zA a a)) else a
def kClo(a:Kd):Kd:=cloN 70 0 a
def zt(ns g:Nat):Kd:=⟨g,(qo ns).map fun (i:Nat)=>pad (zp g (i:Int))⟩
def Qw(a b:Kd):Kd:=⟨a.ar,a.ts.filter fun t=>decide (t∈b.ts)⟩
def kTr(a:Kd):Kd:=⟨2,uni [] (a.ts.map fun t=>[t.getD 1 0,t.getD 0 0,0])⟩
def uH:ByteArray:=⟨#[95,102,105,114,115,116]⟩
def uI:ByteArray:=⟨#[95,110,101,120,116]⟩
def j5(fs:List Fld)(nm:ByteArray):List Kd:=fs.filterMap fun f=>if f.name=nm then some (kOf f.sorts) else none
def wX(i:Nat)(s:ByteArray×Bool)(nm:ByteArray):List Kd:=
 (if s.1=nm then [kOf [(i:Int)]] else [])++((if s.2=true/\s.1++uH=nm then [kOf [(i:Int)]] else [])++(if s.2=true/\s.1++uI=nm then [kOf [(i:Int),(i:Int)]] else []))
def vY:Nat->List (ByteArray×Bool)->ByteArray->List Kd
 |_,[],_=>[]
 |i,s :: r,t=>wX i s t++vY (i+1) r t
def means(ts:TS)(nm:ByteArray):List Kd:=j5 ts.fields nm++vY 0 ts.sorts nm
structure Ck where
 ts:TS
 calls:Nat
 timed:List Bool
def zb(c:Ck)(nm:ByteArray):Option Nat:=(c.ts.preds.take c.calls).findIdx? fun p=>decide (p.name=nm)
def zO(op:Int):Bool:=decide (op=5)||decide (op=48)||decide (op=49)||decide (op=50)||decide (op=51)
def zF(c:Ck)(op:Int)(nm:ByteArray):Bool:=zO op||(decide (op=47)&&(match zb c nm with|some p=>c.timed.getD p false|none=>false))
mutual
def yk(c:Ck):Nd->Bool
 | .mk op t n ks p=>zF c op t||JU c ks
def JU(c:Ck):List Nd->Bool
 | []=>false
 |k :: ks=>yk c k||JU c ks
end
end
def tmsL(ts:TS):Nat->List Bool
 | 0=>[]
 |k+1=>tmsL ts k++(match ts.preds[k]? with|some p=>[yk ⟨ts,k,tmsL ts k⟩ p.body] | none=>[])
def mkCk(ts:TS)(g:Nat):Ck:=⟨ts,g,tmsL ts g⟩
abbrev Scp:=List (ByteArray×Kd)
abbrev Dg:=Int×Int
abbrev Res:=Except Dg (Option Kd)
def yV(c:Ck)(s:Scp)(nm:ByteArray)(pos:Int):Res:=
 match jC nm s with
 |v :: _ => .ok (some v.2)
 | []=>match means c.ts nm with
  | [] => .error (40,pos)
  | [k] => .ok (some k)
  |_ => .error (44,pos)
def vZ(op:Int)(a b:Kd):Kd:=if op=6\/op=14 then kSum a b else if op=7 then Qw a b else a
def binK(ns:Nat)(op:Int)(a:Kd):Kd:=if op=12 then kClo a else if op=13 then kSum (kClo a) (zt ns 2) else kTr a
def zG(ns:Nat)(op n pos:Int)(l:List (Option Kd)):Res:=
 if op=2 then .ok (some ⟨n,[]⟩)
 else if op=3 then .ok (some (zt ns 1))
 else if op=4 then .ok (some (zt ns 2))
 else match l with
  | [a]=>if op=5 then .ok a else match a with
   |some a=>if op=11\/op=12\/op=13 then (if a.ar=2 then .ok (some (binK ns op a)) else .error (42,pos)) else .ok none
   |none => .ok none
  | [some a,some b] =>
   if op=6\/op=14\/op=7\/op=8\/op=32\/op=33 then (if a.ar=b.ar then .ok (some (vZ op a b)) else .error (42,pos))
   else if op=9 then (if 1<=a.ar+b.ar-2/\a.ar+b.ar-2<=3 then .ok (some (zA a b)) else .error (42,pos))
   else if op=10 then (if a.ar+b.ar<=3 then .ok (some (vX a b)) else .error (42,pos))
   else .ok none
  |_ => .ok none
def wY(i:Int)(k:Kd):Bool:=k.ts.all fun t=>decide (t.getD 0 0=i)
mutual
def exam(c:Ck)(s:Scp)(inn:Bool):Nd->Res
 | .mk op t n ks pos =>
  if (inn&&zF c op t)=true then .error (46,pos)
  else if op=1 then yV c s t pos
  else if op=47 then
   if (c.ts.preds.any fun p=>decide (p.name=t))=true then
    match zb c t with
    |none => .error (45,pos)
    |some p=>match c.ts.preds[p]? with
     |none => .error (45,pos)
     |some g=>if g.params.length=ks.length then z6 c s pos g.params ks else .error (45,pos)
   else .error (40,pos)
  else if op=15\/op=45\/op=46 then zH c s (inn||decide (op=15)) t pos ks
  else match qP c s (inn||decide (op=12)||decide (op=13)) ks with
   | .error e => .error e
   | .ok l=>zG c.ts.sorts.length op n pos l
def qP(c:Ck)(s:Scp)(inn:Bool):List Nd->Except Dg (List (Option Kd))
 | [] => .ok []
 |k :: ks=>match exam c s inn k with
  | .error e => .error e
  | .ok a=>match qP c s inn ks with
   | .error e => .error e
   | .ok l => .ok (a :: l)
def z6(c:Ck)(s:Scp)(pos:Int):List (ByteArray×Int)->List Nd->Res
 |_,[] => .ok none
 | [],_ => .ok none
 |p :: g,k :: ks=>match exam c s true k with
  | .error e => .error e
  | .ok none => .error (42,pos)
  | .ok (some a)=>if a.ar=1 then (if wY p.2 a=true then z6 c s pos g ks else .error (43,pos)) else .error (42,pos)
def zH(c:Ck)(s:Scp)(inn:Bool)(nm:ByteArray)(pos:Int):List Nd->Res
 | [] => .ok none
 |k :: ks=>match exam c s inn k with
  | .error e => .error e
  | .ok none => .error (42,pos)
  | .ok (some a)=>if a.ar=1 then (match qP c ((nm,a) :: s) inn ks with
    | .error e => .error e
    | .ok _ => .ok (some a)) else .error (42,pos)
end
def yL(env:List (ByteArray×Int)):Scp:=env.foldl (fun s p=>(p.1,kOf [p.2]) :: s) []
def dgOf:Res->Dg
 | .ok _=>(0,0)
 | .error e=>e
def jN(c:Ck)(env:List (ByteArray×Int))(n:Nd):Dg:=if 30<=n.op then dgOf (exam c (yL env) false n) else (43,n.pos)
def ye(ts:TS)(env:List (ByteArray×Int))(n:Nd):Dg:=jN (mkCk ts ts.preds.length) env n
end P1
end Go.Proofs.YtahmfpfdgiemoaaGreatDoor
namespace Go.Ev
open Go
structure KeyT (P:qf) (kt:j1) {κ:Type} [DecidableEq κ] (kenc:κ->AV) (ok:κ->Prop):Prop where
 eq:∀ a b,ok a->ok b->ja P kt (kenc a) (kenc b)=some (decide (a=b))
 kok:∀ a,ok a->yF P kt (kenc a)=true
section
variable {κ α:Type} [DecidableEq κ]
def jp(k:κ):List (κ×α)->Nat->Option Nat
 | [],_=>none
 |e :: T,i=>if k=e.1 then some i else jp k T (i+1)
def getK(k:κ):List (κ×α)->Option α
 | []=>none
 |e :: T=>if k=e.1 then some e.2 else getK k T
def setK(k:κ)(v:α):List (κ×α)->List (κ×α)
 | []=>[(k,v)]
 |e :: T=>if k=e.1 then (k,v) :: T else e :: setK k v T
theorem UV{k:κ}:∀{es:List (κ×α)} {i:Nat} {j:Nat},jp k es i=some j->∃ n v,j=i+n/\es[n]?=some (k,v)/\getK k es=some v
 | [],_,_,h=>by simp[jp]at h
 |e :: es,i,j,h=>by
  unfold jp at h;unfold getK;split at h
  .rename_i g
   subst g;simp only[qj]at h;subst h;exact⟨0,e.2,rfl,rfl,zSp⟩
  .rename_i g
   obtain⟨n,v,rfl,l,o⟩:=UV h;exact⟨n+1,v,zOm,zUs l,by rw[if_neg g];exact o⟩
theorem UW{k:κ}:∀{es:List (κ×α)} {i:Nat},jp k es i=none->getK k es=none/\∀ v,setK k v es=es++[(k,v)]
 | [],_,_=>⟨rfl,fun _=>rfl⟩
 |e :: es,i,h=>by
  unfold jp at h;split at h
  .exact absurd h zSp
  .rename_i g
   obtain⟨j,l⟩:=UW h;refine⟨by unfold getK;rw[if_neg g];exact j,fun v=>?_⟩;simp only[setK,if_neg g,l v,yD]
theorem kr{k:κ}{v:α}:∀{es:List (κ×α)} {i n:Nat},jp k es i=some (i+n)->setK k v es=es.set n (k,v)
 | [],_,_,h=>by simp[jp]at h
 |e :: es,i,n,h=>by
  unfold jp at h;split at h
  .rename_i g
   have:n=0:=by simp only[qj]at h;omega
   subst this;simp[setK,g]
  .rename_i g
   obtain⟨m,l,o,_⟩:=UV h;have:n=m+1:=zOm;subst this;have j:jp k es (i+1)=some (i+1+m):=by rw[h,Nat.add_assoc,Nat.add_comm 1 m]
   simp only[setK,if_neg g,kr (v:=v) j,List.set_cons_succ]
theorem ku{k:κ}{v:α}:∀{es:List (κ×α)} {x:κ},x∈(setK k v es).map Prod.fst↔x=k\/x∈es.map Prod.fst
 | [],x=>by simp[setK]
 |e :: es,x=>by
  unfold setK;split
  .rename_i g;subst g;simp
  .simp only[yS,qu,ku]
   constructor
   .rintro (h|h|h)
    .exact .inr (.inl h)
    .exact .inl h
    .exact .inr (.inr h)
   .rintro (h|h|h)
    .exact .inr (.inl h)
    .exact .inl h
    .exact .inr (.inr h)
theorem UX{k:κ}{v:α}:∀{es:List (κ×α)},(es.map Prod.fst).Nodup->((setK k v es).map Prod.fst).Nodup
 | [],_=>by simp[setK]
 |e :: es,h=>by
  unfold setK;split
  .rename_i g;subst g;simpa using h
  .rename_i g
   rw[yS,jw]at h⊢;exact⟨fun i=>(ku.1 i).elim (fun e=>g e.symm) h.1,UX h.2⟩
theorem v6{k x:κ}{v:α}:∀{es:List (κ×α)},getK x (setK k v es)=if x=k then some v else getK x es
 | []=>by simp[setK,getK]
 |e :: es=>by
  unfold setK;split
  .rename_i i
   subst i;by_cases g:x=e.1
   .simp [getK,g]
   .simp [getK,g]
  .rename_i i
   by_cases g:x=e.1
   .have:x≠k:=fun h=>i (by rw[<-h,g])
    rw[if_neg this];simp[getK,g]
   .simp only[getK,if_neg g,v6]
theorem Z3{k:κ}{v:α}:∀{es:List (κ×α)},(es.map Prod.fst).Nodup->(getK k es=some v↔(k,v)∈es)
 | [],_=>by simp[getK]
 |e :: es,h=>by
  rw[yS,jw]at h;unfold getK;by_cases g:k=e.1
  .rw [if_pos g]
   subst g;refine⟨fun h=>?_,fun j=>?_⟩
   .cases h;exact qR
   .rcases qu.1 j with i|i
    .rw [<-i]
    .exact absurd (qk.2 ⟨_,i,rfl⟩) h.1
  .rw [if_neg g,Z3 h.2,qu]
   exact⟨.inr,fun h=>h.elim (fun e=>absurd (congrArg Prod.fst e) g) id⟩
def delK(k:κ):List (κ×α)->List (κ×α)
 | []=>[]
 |e :: T=>if k=e.1 then T else e :: delK k T
theorem kv{k:κ}:∀{es:List (κ×α)},(es.map Prod.fst).Nodup->∀{x:κ×α},x∈delK k es↔x∈es/\x.1≠k
 | [],_,x=>by simp[delK]
 |e :: es,h,x=>by
  rw[yS,jw]at h;unfold delK;by_cases i:k=e.1
  .rw [if_pos i]
   refine⟨fun j=>⟨qK _ j,fun l=>?_⟩,fun j=>?_⟩
   .exact h.1 (qk.2 ⟨x,j,by rw[l,i]⟩)
   .rcases qu.1 j.1 with g|g
    .exact absurd (by rw[g,i]) j.2
    .exact g
  .rw [if_neg i,qu,qu,kv h.2]
   refine⟨fun g=>?_,fun g=>?_⟩
   .rcases g with rfl|g
    .exact ⟨.inl rfl,fun e=>i e.symm⟩
    .exact ⟨.inr g.1,g.2⟩
   .rcases g with ⟨g|g,o⟩
    .exact .inl g
    .exact .inr ⟨g,o⟩
theorem UY{k:κ}:∀{es:List (κ×α)},(delK k es).Sublist es
 | []=>by simp[delK]
 |e :: es=>by
  unfold delK;split
  .exact List.sublist_cons_self _ _
  .exact UY.cons_cons _
theorem qdK{k:κ}{es:List (κ×α)}(h:(es.map Prod.fst).Nodup):((delK k es).map Prod.fst).Nodup:=h.sublist (UY.map _)
theorem wh{k x:κ}:∀{es:List (κ×α)},(es.map Prod.fst).Nodup->getK x (delK k es)=if x=k then none else getK x es
 | [],_=>by simp[delK,getK]
 |e :: es,h=>by
  rw[yS,jw]at h;unfold delK;by_cases i:k=e.1
  .rw [if_pos i]
   by_cases g:x=k
   .rw [if_pos g]
    cases l:getK x es with
    |none=>rfl
    |some v=>exact absurd (qk.2 ⟨_,(Z3 h.2).1 l,by rw[g,i]⟩) h.1
   .rw [if_neg g]
    have:x≠e.1:=fun j=>g (by rw[j,i])
    simp[getK,this]
  .rw [if_neg i]
   by_cases g:x=e.1
   .have:x≠k:=fun j=>i (by rw[<-j,g])
    rw[if_neg this];simp[getK,g]
   .simp only[getK,if_neg g,wh h.2]
abbrev encK(g:κ->AV)(venc:α->AV)(es:List (κ×α)):List (AV×AV):=es.map fun e=>(g e.1,venc e.2)
variable {P:qf} {kt:j1} {kenc:κ->AV} {ok:κ->Prop} {venc:α->AV}
theorem KeyT.find(h:KeyT P kt kenc ok){k:κ}(g:ok k):∀{es:List (κ×α)} {i:Nat},(∀ e,e∈es->ok e.1)->q9 P kt (kenc k) (encK kenc venc es) i=some (jp k es i)
 | [],i,_=>rfl
 |e :: es,i,j=>by
  simp only[encK,yS,q9,h.eq k e.1 g (j e zSp),jp];by_cases l:k=e.1
  .simp [l]
  .simp only[l,decide_false,if_false]
   exact KeyT.find h g (fun e o=>j e (zP1 o))
theorem KeyT.update(h:KeyT P kt kenc ok){et:j1}{t:j1}(l:mapT P t=some (kt,et)){mu:Mu}{b:Nat}{es:List (κ×α)}(o:mu[b]?=some (.mp (encK kenc venc es))){k:κ}{v:α}(g:ok k)(p:∀ e,e∈es->ok e.1) :
  vM P mu t (.mp b) (kenc k) (venc v)=some (mu.set b (.mp (encK kenc venc (setK k v es)))):=by
 simp only[vM,l,o,h.kok k g,if_true,h.find (venc:=venc) g p,qS];cases i:jp k es 0 with
 |none=>simp only[Je,(UW i).2 v,encK,zd,yS,List.map_nil]
 |some j =>
  have r:jp k es 0=some (0+j):=by rw[i,yc]
  simp only[Je,kr (v:=v) r,encK,List.map_set]
theorem KeyT.look(h:KeyT P kt kenc ok){et:j1}{t:j1}(o:mapT P t=some (kt,et)){mu:Mu}{m:AV}{es:List (κ×α)}(p:jz mu m=some (encK kenc venc es)){k:κ}(g:ok k)(r:∀ e,e∈es->ok e.1){z:AV}(C:qx P et=some z)(b:Bool) :
  yB P mu t m (kenc k) b=some (match getK k es with|some v=>if b then .tup [venc v,.sc (.bool true)] else venc v|none=>if b then .tup [z,.sc (.bool false)] else z):=by
 simp only[yB,o,p,h.kok k g,if_true,h.find (venc:=venc) g r];cases i:jp k es 0 with
 |none=>simp only[(UW i).1,C,qS]
 |some j =>
  obtain⟨n,v,l,I,J⟩:=UV i;rw[yc]at l;subst l;simp only[J,encK,zm,I,qS]
end
section
variable (n:Nat) (J:List Nat->St->Prop) (seen:List Nat) (Q:qM->St->Prop) (st:St)
end
theorem qh.upK{P:qf}{pl:Pol}{body:vn}{Q:qM->St->Prop}{st:St}(N:Nat)(I:Nat->St->Prop)(g:I 0 st)(h:∀ k st,k<=N->I k st->awp P pl body (upQ (fun k=>Keep (I k) .mk) N k Q) st):qh P pl body Q st:=
 qh.up N (fun k=>Keep (I k) .mk) g h
theorem Keep.mk'{p:St->Prop}{st:St}(h:p st):Keep p .mk st:=h
end Go.Ev
namespace Go.Proofs.YtahmfpfdgiemoaaGreatDoor
open Go Go.Ev Go.Proofs Tryz
namespace YM
open Y2 P1
def okT(t:Tp):Prop:=t.length=3
abbrev eT(l:List Tp):List (AV×AV):=l.map fun t=>(aT t,aB true)
end YM
namespace Y5
end Y5
namespace Y6
open Y2 Y3 P1 YM
section
variable {a b:List Tp}{m:Nat}
structure okK (k:Kd):Prop where
 ar:1<=k.ar/\k.ar<=3
 len:∀ t,t∈k.ts->okT t
 nd:k.ts.Nodup
theorem kw{l:List Tp}(h:l.Nodup):((eT l).map Prod.fst).Nodup:=by
 have e:(eT l).map Prod.fst=l.map aT:=by simp[eT]
 rw[e];refine(List.pairwise_map (f:=aT)).2 (h.imp fun g e=>g ?_);have inj:∀(a b:List Int),i8s a=i8s b->a=b:=by
  intro a;induction a with
  |nil=>intro b h;cases b with
   |nil=>rfl
   |cons=>simp at h
  |cons x a i=>intro b h;cases b with
   |nil=>simp at h
   |cons y b =>
    simp only[i8s,yS,List.cons.injEq,AV.sc.injEq,Value.int.injEq,true_and]at h;rw[h.1,i b h.2]
 exact inj _ _ (AV.agg.inj e)
theorem Rd.setT{mu:Mu}{l k:List Tp}(i:mu[m]?=some (.mp (eT l)))(j:l.Nodup)(o:k.Nodup)(h:∀ t,t∈l↔t∈k):Rd mu (.mp m) (mKd k):=
 Rd.mps i (kw j) (kw o) (fun x=>by
  simp only[eT,qk];constructor
  .rintro ⟨t,g,rfl⟩;exact⟨t,(h t).1 g,rfl⟩
  .rintro ⟨t,g,rfl⟩;exact⟨t,(h t).2 g,rfl⟩) (fun x p=>by
  obtain⟨t,_,rfl⟩:=qk.1 p;exact⟨hf_aT t,HF.sc _⟩)
def UZ(n m:Nat)(x y:Tp):Option Tp:=if x.getD (n-1) 0=y.getD 0 0 then some (conc x n y m 1) else none
theorem wZ{n:Nat}{t:Tp}:t∈vW n m a b↔∃ x y,(x∈a/\y∈b)/\UZ n m x y=some t:=by
 unfold vW UZ;rw[vj];simp only[qD,false_or,List.mem_filterMap];constructor
 .rintro ⟨⟨x,y⟩,g,i⟩;exact⟨x,y,Qv.1 g,i⟩
 .rintro ⟨x,y,g,i⟩;exact⟨(x,y),Qv.2 g,i⟩
theorem qdL{n:Nat}:(vW n m a b).Nodup:=Z2 zSp
def wm(n m:Nat)(x y:Tp):Option Tp:=some (conc x n y m 0)
theorem Z4{n:Nat}{t:Tp}:t∈uG n m a b↔∃ x y,(x∈a/\y∈b)/\wm n m x y=some t:=by
 unfold uG wm;rw[vj];simp only[qD,false_or,qk];constructor
 .rintro ⟨⟨x,y⟩,g,i⟩;exact⟨x,y,Qv.1 g,by rw[<-i]⟩
 .rintro ⟨x,y,g,i⟩;exact⟨(x,y),Qv.2 g,Option.some.inj i⟩
theorem qdM{n:Nat}:(uG n m a b).Nodup:=Z2 zSp
end
end Y6
namespace Y7
end Y7
namespace Y8
open Y2
structure ok2 (k:Kd):Prop where
 ar:k.ar=2
 nd:k.ts.Nodup
 ts:∀ t,t∈k.ts->∃ x y:Int,t=[x,y,0]/\0<=x/\x<4/\0<=y/\y<4
end Y8
end Go.Proofs.YtahmfpfdgiemoaaGreatDoor
namespace Go.Ev
open Go Go.RowKit
theorem U0(w:j2)(os:Array Obj)(b:Nat)(h:b<w.heap.size):(Sort.grow w os).heap[b]?=w.heap[b]?:=by
 show (w.heap++os)[b]?=_;rw[Array.getElem?_append_left h]
theorem Stp.grow{G:Gh}{mu:Mu}{w:j2}(s:Sim G mu w.heap)(os:Array Obj):Stp G mu w G mu (Sort.grow w os):=by
 have g:w.heap.size<=(Sort.grow w os).heap.size:=by show _<=(w.heap++os).size;simp
 have r:Ext G w.heap (Sort.grow w os).heap:=⟨g,fun b j=>U0 w os b (s.imm b j)⟩;refine⟨.refl G,⟨s.len,fun b j=>Nat.lt_of_lt_of_le (s.imm b j) g,?_,s.live,s.inj,s.tab.mono (fun _ h=>h) r.keep⟩,fun b j _=>U0 w os b j,g,fun b h => .inl h,fun b h => .inl h,rfl,rfl,rfl,qn _⟩;intro i c l p C I J;obtain⟨o,t,P⟩:=s.obj i c l p C I J;exact⟨o,by rw[U0 w os l (zM.1 t).1];exact t,P.mono (.refl G) r⟩
def srtI(zs:List Int):List Int:=zs.mergeSort fun x y=>decide (x<=y)
theorem Z5(zs:List Int):(srtI zs).length=zs.length:=List.length_mergeSort ..
theorem qdN{P:qf}{f:us}(I:yd P f)
  (r:∀(g off cap:Nat) (zs:List Int) (w:j2),Sort.Holds (Value.int .i64) w g off zs.toArray->g<w.heap.size->zs.length<4611686018427387904 ->
   Calls P f #[.slice (some ⟨g,off,none⟩) zs.length cap] w fun e w'=>e = .returned (.tuple #[])/\∃ n os,w'=Sort.grow (Sort.putRow (Value.int .i64) (Sort.ahead w n) g off (zs.mergeSort fun x y=>decide (x<=y)).toArray) os)
  {mu:Mu} {b off:Nat} {cells:List AV} {zs:List Int} (hc:mu[b]?=some (.arr cells)) (hz:∀(k:Nat) (n:Int),zs[k]?=some n->cells[off+k]?=some (.sc (.int .i64 n))) (hl:zs.length<4611686018427387904) (J:off+zs.length<=cells.length) :
  qL P f [.sl b 1 off zs.length] mu fun e m=>e = .ret (.tup [])/\m=mu.set b (.arr (putCells cells off ((srtI zs).map fun n => .sc (.int .i64 n)))):=by
 refine⟨I,fun G w vs s ra=>?_⟩;obtain⟨v,rfl,rv⟩:=ra.one_inv;cases rv with
 |sl _ _ _ _ g R cap hb ht a6 =>
 obtain⟨arr,e0,h1,h2,h3,h4⟩:=s.arr b cells g R hc hb;have t:∀(k:Nat) (n:Int),zs[k]?=some n->arr[off+k]?=some (.int .i64 n):=by
  intro k n hk;have hx:=hz k n hk;have hr:=(h4 _ _ hx).2;have a7:off+k<cells.length:=(qe.1 hx).1;have o:off+k<arr.size:=zOm;have:arr.getD (off+k) va = .int .i64 n:=by generalize arr.getD (off+k) va=u at hr;cases hr;rfl
  rw[qB,u4 o]at this;rw[u4 o];exact congrArg some this
 have hH:Sort.Holds (Value.int .i64) w g off zs.toArray:=by
  intro j i;have a2:j<zs.length:=zUs i;refine⟨?_,?_⟩
  .have:=t j zs[j] (qv a2)
   simp only[World.cell?,h1,Option.isSome_none,Bool.false_eq_true,if_false,this];rw[getElem!_pos zs.toArray j i];rfl
  .simp only[World.frozen?,h1]
   simp
 have T:g<w.heap.size:=(zM.1 h1).1;refine(r g off cap zs w hH T hl).mono fun e w' ⟨he,n,os,hw⟩=>?_
 have U:=Z5 zs
 have a0:(Sort.putRow (Value.int .i64) (Sort.ahead w n) g off (srtI zs).toArray).heap[g]?=some (.cells (Sort.putCells (Value.int .i64) off (srtI zs).toArray arr) e0 (0,0)):=by
  show (w.heap.modify g (Sort.onCells _))[g]?=_;rw[Array.getElem?_modify,if_pos rfl,h1];rfl
 have a1:∀ k,k≠g->(Sort.putRow (Value.int .i64) (Sort.ahead w n) g off (srtI zs).toArray).heap[k]?=w.heap[k]?:=by
  intro k hk;show (w.heap.modify g (Sort.onCells _))[k]?=_;rw[Array.getElem?_modify,if_neg (fun e=>hk e.symm)]
 have st1:Stp G mu w G (mu.set b (.arr (putCells cells off ((srtI zs).map fun n => .sc (.int .i64 n))))) (Sort.putRow (Value.int .i64) (Sort.ahead w n) g off (srtI zs).toArray):=by
  refine Stp.write (hdr:=Nat.le_add_right _ _) s b (.arr cells) _ g R _ hc zSp zSp hb zSp a0 a1 rfl rfl rfl ?_;have p:off+((srtI zs).map fun n=>AV.sc (.int .i64 n)).length<=cells.length:=by simp[U];exact J
  refine⟨_,e0,rfl,by simp[Sort.putCells,h2],by rw[yq _ _ _ p];simp;omega,fun j y i=>?_⟩;rw[yq _ _ _ p,zc]at i;have C:j<arr.size:=by
   have:=(qe.1 i).1;simp[U]at this;omega
  have a3:(Sort.putCells (Value.int .i64) off (srtI zs).toArray arr).getD j va=if off<=j/\j<off+(srtI zs).toArray.size then (Value.int .i64) (srtI zs).toArray[j-off]! else arr[j]:=by
   rw[qB,Sort.putCells,Array.getElem?_mapIdx,u4 C];rfl
  rw[a3];have a4:(cells.take off).length=off:=zSo;by_cases a5:j<off
  .rw [zGa,List.getElem?_take,if_pos a5]at i
   rw[zIn];have:=h4 j y i;rw[qB,u4 C]at this;exact this
  .rw [qT zOm,a4]at i
   by_cases l:j-off<(srtI zs).length
   .rw [qI (zUs l),zm,qv l]at i
    simp only[qS,qj]at i;subst i;rw[if_pos zSo];refine⟨rfl,?_⟩;rw[getElem!_pos (srtI zs).toArray (j-off) (zUs l)];exact .sc _ rfl
   .rw [qT zSo,y7]at i
    rw[if_neg zSo];have e1:off+((srtI zs).map fun n=>AV.sc (.int .i64 n)).length+(j-off-((srtI zs).map fun n=>AV.sc (.int .i64 n)).length)=j:=by simp at l⊢;omega
    rw[e1]at i;have:=h4 j y i;rw[qB,u4 C]at this;exact this
 have st2:=st1.trans s (Stp.grow st1.sim os);rw[show (srtI zs).toArray=(zs.mergeSort fun x y=>decide (x<=y)).toArray from rfl]at st2;rw[<-hw]at st2;exact⟨G,_,st2,.inl ⟨_,_,⟨rfl,rfl⟩,he,.tup [] #[] rfl zSp⟩⟩
end Go.Ev
namespace Go.Proofs
open Go.Shelf
def Tryz.lays189_ren:Go.Shelf.Ren:=⟨fun|189=>150|125=>198|257=>197|128=>235|129=>236|294=>227|295=>228|296=>229|297=>230|298=>231|299=>232|216=>71|300=>233|301=>234|328=>255|329=>256|330=>257|331=>258|332=>259|215=>125|343=>270|n=>n,fun|28=>28|3=>3|46=>135|0=>0|51=>315|53=>317|4=>4|183=>309|182=>308|131=>92|5=>5|9=>9|218=>331|222=>335|228=>344|229=>345|n=>n,fun|n=>n⟩
theorem Tryz.lays189:Go.Proofs.Lays.n189 qb Tryz.lays189_ren:={
 mixed:=zKr
 f125:=func198.trans (congrArg some zKr)
 f128:=func235.trans (congrArg some zKr)
 f129:=func236.trans (congrArg some zKr)
 f189:=func150.trans (congrArg some zKr)
 f215:=func125.trans (congrArg some zKr)
 f216:=func71.trans (congrArg some zKr)
 f257:=func197.trans (congrArg some zKr)
 f294:=func227.trans (congrArg some zKr)
 f295:=func228.trans (congrArg some zKr)
 f296:=func229.trans (congrArg some zKr)
 f297:=func230.trans (congrArg some zKr)
 f298:=func231.trans (congrArg some zKr)
 f299:=func232.trans (congrArg some zKr)
 f300:=func233.trans (congrArg some zKr)
 f301:=func234.trans (congrArg some zKr)
 f328:=func255.trans (congrArg some zKr)
 f329:=func256.trans (congrArg some zKr)
 f330:=func257.trans (congrArg some zKr)
 f331:=func258.trans (congrArg some zKr)
 f332:=func259.trans (congrArg some zKr)
 f343:=func270.trans (congrArg some zKr)
 t0:=Tryz.underlying0
 a0:=Tryz.isAgg0
 z0:=Tryz.sizeOf0
 v0:=Tryz.zeroValue0
 t3:=Tryz.underlying3
 a3:=Tryz.isAgg3
 z3:=Tryz.sizeOf3
 v3:=Tryz.zeroValue3
 t4:=Tryz.underlying4
 a4:=Tryz.isAgg4
 z4:=Tryz.sizeOf4
 v4:=Tryz.zeroValue4
 t5:=Tryz.underlying5
 a5:=Tryz.isAgg5
 z5:=Tryz.sizeOf5
 v5:=Tryz.zeroValue5
 t9:=Tryz.underlying9
 a9:=Tryz.isAgg9
 z9:=Tryz.sizeOf9
 v9:=Tryz.zeroValue9
 t28:=Tryz.underlying28
 a28:=Tryz.isAgg28
 z28:=Tryz.sizeOf28
 v28:=Tryz.zeroValue28
 t46:=Tryz.underlying135
 a46:=Tryz.isAgg135
 z46:=Tryz.sizeOf135
 v46:=Tryz.zeroValue135
 t51:=Tryz.underlying315
 a51:=Tryz.isAgg315
 z51:=Tryz.sizeOf315
 v51:=Tryz.zeroValue315
 t53:=Tryz.underlying317
 a53:=Tryz.isAgg317
 z53:=Tryz.sizeOf317
 v53:=Tryz.zeroValue317
 t131:=Tryz.underlying92
 a131:=Tryz.isAgg92
 z131:=Tryz.sizeOf92
 v131:=Tryz.zeroValue92
 t182:=Tryz.underlying308
 a182:=Tryz.isAgg308
 z182:=Tryz.sizeOf308
 v182:=Tryz.zeroValue308
 t183:=Tryz.underlying309
 a183:=Tryz.isAgg309
 z183:=Tryz.sizeOf309
 v183:=Tryz.zeroValue309
 t218:=Tryz.underlying331
 a218:=Tryz.isAgg331
 z218:=Tryz.sizeOf331
 v218:=Tryz.zeroValue331
 t222:=Tryz.underlying335
 a222:=Tryz.isAgg335
 z222:=Tryz.sizeOf335
 v222:=Tryz.zeroValue335
 t228:=Tryz.underlying344
 a228:=Tryz.isAgg344
 z228:=Tryz.sizeOf344
 v228:=Tryz.zeroValue344
 t229:=Tryz.underlying345
 a229:=Tryz.isAgg345
 z229:=Tryz.sizeOf345
 v229:=Tryz.zeroValue345 }
open Go.Sort Go.RowKit in
theorem Tryz.slices_Sort_int(g off cap:Nat)(zs:List Int)(w:j2)(l:Holds (Value.int .i64) w g off zs.toArray)(i:g<w.heap.size)(j:zs.length<4611686018427387904) :
  Calls qb 150 #[.slice (some ⟨g,off,none⟩) zs.length cap] w fun e w' =>
   e = .returned (.tuple #[])/\∃ n os,w'=grow (putRow (Value.int .i64) (Sort.ahead w n) g off (zs.mergeSort fun x y=>decide (x<=y)).toArray) os:=Any.slices_Sort_int Tryz.lays189 g off cap zs w l i j
def Tryz.laysNm225_ren:Go.Shelf.Ren:=⟨fun|25=>34|31=>71|32=>72|37=>125|n=>n,fun|22=>28|3=>3|4=>4|40=>135|0=>0|n=>n,fun|n=>n⟩
theorem Tryz.laysNm225:Go.Proofs.Lays2.n25 qb Tryz.laysNm225_ren:={
 mixed:=zKr
 f25:=func34.trans (congrArg some zKr)
 f31:=func71.trans (congrArg some zKr)
 f32:=func72.trans (congrArg some zKr)
 f37:=func125.trans (congrArg some zKr)
 t0:=Tryz.underlying0
 a0:=Tryz.isAgg0
 z0:=Tryz.sizeOf0
 v0:=Tryz.zeroValue0
 t3:=Tryz.underlying3
 a3:=Tryz.isAgg3
 z3:=Tryz.sizeOf3
 v3:=Tryz.zeroValue3
 t4:=Tryz.underlying4
 a4:=Tryz.isAgg4
 z4:=Tryz.sizeOf4
 v4:=Tryz.zeroValue4
 t22:=Tryz.underlying28
 a22:=Tryz.isAgg28
 z22:=Tryz.sizeOf28
 v22:=Tryz.zeroValue28
 t40:=Tryz.underlying135
 a40:=Tryz.isAgg135
 z40:=Tryz.sizeOf135
 v40:=Tryz.zeroValue135 }
open Go.RowKit Go.Lib in
theorem Tryz.slices_BinarySearch_int(b off n c:Nat)(zs:List Int)(x:Int)(w:j2)(i:n<=zs.length)(g:n<4611686018427387904)(l:∀ j,j<zs.length->w.cell? ⟨b,off+j,none⟩=some (.int .i64 (zs.getD j 0)))(o:(zs.take n).Pairwise (·<=·)) :
  Calls qb 34 #[.slice (some ⟨b,off,none⟩) n c,.int .i64 x] w fun e w'=>e = .returned (.tuple #[.int .i64 ((zs.take n).countP (·<x):Nat),.bool ((zs.take n).contains x)])/\∃ q,w'=w.drewN q:=Any.slices_BinarySearch_int Tryz.laysNm225 b off n c zs x w i g l o
open Go.RowKit Go.Sort in
theorem Tryz.slices_Sort_int_none(p:Option Addr)(cap:Nat)(w:j2) :
  Calls qb 150 #[.slice p 0 cap] w fun e w'=>e = .returned (.tuple #[])/\w'=w:=Any.slices_Sort_int_none Tryz.lays189 p cap w
open Go.RowKit Go.Lib in
theorem Tryz.slices_BinarySearch_int_empty(a:Option Addr)(c:Nat)(x:Int)(w:j2) :
  Calls qb 34 #[.slice a 0 c,.int .i64 x] w fun e w'=>e = .returned (.tuple #[.int .i64 0,.bool false])/\w'=w:=Any.slices_BinarySearch_int_empty Tryz.laysNm225 a c x w
end Go.Proofs
namespace Go.Proofs.YtahmfpfdgiemoaaGreatDoor
open Go Go.Ev Go.Proofs Tryz
namespace YS
theorem Qx(xs:List Int):(xs.map rI).flatten=xs.map aI:=by
 induction xs with
 |nil=>rfl
 |cons x xs g=>simp[g]
def jd(n:Int):ByteArray:=⟨(Lib.itoa n).toArray⟩
end YS
namespace YF
open Y1 P1
abbrev cPm(p:ByteArray×Int):List AV:=[aS p.1,aI p.2]
abbrev lPm(l:List (ByteArray×Int)):AV := .lst false (l.map cPm)
abbrev cPd(p:Pd):List AV:=aS p.name :: lPm p.params :: cNd p.body
abbrev lPd(l:List Pd):AV := .lst false (l.map cPd)
abbrev cFa(f:ByteArray×Nd):List AV:=aS f.1 :: cNd f.2
abbrev lSo(l:List (ByteArray×Bool)):AV := .lst false (l.map uE)
abbrev lFl(l:List Fld):AV := .lst false (l.map jn)
abbrev lFa(l:List (ByteArray×Nd)):AV := .lst false (l.map cFa)
abbrev cTS(s:TS):List AV:=[lSo s.sorts,lFl s.fields,lPd s.preds,lFa s.facts]
abbrev eTS(s:TS):AV := .agg (cTS s)
theorem qdO(p:ByteArray×Int):∀ c,c∈cPm p->HF c:=by
 intro c g;simp at g;rcases g with rfl|rfl<;>exact HF.sc _
theorem Z6(l:List (ByteArray×Int)):HF (lPm l):=HF.lst fun r g c i=>by
 obtain⟨p,_,rfl⟩:=qk.1 g;exact qdO p c i
theorem qdP(p:Pd):∀ c,c∈cPd p->HF c:=by
 intro c g;simp only[cPd,qu]at g;rcases g with rfl|rfl|g
 .exact HF.sc _
 .exact Z6 _
 .exact wW p.body c g
theorem kx(l:List Pd):HF (lPd l):=HF.lst fun r g c i=>by
 obtain⟨p,_,rfl⟩:=qk.1 g;exact qdP p c i
theorem qdQ(p:ByteArray×Nd):∀ c,c∈cFa p->HF c:=by
 intro c g;simp only[cFa,qu]at g;rcases g with rfl|g
 .exact HF.sc _
 .exact wW p.2 c g
theorem ky(l:List (ByteArray×Nd)):HF (lFa l):=HF.lst fun r g c i=>by
 obtain⟨p,_,rfl⟩:=qk.1 g;exact qdQ p c i
theorem qdR(p:ByteArray×Bool):∀ c,c∈uE p->HF c:=by
 intro c g;simp at g;rcases g with rfl|rfl<;>exact HF.sc _
theorem kz(l:List (ByteArray×Bool)):HF (lSo l):=HF.lst fun r g c i=>by
 obtain⟨p,_,rfl⟩:=qk.1 g;exact qdR p c i
theorem U1(l:List Fld):HF (lFl l):=HF.lst fun r g c i=>by
 obtain⟨p,_,rfl⟩:=qk.1 g;exact kf p c i
theorem JV(s:TS):∀ c,c∈cTS s->HF c:=by
 intro c g;simp only[cTS,qu,qD,or_false]at g;rcases g with rfl|rfl|rfl|rfl
 .exact kz _
 .exact U1 _
 .exact kx _
 .exact ky _
theorem zn(s:TS):HF (eTS s):=HF.agg (JV s)
theorem JW(p:Pd):(cPd p).length=7/\(cPd p).all AV.one=true:=⟨by simp[cPd,Z1],by simp only[cPd,List.all_cons,JS];rfl⟩
theorem kA(p:ByteArray×Nd):(cFa p).length=6/\(cFa p).all AV.one=true:=⟨by simp[cFa,Z1],by simp only[cFa,List.all_cons,JS];rfl⟩
end YF
namespace JB
open Y1
def U2:jc:=fun F args I=>match args with
 | [.fn (.func g) [] i]=>match F g i (I++[.dead]) with
  |some (r,m)=>some (.agg [aI 0,aI 0],m.set I.length (.arr [aI 0,aI 0]))
  |none=>none
 |_=>none
theorem qdS:jm qb 87 U2:=by
 intro F P args I v m h;unfold U2 at h;split at h
 .rename_i g j
  split at h
  .rename_i r m' R
   cases h;have T:=P _ _ _ _ _ R;refine qL.of_awpD call87 func87 rfl (yi zKr) zKr (pl:={}) ?_;simp[go_sem];refine wV.intro (g:=132) (first:=[]) (caps:=[.ptr I.length 0]) zSi call132 ?_;simp[go_sem];refine qc.eff (qL.hid (i:=I.length) (c := .arr [aI 0,aI 0]) zSp zSp (zUs T)) ?_ ?_
   .rintro r1 m1 ⟨l,⟨t,C⟩,J,rfl⟩
    subst C;have o:I.length<l.length:=(qe.1 J).1;have p:(l.set I.length (.arr [aI 0,aI 0]))[I.length]?=some (.arr [aI 0,aI 0]):=zo o;simp[go_sem,p,o];refine jo.mono (qdH _ I.length (aI 0) (aI 0) p) ?_;rintro _ rfl;simp[go_sem,p,o]
   .rintro r1 m1 ⟨l,⟨t,C⟩,J,rfl⟩
    cases t
  .cases h
 .cases h
def calL:List {f:us // yd qb f}:=[⟨27,call27⟩,⟨28,call28⟩,⟨172,call172⟩,⟨12,call12⟩,⟨24,call24⟩,⟨64,call64⟩,⟨32,call32⟩,⟨109,call109⟩,⟨34,call34⟩,⟨74,call74⟩,⟨36,call36⟩,⟨37,call37⟩,⟨62,call62⟩,⟨23,call23⟩,⟨113,call113⟩,⟨70,call70⟩,⟨61,call61⟩,⟨26,call26⟩,⟨29,call29⟩,⟨253,call253⟩,⟨196,call196⟩,⟨71,call71⟩,⟨72,call72⟩,⟨110,call110⟩,⟨111,call111⟩,⟨112,call112⟩,⟨38,call38⟩,⟨57,call57⟩,⟨58,call58⟩,⟨59,call59⟩,⟨55,call55⟩,⟨60,call60⟩,⟨14,call14⟩,⟨124,call124⟩,⟨63,call63⟩,⟨15,call15⟩,⟨65,call65⟩,⟨66,call66⟩,⟨30,call30⟩,⟨157,call157⟩,⟨226,call226⟩,⟨125,call125⟩,⟨158,call158⟩,⟨75,call75⟩,⟨104,call104⟩,⟨105,call105⟩,⟨106,call106⟩,⟨107,call107⟩,⟨102,call102⟩,⟨108,call108⟩,⟨13,call13⟩,⟨16,call16⟩,⟨43,call43⟩,⟨44,call44⟩,⟨114,call114⟩,⟨115,call115⟩,⟨67,call67⟩,⟨199,call199⟩,⟨154,call154⟩,⟨98,call98⟩,⟨99,call99⟩,⟨100,call100⟩,⟨153,call153⟩,⟨155,call155⟩,⟨156,call156⟩,⟨39,call39⟩,⟨40,call40⟩,⟨41,call41⟩,⟨42,call42⟩,⟨45,call45⟩,⟨46,call46⟩,⟨81,call81⟩,⟨82,call82⟩,⟨116,call116⟩,⟨117,call117⟩,⟨118,call118⟩,⟨119,call119⟩,⟨76,call76⟩,⟨77,call77⟩,⟨35,call35⟩,⟨78,call78⟩,⟨79,call79⟩,⟨80,call80⟩,⟨53,call53⟩,⟨83,call83⟩,⟨84,call84⟩,⟨85,call85⟩,⟨86,call86⟩,⟨87,call87⟩,⟨88,call88⟩,⟨89,call89⟩,⟨90,call90⟩,⟨91,call91⟩,⟨92,call92⟩,⟨93,call93⟩,⟨94,call94⟩,⟨127,call127⟩,⟨128,call128⟩,⟨129,call129⟩,⟨159,call159⟩,⟨160,call160⟩,⟨161,call161⟩,⟨162,call162⟩,⟨163,call163⟩,⟨164,call164⟩,⟨165,call165⟩,⟨166,call166⟩,⟨73,call73⟩,⟨96,call96⟩,⟨97,call97⟩,⟨130,call130⟩,⟨131,call131⟩,⟨132,call132⟩,⟨133,call133⟩,⟨134,call134⟩,⟨135,call135⟩,⟨136,call136⟩,⟨137,call137⟩,⟨138,call138⟩,⟨139,call139⟩,⟨140,call140⟩,⟨141,call141⟩,⟨142,call142⟩,⟨143,call143⟩,⟨144,call144⟩,⟨145,call145⟩,⟨146,call146⟩,⟨147,call147⟩,⟨148,call148⟩,⟨149,call149⟩,⟨173,call173⟩,⟨169,call169⟩,⟨200,call200⟩,⟨201,call201⟩,⟨202,call202⟩,⟨203,call203⟩,⟨204,call204⟩,⟨205,call205⟩,⟨206,call206⟩,⟨126,call126⟩,⟨150,call150⟩,⟨151,call151⟩,⟨152,call152⟩,⟨174,call174⟩,⟨175,call175⟩,⟨176,call176⟩,⟨177,call177⟩,⟨178,call178⟩,⟨179,call179⟩,⟨180,call180⟩,⟨181,call181⟩,⟨182,call182⟩,⟨183,call183⟩,⟨184,call184⟩,⟨185,call185⟩,⟨186,call186⟩,⟨187,call187⟩,⟨188,call188⟩,⟨189,call189⟩,⟨190,call190⟩,⟨191,call191⟩,⟨192,call192⟩,⟨193,call193⟩,⟨194,call194⟩,⟨195,call195⟩,⟨237,call237⟩,⟨197,call197⟩,⟨198,call198⟩,⟨209,call209⟩,⟨210,call210⟩,⟨211,call211⟩,⟨212,call212⟩,⟨213,call213⟩,⟨214,call214⟩,⟨54,call54⟩,⟨216,call216⟩,⟨217,call217⟩,⟨218,call218⟩,⟨219,call219⟩,⟨220,call220⟩,⟨221,call221⟩,⟨222,call222⟩,⟨223,call223⟩,⟨224,call224⟩,⟨225,call225⟩,⟨227,call227⟩,⟨228,call228⟩,⟨229,call229⟩,⟨230,call230⟩,⟨231,call231⟩,⟨232,call232⟩,⟨233,call233⟩,⟨234,call234⟩,⟨235,call235⟩,⟨236,call236⟩,⟨238,call238⟩,⟨239,call239⟩,⟨240,call240⟩,⟨241,call241⟩,⟨242,call242⟩,⟨243,call243⟩,⟨244,call244⟩,⟨245,call245⟩,⟨246,call246⟩,⟨247,call247⟩,⟨248,call248⟩,⟨101,call101⟩,⟨250,call250⟩,⟨251,call251⟩,⟨252,call252⟩,⟨254,call254⟩,⟨255,call255⟩,⟨256,call256⟩,⟨258,call258⟩,⟨259,call259⟩,⟨260,call260⟩,⟨261,call261⟩,⟨262,call262⟩,⟨263,call263⟩,⟨264,call264⟩,⟨265,call265⟩,⟨266,call266⟩,⟨267,call267⟩,⟨269,call269⟩,⟨270,call270⟩,⟨272,call272⟩,⟨8,call8⟩,⟨11,call11⟩,⟨17,call17⟩,⟨19,call19⟩,⟨20,call20⟩,⟨22,call22⟩,⟨25,call25⟩,⟨31,call31⟩,⟨33,call33⟩,⟨47,call47⟩,⟨48,call48⟩,⟨49,call49⟩,⟨50,call50⟩,⟨51,call51⟩,⟨52,call52⟩,⟨56,call56⟩,⟨68,call68⟩,⟨69,call69⟩,⟨95,call95⟩,⟨103,call103⟩,⟨120,call120⟩,⟨121,call121⟩,⟨122,call122⟩,⟨123,call123⟩,⟨167,call167⟩,⟨168,call168⟩,⟨170,call170⟩,⟨171,call171⟩,⟨207,call207⟩,⟨208,call208⟩,⟨9,call9⟩,⟨10,call10⟩,⟨18,call18⟩,⟨21,call21⟩]
end JB
namespace Y9
open Y1 P1
structure okTS (s:TS):Prop where
 ns:s.sorts.length<=4
 nf:s.fields.length<=6
 np:s.preds.length<=8
 nfa:s.facts.length<=16
 sl:∀ x,x∈s.sorts->x.1.size<=4611686018427387904
 fl:∀ f,f∈s.fields->1<=f.sorts.length/\f.sorts.length<=3/\∀ x,x∈f.sorts->0<=x/\x<s.sorts.length
 pl:∀ p,p∈s.preds->p.params.length<=8/\∀ x,x∈p.params->0<=x.2/\x.2<s.sorts.length
structure okCk (c:Ck):Prop where
 ts:okTS c.ts
 calls:c.calls<=c.ts.preds.length
 timed:c.calls<=c.timed.length
theorem Qy{c:Ck}(i:okCk c){nm:ByteArray}{p:Nat}(h:zb c nm=some p):p<c.calls/\p<c.ts.preds.length:=by
 unfold zb at h;rw[List.findIdx?_eq_some_iff_getElem]at h;obtain⟨g,_⟩:=h;simp at g;omega
theorem kB(c:Ck):∀ ks:List Nd,JU c ks=ks.any (yk c)
 | []=>rfl
 |k :: ks=>by simp[JU,kB c ks]
noncomputable abbrev szN(n:Nd):Nat:=SizeOf.sizeOf n
theorem yv{n k:Nd}(h:k∈n.kids):szN k<szN n:=by
 obtain⟨op,t,i,ks,p⟩:=n;have:SizeOf.sizeOf k<SizeOf.sizeOf ks:=List.sizeOf_lt_of_mem h;simp only[szN,Nd.mk.sizeOf_spec];omega
inductive yf:Nd->Prop where
 |mk (n:Nd) (h:n.kids.length<=1000) (hk:∀ k,k∈n.kids->yf k):yf n
theorem yf.len{n:Nd}(h:yf n):n.kids.length<=1000:=by cases h;assumption
theorem yf.kid{n k:Nd}(h:yf n)(g:k∈n.kids):yf k:=by
 cases h with
 |mk _ _ h=>exact h k g
theorem U3(c:Ck)(n:Nd):yk c n=(zF c n.op n.name||n.kids.any (yk c)):=by
 obtain⟨op,t,i,ks,p⟩:=n;simp[yk,kB,Nd.op,Nd.name,Nd.kids]
end Y9
namespace E1
section
variable {l:List Int}
theorem qdT{n:Int}(g:0<=n)(j:n<=20):∀ i:Nat,i<=3->0<=n ^ i/\n ^ i<=8000:=by
 have l:0<=n*n:=Int.mul_nonneg g g;have o:n*n<=20*20:=Int.mul_le_mul j j g zOm;have r:0<=n*n*n:=Int.mul_nonneg l g;have t:n*n*n<=20*20*20:=Int.mul_le_mul o j g zOm;intro i p
 match i,p with
 | 0,_=>rw[Int.pow_zero];omega
 | 1,_=>rw[Int.pow_succ,Int.pow_zero];omega
 | 2,_=>rw[Int.pow_succ,Int.pow_succ,Int.pow_zero,Int.one_mul];omega
 | 3,_=>rw[Int.pow_succ,Int.pow_succ,Int.pow_succ,Int.pow_zero,Int.one_mul];omega
def powN(k:Int):Nat:=(min k 3).toNat
def powI(n k:Int):Int:=n ^ powN k
def sorted(l:List Int):Prop:=l.Pairwise (·<·)
instance (l:List Int):Decidable (sorted l):=inferInstanceAs (Decidable (l.Pairwise (·<·)))
theorem U4(h:sorted l){i j:Nat}(g:i<j)(o:j<l.length):l[i]' zOm<l[j]:=List.pairwise_iff_getElem.1 h i j zOm o g
def inOk(a b:Rl):Bool:=a.ts.all (fun t=>decide (t∈b.ts))
theorem kC(h:sorted l):l.Nodup:=List.Pairwise.imp (fun h e=>zOm) h
theorem kD{m:List Int}(g:sorted l)(i:sorted m)(h:∀ x,x∈l↔x∈m):l=m:=
 List.Perm.eq_of_pairwise (le:=fun a b:Int=>a<b) (fun a b _ _ g i=>zOm) g i ((List.perm_ext_iff_of_nodup (kC g) (kC i)).2 h)
def atN(l:List Int)(r:Int):Nat->Nat
 | 0=>0
 |n+1=>if r<=gI l n then atN l r n else n+1
theorem kE(l:List Int)(r:Int):∀ n,atN l r n<=n
 | 0=>qn _
 |n+1=>by
  have:=kE l r n;rw[atN];split<;>omega
def addL(l:List Int)(r:Int):List Int:=if l[atN l r l.length]?=some r then l else l.take (atN l r l.length)++[r]++l.drop (atN l r l.length)
def ofL(ts:List Int):List Int:=ts.foldl addL []
theorem kF(l:List Int)(r:Int):∀ n,(∀ i,atN l r n<=i->i<n->r<=gI l i)/\(0<atN l r n->gI l (atN l r n-1)<r)
 | 0=>⟨fun i _ h=>zOm,fun h=>by simp[atN]at h⟩
 |n+1=>by
  obtain⟨j,o⟩:=kF l r n;rw[atN];by_cases h:r<=gI l n
  .rw [if_pos h]
   refine⟨fun i g p=>?_,o⟩;by_cases e:i=n
   .rw [e];exact h
   .exact j i g zOm
  .rw [if_neg h]
   exact⟨fun i g p=>zOm,fun _=>zSo⟩
theorem qdU(p:sorted l)(r:Int):sorted (addL l r)/\∀ x,x∈addL l r↔x∈l\/x=r:=by
 obtain⟨U,h2⟩:=kF l r l.length;have hk:=kE l r l.length;unfold addL;generalize atN l r l.length=k at *
 by_cases t:l[k]?=some r
 .rw [if_pos t]
  exact⟨p,fun x=>⟨.inl,fun h=>h.elim id fun e=>by rw[e];exact qZ t⟩⟩
 .rw [if_neg t]
  have o:∀ i j (g:i<l.length) (T:j<l.length),i<j->l[i]<l[j]:=fun i j g T I=>List.pairwise_iff_getElem.1 p i j g T I
  have lo:∀ x,x∈l.take k->x<r:=by
   intro x J;obtain⟨i,g,e⟩:=vB.1 J;rw[List.getElem_take]at e;have a0:i<k:=by simp at g;omega
   have:=h2 zOm;rw[vV zOm]at this;by_cases P:i=k-1
   .subst P;omega
   .have:=o i (k-1) zOm zOm zOm;omega
  have g:∀ x,x∈l.drop k->r<x:=by
   intro x J;obtain⟨i,g,e⟩:=vB.1 J;rw[List.getElem_drop]at e;have R:k+i<l.length:=by simp at g;omega
   have h0:=U k zOm zOm;rw[vV zOm]at h0;have a1:l[k]' zOm≠r:=fun e=>t (by rw[qv zOm,e])
   by_cases P:i=0
   .subst P;simp at e;omega
   .have:=o k (k+i) zOm R zOm;omega
  refine⟨?_,fun x=>?_⟩
  .unfold sorted at *
   rw[zc,List.pairwise_append];refine⟨p.sublist (List.take_sublist _ _),?_,fun a ha b C=>?_⟩
   .rw [List.singleton_append,VS]
    exact⟨g,p.sublist (List.drop_sublist _ _)⟩
   .rw [List.singleton_append,qu]at C
    have:=lo a ha;rcases C with e|C
    .omega
    .have:=g b C;omega
  .have:x∈l↔x∈l.take k\/x∈l.drop k:=by
    rw[<-qC,uZ]
   rw[this,qC,qC,List.mem_singleton];constructor
   .rintro ((h|h)|h)
    .exact .inl (.inl h)
    .exact .inr h
    .exact .inl (.inr h)
   .rintro ((h|h)|h)
    .exact .inl (.inl h)
    .exact .inr h
    .exact .inl (.inr h)
theorem kG:∀(ts l:List Int),sorted l->sorted (ts.foldl addL l)/\∀ x,x∈ts.foldl addL l↔x∈l\/x∈ts
 | [],l,h=>⟨h,fun x=>zSp⟩
 |t :: ts,l,h=>by
  obtain⟨g,i⟩:=qdU h t;obtain⟨j,o⟩:=kG ts _ g;refine⟨j,fun x=>?_⟩;rw[List.foldl_cons,o,i,qu];constructor
  .rintro ((h|h)|h)
   .exact .inl h
   .exact .inr (.inl h)
   .exact .inr (.inr h)
  .rintro (h|h|h)
   .exact .inl (.inl h)
   .exact .inl (.inr h)
   .exact .inr h
theorem JY(ts:List Int):sorted (ofL ts)/\∀ x,x∈ofL ts↔x∈ts:=by
 obtain⟨g,i⟩:=kG ts [] (by unfold sorted;exact .nil);exact⟨g,fun x=>by rw[ofL,i];simp⟩
structure GR (n:Int) (r:Rl):Prop where
 ar1:1<=r.ar
 ar3:r.ar<=3
 val:∀ t,t∈r.ts->0<=t/\t<powI n r.ar
 srt:sorted r.ts
def unR(a b:Rl):Rl:=⟨a.ar,ofL (a.ts++b.ts)⟩
def diR(a b:Rl):Rl:=⟨a.ar,a.ts.filter fun t=>decide (¬t∈b.ts)⟩
end
end E1
namespace E3
open P1
structure Md where
 sc:Sc
 states:List (List Rl)
 loop:Int
abbrev cSt(s:List Rl):List AV:=[lRel s]
abbrev lSt(l:List (List Rl)):AV := .lst false (l.map cSt)
abbrev cMd(m:Md):List AV:=[lI m.sc.atoms,aI m.sc.steps,lSt m.states,aI m.loop]
abbrev eMd(m:Md):AV := .agg (cMd m)
abbrev XE(C:Type):=Except Int C
structure Pl where
 st:Nat
 env:List (ByteArray×Int)
structure Mo where
 ts:TS
 m:Md
def Mo.n(x:Mo):Int:=sumI x.m.sc.atoms
end E3
namespace E5
open Y1 E3
variable (x:Mo) (p:Pl) (f g d e:Nd) (nm:ByteArray)
end E5
namespace E7
end E7
namespace EL
open E1
theorem qdV(n:Int)(t:0<=n)(C:n<=20)(k:Nat)(T:k<=3):qd qb 107 [aI n,aI k] (aI (n ^ k)):=by
 refine qSU call107 func107 rfl ?_;refine qh.up k (fun i st=>st.tm 0=aI n/\st.tm 5=aI (n ^ i)/\st.tm 6=aI k/\st.tm 7=aI i/\st.mu=[]) ?_ ?_
 .simp [go_sem]
 rintro i st U ⟨I,l,o,p,r⟩;by_cases g:i<k
 .have J:=qdT t C (i+1) zOm
  have P:=zWk i;rw[Int.pow_succ]at J;have R:qs.wrap (n ^ i*n)=n ^ i*n:=zWr;simp[go_sem,I,l,o,p,r,g,P,R];rw[Int.pow_succ]
 .have j:i=k:=by omega
  subst j;simp[go_sem,l,o,p,r];exact .zsc _
end EL
namespace EJ
open E1
section
variable {g:Type}
def je(p:g->g->Bool):g->List g->List g
 |_,[]=>[]
 |x,y :: l=>if p y x=true then je p y l else y :: je p y l
def cmpc(p:g->g->Bool):List g->List g
 | []=>[]
 |x :: l=>x :: je p x l
theorem kH(p:g->g->Bool):∀(l:List g) (x y:g),je p x (l++[y])=je p x l++(if p y ((x :: l).getLast zSp)=true then [] else [y])
 | [],x,y=>by
  by_cases i:p y x=true<;>simp[je,i]
 |z :: l,x,y=>by
  have j:=kH p l z y;have e:(x :: z :: l).getLast zSp=(z :: l).getLast zSp:=List.getLast_cons zSp;simp only[yD,je,e,j];split
  .rfl
  .rfl
theorem kI{j:Type}(p:j->j->Bool)(l:List j)(k:Nat)(I:1<=k)(C:k<l.length):cmpc p (l.take (k+1))=cmpc p (l.take k)++(if p l[k] (l[k-1]' zOm)=true then [] else [l[k]]):=by
 have o:l.take (k+1)=l.take k++[l[k]]:=by rw[List.take_add_one,qv C];rfl
 have g:∀(q:l.take k≠[]),(l.take k).getLast q=l[k-1]' zOm:=by
  intro q;rw[List.getLast_eq_getElem,List.getElem_take];congr 1;simp;omega
 rw[o];cases t:l.take k with
 |nil =>
  have i:=congrArg List.length t;rw[vH,List.length_nil]at i;omega
 |cons x r =>
  have:=g (by rw[t];simp);simp only[t]at this;simp only[yD,cmpc,kH,this]
abbrev eqI:Int->Int->Bool:=fun y x=>decide (y=x)
theorem U5:∀(l:List Int) (x:Int),(x :: l).Pairwise (·<=·)->sorted (x :: je eqI x l)/\∀ t,t∈x :: je eqI x l↔t∈x :: l
 | [],x,_=>⟨List.pairwise_singleton _ _,fun t=>Iff.rfl⟩
 |y :: l,x,h=>by
  obtain⟨r,g⟩:=VS.1 h;have C:=r y (qR ..);by_cases e:y=x
  .have j:je eqI x (y :: l)=je eqI y l:=by simp[je,e]
   rw[j,e];have I:(x :: l).Pairwise (·<=·):=by rw[e]at g;exact g
   obtain⟨o,i⟩:=U5 l x I;refine⟨o,fun t=>?_⟩;rw[i];simp
  .have j:je eqI x (y :: l)=y :: je eqI y l:=by simp[je,e]
   rw[j];obtain⟨o,i⟩:=U5 l y g;refine⟨VS.2 ⟨fun t p=>?_,o⟩,fun t=>?_⟩
   .rcases qu.1 ((i t).1 p) with rfl|p
    .omega
    .have:=(VS.1 g).1 t p;omega
   .rw [qu,i,qu (l:=y :: l)]
theorem qdW(l:List Int)(h:l.Pairwise (·<=·)):sorted (cmpc eqI l)/\∀ t,t∈cmpc eqI l↔t∈l:=by
 cases l with
 |nil=>exact⟨List.Pairwise.nil,fun t=>Iff.rfl⟩
 |cons x l=>exact U5 l x h
theorem qdX(l:List Int):(srtI l).Pairwise (·<=·):=by
 have:=List.pairwise_mergeSort (le:=fun x y:Int=>decide (x<=y)) (fun a b c g i=>by simp at *;omega) (fun a b=>zSo) l;exact this.imp fun h=>zUs h
theorem qdY(l:List Int)(t:Int):t∈srtI l↔t∈l:=(List.mergeSort_perm l _).mem_iff
theorem qdZ(l:List Int):cmpc eqI (srtI l)=ofL l:=by
 obtain⟨g,i⟩:=qdW _ (qdX l);obtain⟨j,o⟩:=JY l;exact kD g j fun t=>by rw[i,o,qdY]
end
end EJ
namespace EM
theorem sortE{mu:Mu}{b:Nat}{zs:List Int}(i:mu[b]?=some (.arr (zs.map aI)))(p:zs.length<=1000000000) :
  qL qb 150 [.sl b 1 0 zs.length] mu fun e m=>e = .ret (.tup [])/\m=mu.set b (.arr ((srtI zs).map aI)):=by
 have:=qdN (P:=qb) call150 (fun g off cap zs w j l o=>Tryz.slices_Sort_int g off cap zs w j l o) (mu:=mu) (b:=b) (off:=0) (cells:=zs.map aI) (zs:=zs) i
  (fun k n h=>by rw[yc,zm,h];rfl) zOm zSp
 have e:putCells (zs.map aI) 0 ((srtI zs).map fun n => .sc (.int .i64 n))=(srtI zs).map aI:=by
  rw[yq _ _ _ (by simp[Z5])];simp[Z5]
 rw[e]at this;exact this
end EM
end Go.Proofs.YtahmfpfdgiemoaaGreatDoor
namespace Go.Ev
open Go Go.RowKit
@[go_sem ↓] theorem qnL(P:qf)(pl:Pol)(det:Bool)(i:Option Tmp)(ev:uk->AV)(mu:Mu)(K j:AV->Mu->Prop)(l:List uk)(g:Array j1):qw P pl det i (.call ⟨.builtin .clear,l.toArray,g⟩) ev mu K j=wK P mu .clear g (evs ev l) K:=eqS rfl
theorem qd0{P:qf}{mu:Mu}{K:AV->Mu->Prop}{t e:j1}{sz bt b off len:Nat}{cells:List AV}{zv:AV}(o:qz P t=some (e,sz,bt))(p:qx P e=some zv)(g:zv.cells.length=sz)(j:zv.cells.all AV.one=true)(l:sz≠0)
  (r:mu[b]?=some (.arr cells)) (C:off+len*sz<=cells.length) (I:0<len) (k:K (.tup []) (mu.set b (.arr (putCells cells off ((qo (len*sz)).map fun i=>zv.cells.getD (i % sz) .any))))):wK P mu .clear #[t] [.sl b sz off len] K:=
 ⟨_,_,.clear o p g j l r C I,k⟩
end Go.Ev
namespace Go.Proofs.YtahmfpfdgiemoaaGreatDoor
open Go Go.Ev Go.Proofs Tryz
namespace EN
open EJ
theorem U6{mu:Mu}{b:Nat}{c:Cell}(h:mu[b]?=some c):mu.set b c=mu:=by
 obtain⟨i,g⟩:=qe.1 h;rw[<-g];simp
theorem JZ(l:List Int)(i:Nat)(h:i<l.length):List.take 1 (List.drop i (l.map aI))=[aI l[i]]:=by
 rw[zD (zUs h)];simp
theorem qd1(mu:Mu)(b:Nat)(g:List Int)(hl:g.length<=1000000)(hb:mu[b]?=some (.arr (g.map aI))) :
  qL qb 151 [.sl b 1 0 g.length] mu fun e m=>∃ cells,e = .ret (.sl b 1 0 (cmpc eqI g).length)/\m=mu.set b (.arr cells)/\cells.length=g.length/\cells.take (cmpc eqI g).length=(cmpc eqI g).map aI:=by
 refine qSW call151 func151 rfl {} ?_;simp[go_sem];by_cases h2:g.length<2
 .have hc:cmpc eqI g=g:=by
   match g,h2 with
   | [],_=>rfl
   | [x],_=>rfl
   |_ :: _ :: _,h=>simp only[zq]at h;omega
  simp[go_sem,show (g.length:Int)<2 by omega];rw[hc];exact⟨rfl,g.map aI,(U6 hb).symm,zSp,by rw[zK zSp]⟩
 simp[go_sem,show ¬(g.length:Int)<2 by omega];refine qh.keep (fun m st=>∃ k,m=g.length-k/\1<=k/\k<=g.length/\st.tm 0 = .sl b 1 0 g.length/\st.tm 3=aI (k:Nat)/\st.mu=mu/\cmpc eqI (g.take k)=g.take k) (g.length-1) ?_ ?_
 .refine ⟨1,zOm,zOm,zOm,zSi,zSi,zSi,?_⟩
  match g,h2 with
  | [],h=>simp at h
  |x :: l,_=>simp[cmpc,je]
 rintro m st ⟨k,rfl,a5,hk,e0,e3,hm,hi⟩;by_cases r:k<g.length
 .have hw:qs.wrap ((k:Int)-1)=((k-1:Nat):Int):=by rw[zWr];omega
  have C:k-1<g.length:=zOm;have r1:=JZ g k r;have r2:=JZ g (k-1) C;have g1:k+1<=g.length:=r;have g2:k-1+1<=g.length:=C;have p:=kI eqI g k a5 r;rw[hi]at p;simp[go_sem,e0,e3,hm,r];refine qg.intro zKr ?_;by_cases hp:g[k]=g[k-1]
  .simp [go_sem,e0,e3,r,hb,hw,C,hp,r1,r2,g1,g2]
   rw[if_pos (zUs hp),zL]at p;simp[go_sem,hk];refine qh.keep (fun m2 st2=>∃(j i:Nat) (o:List Int),m2=g.length-(k+j)/\1<=j/\k+j<=g.length/\st2.tm 0 = .sl b 1 0 g.length/\st2.tm 3=aI (i:Nat)/\st2.tm 4 = .sl b 1 k (g.length-k)/\st2.tm 5=aI (j:Nat)/\o.length=g.length/\st2.mu=mu.set b (.arr (o.map aI))/\i=(cmpc eqI (g.take (k+j))).length/\i<=k+j-1/\o.take i=cmpc eqI (g.take (k+j))/\o.drop (k+j-1)=g.drop (k+j-1)) (g.length-(k+1)) ?_ ?_
   .refine ⟨1,k,g,zOm,zOm,zOm,zS1 e0,zS1 e3,zSi,zSi,rfl,?_,?_,zOm,?_,rfl⟩
    .simp [go_sem];exact(U6 hb).symm
    .rw [p,vH];omega
    .exact p.symm
   rintro m2 st2 ⟨j,i,o,rfl,af,hj,f0,f3,f4,f5,a0,a1,I,ag,J,T⟩;have U:b<mu.length:=(qe.1 hb).1;by_cases P:j<g.length-k
   .have a6:k+j<g.length:=by omega
    have c1:o[k+j]' zOm=g[k+j]:=by
     have:=congrArg (fun l=>l[1]?) T;simp only[y7]at this;rw[show k+j-1+1=k+j by omega,qv zOm,qv zOm]at this;exact Option.some.inj this
    have c2:o[k+j-1]' zOm=g[k+j-1]:=by
     have:=congrArg (fun l=>l[0]?) T;simp only[y7,Nat.add_zero]at this;rw[qv zOm,qv zOm]at this;exact Option.some.inj this
    have r1:=JZ o (k+j) zOm;have r2:List.take 1 (List.drop (k+(j-1)) (o.map aI))=[aI (g[k+j-1]' zOm)]:=by rw[show k+(j-1)=k+j-1 by omega,JZ o (k+j-1) zOm,c2]
    rw[c1]at r1;have a2:qs.wrap ((j:Int)-1)=((j-1:Nat):Int):=by rw[zWr];omega
    have a3:qs.wrap ((j:Int)+1)=((j+1:Nat):Int):=by rw[zWr];omega
    have g3:j-1<g.length-k:=zOm;have g4:k+j+1<=o.length:=zOm;have g5:k+(j-1)+1<=o.length:=zOm;have t:=kI eqI g (k+j) zOm a6;have a4:o.drop (k+j)=g.drop (k+j):=by
     have:=congrArg (List.drop 1) T;rw[List.drop_drop,List.drop_drop,show k+j-1+1=k+j by omega]at this;exact this
    simp[go_sem,f4,f5,a1,P];refine qg.intro zKr ?_;by_cases R:g[k+j]=g[k+j-1]
    .rw [if_pos (zUs R),zL]at t
     simp[go_sem,f4,f5,P,U,r1,r2,a2,a3,g3,g4,g5,R];refine Keep.loop (g.length-(k+(j+1))) zOm ⟨j+1,i,o,rfl,zOm,zOm,zS1 f0,zS1 f3,zS1 f4,zSi,a0,zSi,?_,zOm,?_,?_⟩
     .rw [show k+(j+1)=k+j+1 by omega,t];exact I
     .rw [show k+(j+1)=k+j+1 by omega,t];exact J
     .rw [show k+(j+1)-1=k+j by omega];exact a4
    .rw [if_neg (zUs R)]at t
     have a7:i<g.length:=zOm;have a8:i+1<=o.length:=zOm;have ae:i<o.length:=zOm;have a9:qs.wrap ((i:Int)+1)=((i+1:Nat):Int):=by rw[zWr];omega
     simp[go_sem,f0,f3,f4,f5,P,U,r1,r2,a2,a3,a9,g3,g4,g5,R,a7,a8];refine Keep.loop (g.length-(k+(j+1))) zOm ⟨j+1,i+1,o.set i g[k+j],rfl,zOm,zOm,zS1 f0,zSi,zS1 f4,zSi,zP1 a0,?_,?_,zOm,?_,?_⟩
     .simp [go_sem,List.map_set]
     .rw [show k+(j+1)=k+j+1 by omega,t,List.length_append];simp;omega
     .rw [show k+(j+1)=k+j+1 by omega,t,<-J,List.take_add_one,zo zOm,List.take_set_of_le zOm];rfl
     .rw [show k+(j+1)-1=k+j by omega,List.drop_set_of_lt zOm];exact a4
   .have aa:k+j=g.length:=by omega
    rw[aa,qX]at I J;simp[go_sem,f0,f3,f4,f5,a1,P,show i<g.length by omega,show i<=g.length by omega];refine qd0 (e:=3) (bt:=8) (zv:=aI 0) (cells:=o.map aI) zSi zSi rfl rfl zOm (zP1 U) zSo zOm ?_;have hZ:∀ zs:List AV,zs.length=g.length-i->(putCells (o.map aI) i zs).length=g.length/\(putCells (o.map aI) i zs).take i=(o.map aI).take i:=by
     intro zs hz;rw[yq _ _ _ zSo];refine⟨zSo,?_⟩;rw[zc,List.take_append,vH,Nat.min_eq_left zSo,Nat.sub_self,List.take_zero,zL,List.take_take,Nat.min_self]
    have hz:=hZ ((qo ((g.length-i)*1)).map fun j=>(aI 0).cells.getD (j % 1) .any) zSp;generalize putCells (o.map aI) i _=Z at hz⊢;simp[go_sem,f0,f3,show i<=g.length by omega];refine⟨I,Z,rfl,hz.1,?_⟩;rw[<-I,hz.2,<-List.map_take,J]
  .rw [if_neg (zUs hp)]at p
   have ab:g.take (k+1)=g.take k++[g[k]]:=by rw[List.take_add_one,qv r];rfl
   simp[go_sem,e0,e3,r,hb,hw,C,hp,r1,r2,g1,g2];refine Keep.loop (g.length-(k+1)) zOm ⟨k+1,rfl,zOm,zOm,zS1 e0,?_,zSi,by rw[p,ab]⟩;simp[go_sem];exact zWr
 .have ad:k=g.length:=by omega
  subst ad;rw[qX]at hi;simp[go_sem,e0,e3,hm];rw[hi];exact⟨rfl,g.map aI,(U6 hb).symm,zSp,by rw[zK zSp]⟩
end EN
namespace E4
open E1
theorem has06(r:Rl)(x:Int)(hl:r.ts.length<=1000000000)(hs:sorted r.ts):qd qb 172 [eRel r,aI x] (aB (decide (x∈r.ts))):=by
 refine qSU call172 func172 rfl ?_;refine qh.keep (fun n st=>∃ j g:Nat,n=g-j/\st.tm 1=aI x/\st.tm 2 = .ip [aI r.ar,lI r.ts]/\st.tm 5=aI j/\st.tm 6=aI g/\st.mu=[]/\j<=g/\g<=r.ts.length/\(∀(i:Nat) (h:i<r.ts.length),i<j->r.ts[i]<x)/\(∀(i:Nat) (h:i<r.ts.length),g<=i->x<=r.ts[i])) r.ts.length ?_ ?_
 .exact ⟨0,r.ts.length,zOm,zSi,zSi,zSi,zSi,zSi,zOm,zOm,fun i h h'=>zOm,fun i h h'=>zOm⟩
 rintro n st ⟨j,g,hn,J,C,P,R,T,a3,a4,I,U⟩;by_cases a0:j<g
 .have hw:qs.wrap (qs.wrap ((j:Int)+g) / 2)=(((j+g) / 2:Nat):Int):=by
   rw[Jb (n:=(j:Int)+g) zOm zOm,zWr];omega
  have a1:(qs.wrap ((j:Int)+g)).tdiv 2=qs.wrap ((j:Int)+g) / 2:=Int.tdiv_eq_ediv_of_nonneg (by rw[zWr];omega);have l:(j+g) / 2<r.ts.length:=zOm;generalize a5:(j+g) / 2=mid at *
  by_cases hb:r.ts[mid]<x
  .simp [go_sem,J,C,P,R,T,a0,a1,hw,l,hb]
   refine Keep.loop (g-(mid+1)) zOm ⟨mid+1,g,rfl,zS1 J,zS1 C,?_,zS1 R,zSi,zOm,zOm,fun i h h'=>?_,U⟩
   .simp [go_sem]
    exact zWr
   .rcases Nat.lt_or_ge i mid with t|t
    .exact Int.lt_trans (U4 hs t l) hb
    .have:i=mid:=by omega
     subst this;exact hb
  .simp [go_sem,J,C,P,R,T,a0,a1,hw,l,hb]
   refine Keep.loop (mid-j) zOm ⟨j,mid,rfl,zS1 J,zS1 C,zS1 P,zSi,zSi,zOm,zOm,I,fun i h h'=>?_⟩;rcases Nat.lt_or_ge mid i with t|t
   .have:=U4 hs t h;omega
   .have:i=mid:=by omega
    subst this;omega
 .have a2:g=j:=by omega
  subst a2;by_cases o:g<r.ts.length
  .by_cases he:r.ts[g]=x
   .simp [go_sem,J,C,P,R,T,o,he]
    have:x∈r.ts:=he ▸ qt o;simp[this];exact .zsc _
   .simp [go_sem,J,C,P,R,T,o,he]
    have:¬x∈r.ts:=fun h=>by
     obtain⟨i,p,rfl⟩:=uY h;rcases Nat.lt_or_ge i g with t|t
     .have:=I i p t;omega
     .rcases Nat.lt_or_ge g i with h4|h4
      .have:=U4 hs h4 p
       have:=U g o zOm;omega
      .have:i=g:=by omega
       subst this;exact he rfl
    simp[this];exact .zsc _
  .simp [go_sem,C,P,R,T,o]
   have:¬x∈r.ts:=fun h=>by
    obtain⟨i,p,rfl⟩:=uY h;have:=I i p zOm;omega
   simp[this];exact .zsc _
theorem qd2(a b:Rl)(hl:a.ts.length<=1000000000)(a0:b.ts.length<=1000000000)(hs:sorted b.ts):qd qb 124 [eRel a,eRel b] (eRel ⟨a.ar,a.ts.filter (fun t=>decide (¬t∈b.ts))⟩):=by
 refine qSU call124 func124 rfl ?_;refine qh.keep (fun m st=>∃ k P i,m=a.ts.length-k/\k<=a.ts.length/\st.tm 2 = .ip [aI a.ar,lI a.ts]/\st.tm 3 = .ip [aI b.ar,lI b.ts]/\st.tm 4 = .ptr 0 0/\st.tm 5 = .ptr 1 0/\st.tm 6=aI (k:Nat) /\
  st.mu=[.arr [aI 0,.lst true []],.arr [aI a.ar,P]]++i/\OwnF 2 ([.dead,.dead]++i) 1 P (((a.ts.take k).filter (fun t=>decide (¬t∈b.ts))).map rI)) a.ts.length ?_ ?_
 .exact ⟨0,.lst true [],[],zOm,zOm,zSi,zSi,zSi,zSi,zSi,zSi,by simpa using OwnF.nil zSp⟩
 rintro m st ⟨k,P,i,rfl,hk,J,e3,e4,T,R,hm,p⟩;have p:=p.low (low:=[.dead,.dead]) (low':=[.arr [aI 0,.lst true []],.arr [aI a.ar,P]]) rfl;by_cases o:k<a.ts.length
 .simp [go_sem,J,R,o]
  refine qg.intro zKr ?_;simp[go_sem,J,e3,R,o];refine qc.pure (has06 b a.ts[k] a0 hs) (.zk (zZ b) (.zs .nil)) ?_;have U:a.ts.take (k+1)=a.ts.take k++[a.ts[k]]:=by rw[List.take_add_one,qv o];rfl
  by_cases hb:a.ts[k]∈b.ts
  .simp [go_sem,R,hb]
   refine Keep.loop (a.ts.length-(k+1)) zOm ⟨k+1,P,i,rfl,zOm,zS1 J,zS1 e3,zS1 e4,zS1 T,?_,zS1 hm,?_⟩
   .simp [go_sem];exact zWr
   .rw [U,List.filter_append];simpa[go_sem,hb] using p.low (low':=[.dead,.dead]) rfl
  .simp [go_sem,hb]
   refine qg.intro zKr ?_;simp[go_sem,J,T,R,o,hm];refine qA.intsL (low:=[.arr [aI 0,.lst true []],.arr [aI a.ar,P]]) (e:=3) (bt:=8) (z:=0) (xs:=(a.ts.take k).filter (fun t=>decide (¬t∈b.ts))) (ys:=[a.ts[k]]) zSi zSi zSi zOm p (by simp[qH]) ?_ ?_
   .have:=List.length_filter_le (fun t=>decide (¬t∈b.ts)) (a.ts.take k)
    have:=List.length_take_le k a.ts;have h3:[a.ts[k]].length=1:=rfl;omega
   intro a1 C I;simp[go_sem,T,R,I.cells,I.one];refine Keep.loop (a.ts.length-(k+1)) zOm ⟨k+1,a1,C,rfl,zOm,zS1 J,zS1 e3,zS1 e4,zS1 T,?_,zSi,?_⟩
   .simp [go_sem];exact zWr
   .rw [U,List.filter_append]
    simpa[go_sem,hb] using I.low (low':=[.dead,.dead]) rfl
 .have a2:k=a.ts.length:=by omega
  subst a2;simp[go_sem,J,e4,T,R,hm,p.one];rw[qX]at p;simp at p;exact Rd.rel (r:=⟨a.ar,a.ts.filter (fun t=>!decide (t∈b.ts))⟩) (p.low (low:=[.arr [aI 0,.lst true []],.arr [aI a.ar,P]]) (low':=[.arr [aI a.ar,P],.arr [aI a.ar,P]]) rfl).rdI
theorem in06(a b:Rl)(i:a.ts.length<=1000000000)(g:b.ts.length<=1000000000)(j:sorted b.ts):qd qb 70 [eRel a,eRel b] (aB (inOk a b)):=by
 refine qSU call70 func70 rfl ?_;refine qc.zP (qd2 a b i g j) (.zk (zZ a) (.zk (zZ b) .nil)) ?_;have e:inOk a b=decide (∀ t,t∈a.ts->t∈b.ts):=by
  rw[Bool.eq_iff_iff];simp[inOk]
 rw[e];exact .zsc _
theorem qd3(a b:List Int)(ha:a.length<=9223372036854775807):qd qb 109 [lI a,lI b] (aB (decide (a=b))):=by
 refine qSV call109 func109 rfl ?_;by_cases p:a.length=b.length
 case neg =>
  simp[go_sem,p];rw[decide_eq_false (by rintro rfl;exact p rfl)];exact .zsc _
 simp[go_sem,p];refine qh.up a.length (fun k st=>st.tm 0=lI a/\st.tm 1=lI b/\st.tm 12=aI a.length/\st.tm 13=aI k/\st.mu=[]/\∀(i:Nat) (h:i<a.length) (r:i<b.length),i<k->a[i]=b[i]) ?_ ?_
 .simp [go_sem,p]
 rintro k st hk ⟨J,P,j,l,R,T⟩;by_cases o:k<a.length
 .have g:k<b.length:=by omega
  simp[go_sem,j,l,R,o]
  try refine qg.intro zKr ?_
  by_cases t:a[k]=b[k]
  .simp [go_sem,J,P,j,l,o,g,t]
   refine⟨zWr,fun i h r U=>?_⟩;rcases Qf.1 U with C|C
   .exact T i h r C
   .subst C;exact t
  .simp [go_sem,J,P,o,g,t]
   rw[decide_eq_false (by rintro rfl;simp at t)];exact .zsc _
 .have I:k=a.length:=by omega
  subst I;simp[go_sem,j,l,R];rw[decide_eq_true (List.ext_getElem p fun i h r=>T i h r h)];exact .zsc _
theorem qd4(a b:Rl)(j:a.ts.length<=9223372036854775807):qd qb 61 [eRel a,eRel b] (aB (decide (a=b))):=by
 have g:(a=b)=(a.ar=b.ar/\a.ts=b.ts):=by cases a;cases b;simp
 refine qSV call61 func61 rfl ?_;by_cases i:a.ar=b.ar
 case neg =>
  simp[go_sem,i,g];exact .zsc _
 simp[go_sem,i];refine qc.pure (qd3 a.ts b.ts j) (.zk (zf _) (.zk (zf _) .nil)) ?_;simp[go_sem,i,g];exact .zsc _
theorem WK.ints{full:Bool}(l:List Int):WK (.lst full (l.map rI)) (lI l):=WK.lst fun r i c g=>by
 obtain⟨n,_,rfl⟩:=qk.1 i;simp at g;subst g;exact HF.sc _
theorem qd5(a b:Rl)(hl:a.ts.length<=4611686018427387904):qd qb 74 [eRel a,eRel b] (aB (decide (a=b))):=by
 have o:(a=b)=(a.ar=b.ar/\a.ts=b.ts):=by cases a;cases b;simp
 refine qSV call74 func74 rfl ?_;by_cases p:a.ar=b.ar
 case neg =>
  simp[go_sem,p,o];exact .zsc _
 by_cases j:a.ts.length=b.ts.length
 case neg =>
  simp[go_sem,p,j];rw[decide_eq_false (by rintro rfl;exact j rfl)];exact .zsc _
 simp[go_sem,p,j];refine qh.up a.ts.length (fun k st=>st.tm 2 = .ip [aI a.ar,lI a.ts]/\st.tm 3 = .ip [aI b.ar,lI b.ts]/\st.tm 5=aI k/\st.mu=[]/\∀(i:Nat) (h:i<a.ts.length) (C:i<b.ts.length),i<k->a.ts[i]=b.ts[i]) ?_ ?_
 .simp [go_sem,p]
 rintro k st hk ⟨r,R,t,J,T⟩;by_cases g:k<a.ts.length
 .have l:k<b.ts.length:=by omega
  by_cases I:a.ts[k]=b.ts[k]
  .simp [go_sem,r,t,J,g]
   refine qg.intro zKr ?_;simp[go_sem,r,R,t,g,l,I];refine⟨zWr,fun i h C U=>?_⟩;rcases Qf.1 U with j|j
   .exact T i h C j
   .subst j;exact I
  .simp [go_sem,r,t,J,g]
   refine qg.intro zKr ?_;simp[go_sem,r,R,t,g,l,I];rw[decide_eq_false (by rintro rfl;exact I rfl)];exact .zsc _
 .have P:k=a.ts.length:=by omega
  subst P;simp[go_sem,r,t,J];rw[decide_eq_true (o ▸ ⟨p,List.ext_getElem j fun i h C=>T i h C h⟩)];exact .zsc _
end E4
end Go.Proofs.YtahmfpfdgiemoaaGreatDoor
