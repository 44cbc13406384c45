/-
  Own library, part 3: an abstract reading of values and a calculus over it; contracts of functions; plain lemmas.
-/
import Derived.Test.YtpagnklaanbmbaaGreatDoorProg
import Derived.KernelRfl
import Derived.RecoverIn
import Derived.Sort.Grow
import Derived.Shelf.Small.Bits
import Derived.Shelf.Strconv.Itoa0
import Derived.Shelf.Strconv.Itoa1
import Derived.Shelf.LaysM
import Derived.Shelf.Strconv.Itoa2
import Derived.Shelf.Strconv.Itoa3
import Derived.Shelf.Sort.Plain
import Derived.Shelf.Bits.Mul64
import Derived.Ground.Names2Prog
import Derived.Shelf.Slices.Clone
import Derived.Shelf.Slices.CompactI
import Derived.Shelf.Slices.SearchI
import Derived.Shelf.Slices.Cells
import Derived.Shelf.Slices.In.SortNone
import Derived.Shelf.Slices.Empties
import Derived.Ground.SlgnProg
import Derived.Shelf.SlicesE.Clone
import Derived.Test.YtpagnklaanbmbaaGreatDoorMb
set_option linter.unusedVariables false
set_option linter.unusedSimpArgs false
set_option maxRecDepth 100000
open Go renaming Code->j3,Oper->us,Program->qb,TypeId->qf,undef->j2,FuncId->j1,Operand->zT,Value->zS,World->qh
open Go.Proofs.Tryz renaming prog->qc
open Go.IntKind renaming i64->qi
open List renaming getElem?_eq_some_iff->qj,mem_map->qp,range->qt,mem_cons->qw,getElem?_append_left->qx,getElem_mem->qy,getElem?_eq_getElem->qz,mem_append->qG,all_eq_true->qH,not_mem_nil->qI,mem_singleton->qN,mem_cons_of_mem->qO,mem_cons_self->qU,getElem?_append_right->qV,take_length->q8,mem_of_getElem?->q9,append_assoc->zc,map_append->zg,getElem?_set_ne->zo,getElem?_map->zp,getElem?_set_self->zr,replicate->zt,length_cons->zu,drop_eq_getElem_cons->zG,length_map->zH,take_of_length_le->zN,append_nil->zO,cons_append->yD,getElem?_eq_none->yF,getElem?_take->yT,getElem?_drop->yU,map_cons->yV,nodup_cons->jx,ext_getElem?->jy,mem_iff_getElem->vE,flatten_cons->vI,getElem?_toArray->vJ,length_take->vK,take_append_drop->u3,pairwise_cons->VS,mem_flatten->VT
open Option.some renaming injEq->qo
open Bool renaming and_eq_true->qr,or_eq_true->jT
open Nat renaming le_refl->qs,zero_add->yf,le_of_ble_eq_true->yj
open Array renaming getD_eq_getD_getElem?->qF,getElem?_eq_some_iff->zJ,getElem?_eq_getElem->vM
open Option renaming map_some->qW,map_eq_some_iff->yG
namespace Go.Ev
open Go Go.RowKit
section
variable {g:AV->St->Prop}{body:j3}{l:List us}
theorem eqS{C:Sort _}{a b:C}(h:a=b):a=b:=h
abbrev aI(n:Int):AV := .sc (.int .i64 n)
abbrev aB(b:Bool):AV := .sc (.bool b)
def panQ(Q:qQ->St->Prop):AV->St->Prop:=fun v st=>Q (.pan v) st
def retK(R:AEnd->Mu->Prop)(m:Mu):AV->Prop:=fun r=>R (.ret r) m
def qm(P:qb)(pl:Pol)(l:List us)(Q:St->Prop)(i:AV->St->Prop)(st:St):Prop:=∃ g,Fz st g/\Jw P pl l.toArray Q i g
theorem qm.intro{P:qb}{pl:Pol}{Q:St->Prop}{st:St}(h:ZQ pl l.toArray=true)(k:awpS P pl true l.toArray l Q g st):qm P pl l Q g st:=⟨st,.refl st,.inl (.inl ⟨h,k⟩)⟩
theorem qm.move{P:qb}{pl:Pol}{Q:St->Prop}{st:St}(a d:Nat)(h:Jo pl l.toArray a (a+d)=true)(i:(Nat.blt 0 d&&Nat.blt (a+d) l.length)=true)(k:awpS P pl true l.toArray l Q g st)(j:awpS P pl true l.toArray (yW a d l) Q g st):qm P pl l Q g st:=by
 rw[qr]at i;exact⟨st,.refl st,.inl (.inr (.inr ⟨a,d,h,yj i.1,yj i.2,k,j⟩))⟩
theorem qm.tail{P:qb}{pl:Pol}{Q:St->Prop}{st:St}(n:Nat)(h:Us pl l.toArray n=true)(k:awpS P pl true l.toArray (l.take n) (fun st=>awpS P pl false l.toArray (l.drop n) Q g st) g st):qm P pl l Q g st:=
 ⟨st,.refl st,.inl (.inr (.inl ⟨n,h,k⟩))⟩
@[go_sem ↓] theorem sameK_eq(st:St)(d:Tmp)(mu:Mu)(v:AV)(m:Mu):wM st d mu v m=(v=st.tm d/\m=mu):=eqS rfl
theorem qm.fz{P:qb}{pl:Pol}{Q:St->Prop}{st:St}(h:FzQ (fun _ st=>qm P pl l Q g st) (.exit 0) st):qm P pl l Q g st:=by
 obtain⟨i,f,_,st2,f2,j⟩:=h;exact⟨st2,.step f f2,j⟩
def panT(g:AV->St->Prop):AV->Mu->Prop:=fun v m=>∀ i,g v ⟨i,m⟩
theorem qm.seg{P:qb}{pl:Pol}{Q:St->Prop}{st:St}(O:List Nat)(T:List (Nat×Nat×List Nat))(h:ZS pl l.toArray O=true)(hT:plan pl l.toArray [] O=T)(i:vU P l.toArray T)(k:awpT P pl l.toArray Q g T st):qm P pl l Q g st:=by
 subst hT;exact⟨st,.refl st,.inr ⟨O,h,i,k⟩⟩
def newO(P:qb):Nat->Option us->Prop
 | 2,some o=>(match o.op with | .alloc e=>OptK (qB P e) fun z=>z.cells.all AV.one=true|_=>False)
 |_,_=>True
@[go_sem ↓] theorem newOk_nil(P:qb)(ops:Array us):vU P ops []=True:=eqS rfl
@[go_sem ↓] theorem qlN(P:qb)(l:List us)(j k:Nat)(r:List Nat)(T:List (Nat×Nat×List Nat)):vU P l.toArray ((j,k,r) :: T)=(newO P k l[j]?/\vU P l.toArray T):=by
 show ((match k,l.toArray[j]? with|2,some o=>(match o.op with | .alloc e=>OptK (qB P e) fun z=>z.cells.all AV.one=true|_=>False)|_,_=>True)/\vU P l.toArray T)=_;rw[vJ];congr 1
@[go_sem ↓] theorem newO_0(P:qb)(o:Option us):newO P 0 o=True:=eqS rfl
@[go_sem ↓] theorem newO_1(P:qb)(o:Option us):newO P 1 o=True:=eqS rfl
@[go_sem ↓] theorem newO_2(P:qb)(i:Option Tmp)(e:qf)(ty:qf)(pos:String)(after:Array Edge)(g:Option (Nat×Bool)):newO P 2 (some ⟨i,.alloc e,ty,pos,after,g⟩)=OptK (qB P e) (fun z=>z.cells.all AV.one=true):=eqS rfl
def segK(P:qb)(pl:Pol)(l:List us)(Q:St->Prop)(i:AV->St->Prop)(r:List Nat)(T:List (Nat×Nat×List Nat))(g:Option Tmp)(st:St):AV->Mu->Prop:=fun v m=>jY P pl l.toArray r (st.put g v m)/\awpT P pl l.toArray Q i T (st.put g v m)
def segP(g:AV->St->Prop)(k:Nat):AV->Mu->Prop:=fun v m=>k=1/\∀ i,g v ⟨i,m⟩
def segO(P:qb)(pl:Pol)(l:List us)(Q:St->Prop)(g:AV->St->Prop)(k:Nat)(r:List Nat)(T:List (Nat×Nat×List Nat))(st:St):Option us->Prop
 |none=>False
 |some o=>OptK (zI l.toArray st o) fun b=>Br b (qA P pl (k != 1) o.dst o.op st.ev st.mu (segK P pl l Q g r T o.dst st) (segP g k)) (awpT P pl l.toArray Q g T (st.put o.dst (.sc j2) st.mu))
@[go_sem ↓] theorem awpT_nil(P:qb)(pl:Pol)(ops:Array us)(Q:St->Prop)(g:AV->St->Prop)(st:St):awpT P pl ops Q g [] st=Q st:=eqS rfl
@[go_sem ↓] theorem awpT_cons(P:qb)(pl:Pol)(l:List us)(Q:St->Prop)(g:AV->St->Prop)(j k:Nat)(r:List Nat)(T:List (Nat×Nat×List Nat))(st:St):awpT P pl l.toArray Q g ((j,k,r) :: T) st=segO P pl l Q g k r T st l[j]?:=by
 show (match l.toArray[j]? with|none=>False|some o=>OptK (zI l.toArray st o) fun b=>Br b (qA P pl (k != 1) o.dst o.op st.ev st.mu (fun v m=>jY P pl l.toArray r (st.put o.dst v m)/\awpT P pl l.toArray Q g T (st.put o.dst v m)) (fun v m=>k=1/\∀ i,g v ⟨i,m⟩)) (awpT P pl l.toArray Q g T (st.put o.dst (.sc j2) st.mu)))=_;rw[vJ];cases l[j]?<;>rfl
@[go_sem ↓] theorem segO_0(P:qb)(pl:Pol)(l:List us)(Q:St->Prop)(i:AV->St->Prop)(r:List Nat)(T:List (Nat×Nat×List Nat))(st:St)(g:Option Tmp)(op:Op)(ty:qf)(pos:String)(after:Array Edge) :
  segO P pl l Q i 0 r T st (some ⟨g,op,ty,pos,after,none⟩)=qA P pl true g op st.ev st.mu (segK P pl l Q i r T g st) noK:=by
 have:segP i 0=noK:=by funext v m;simp[segP,noK]
 show OptK (some true) (fun b=>Br b (qA P pl true g op st.ev st.mu (segK P pl l Q i r T g st) (segP i 0)) _)=_;rw[this];simp[OptK,Br]
@[go_sem ↓] theorem segO_1(P:qb)(pl:Pol)(l:List us)(Q:St->Prop)(i:AV->St->Prop)(r:List Nat)(T:List (Nat×Nat×List Nat))(st:St)(g:Option Tmp)(op:Op)(ty:qf)(pos:String)(after:Array Edge) :
  segO P pl l Q i 1 r T st (some ⟨g,op,ty,pos,after,none⟩)=qA P pl false g op st.ev st.mu (segK P pl l Q i r T g st) (panT i):=by
 have:segP i 1=panT i:=by funext v m;simp[segP,panT]
 show OptK (some true) (fun b=>Br b (qA P pl false g op st.ev st.mu (segK P pl l Q i r T g st) (segP i 1)) _)=_;rw[this];simp[OptK,Br]
@[go_sem ↓] theorem segO_2(P:qb)(pl:Pol)(l:List us)(Q:St->Prop)(i:AV->St->Prop)(r:List Nat)(T:List (Nat×Nat×List Nat))(st:St)(g:Option Tmp)(op:Op)(ty:qf)(pos:String)(after:Array Edge) :
  segO P pl l Q i 2 r T st (some ⟨g,op,ty,pos,after,none⟩)=qA P pl true g op st.ev st.mu (segK P pl l Q i r T g st) noK:=by
 have:segP i 2=noK:=by funext v m;simp[segP,noK]
 show OptK (some true) (fun b=>Br b (qA P pl true g op st.ev st.mu (segK P pl l Q i r T g st) (segP i 2)) _)=_;rw[this];simp[OptK,Br]
@[go_sem ↓] theorem segK_eq(P:qb)(pl:Pol)(l:List us)(Q:St->Prop)(i:AV->St->Prop)(r:List Nat)(T:List (Nat×Nat×List Nat))(g:Option Tmp)(st:St)(v:AV)(m:Mu):segK P pl l Q i r T g st v m=(jY P pl l.toArray r (st.put g v m)/\awpT P pl l.toArray Q i T (st.put g v m)):=eqS rfl
@[go_sem ↓] theorem qlO(P:qb)(pl:Pol)(ops:Array us)(st:St):jY P pl ops [] st=True:=eqS rfl
def Jx(P:qb)(pl:Pol)(l:List us)(st:St):Option us->Prop
 |some o=>OptK (zI l.toArray st o) fun b=>Br b (wO P pl o st) True
 |none=>True
@[go_sem ↓] theorem qlP(P:qb)(pl:Pol)(l:List us)(p:Nat)(r:List Nat)(st:St):jY P pl l.toArray (p :: r) st=(Jx P pl l st l[p]?/\jY P pl l.toArray r st):=by
 show ((match l.toArray[p]? with|some o=>OptK (zI l.toArray st o) (fun b=>Br b (wO P pl o st) True)|none=>True)/\jY P pl l.toArray r st)=_;rw[vJ];cases l[p]?<;>rfl
@[go_sem ↓] theorem qlQ(P:qb)(pl:Pol)(l:List us)(st:St)(d:Tmp)(op:Op)(ty:qf)(pos:String)(after:Array Edge):Jx P pl l st (some ⟨some d,op,ty,pos,after,none⟩)=qA P pl true (some d) op st.ev st.mu (wM st d st.mu) noK:=by
 show OptK (some true) (fun b=>Br b (qA P pl true (some d) op st.ev st.mu (wM st d st.mu) noK) True)=_;simp[OptK,Br]
def qk(P:qb)(pl:Pol)(body:j3)(Q:qQ->St->Prop)(st:St):Prop:=∃(z:Bool) (I:Nat->St->Prop) (n:Nat) (g:St),Fz st g/\I n g/\∀ n st,I n st->awp P pl body (uC I n (fzQ z Q)) st
theorem qk.intro{P:qb}{pl:Pol}{Q:qQ->St->Prop}{st:St}(I:Nat->St->Prop)(n:Nat)(h:I n st)(k:∀ n st,I n st->awp P pl body (uC I n Q) st):qk P pl body Q st:=⟨false,I,n,st,.refl st,h,k⟩
theorem qk.introF{P:qb}{pl:Pol}{Q:qQ->St->Prop}{st:St}(I:Nat->St->Prop)(n:Nat)(h:I n st)(k:∀ n st,I n st->awp P pl body (uC I n (FzQ Q)) st):qk P pl body Q st:=⟨true,I,n,st,.refl st,h,k⟩
def vV(P:qb)(pl:Pol)(g:AV)(ps:Array Tmp)(l body:j3)(Q:qQ->St->Prop)(st:St):Prop:=
 ∃(z:Bool) (p:j1) (i:List AV) (rows:List (List AV)) (I:Nat->Mu->Prop) (o:qQ->Mu->Prop),
   g = .fn (.func p) [] i/\KQ P p i rows I o/\I 0 (st.mu++[.dead]) /\
   (∀ k x j,rows[k]?=some x->I k j->x.length=ps.size/\awp P pl l (asQ (fun st=>awp P pl body (rndQ I o k) st)) ⟨vp st.tm ps.toList x,j⟩) /\
   (∀ j,I rows.length j->fzQ z Q .normal ⟨st.tm,j⟩)/\(∀ e j,o e j->fzQ z Q e ⟨st.tm,j⟩)
theorem vV.intro{P:qb}{pl:Pol}{j:j1}{caps:List AV}{ps:Array Tmp}{g:j3}{Q:qQ->St->Prop}{st:St}{rows:List (List AV)}(l:jm P j caps rows)(I:Nat->Mu->Prop)(i:qQ->Mu->Prop)
  (o:I 0 (st.mu++[.dead])) (p:∀ k mu,I k mu->I k (mu++[.dead])) (r:∀ e mu,i e mu->i e (mu++[.dead]))
  (t:∀ k x mu,rows[k]?=some x->I k mu->x.length=ps.size/\awp P pl g (asQ (fun st=>awp P pl body (rndQ I i k) st)) ⟨vp st.tm ps.toList x,mu⟩)
  (C:∀ mu,I rows.length mu->Q .normal ⟨st.tm,mu⟩) (J:∀ e mu,i e mu->Q e ⟨st.tm,mu⟩):vV P pl (.fn (.func j) [] caps) ps g body Q st:=
 ⟨false,j,caps,rows,I,i,rfl,.inl ⟨l,p,r⟩,o,t,C,J⟩
@[go_sem] theorem setPs_nil(g:Nat->AV)(xs:List AV):vp g [] xs=g:=eqS (by cases xs<;>rfl)
@[go_sem] theorem qlR(g:Nat->AV)(t:Tmp)(ts:List Tmp)(x:AV)(xs:List AV):vp g (t :: ts) (x :: xs)=vp (fun i=>if i=t then x else g i) ts xs:=eqS rfl
@[go_sem] theorem qlS(n:St->Prop)(st:St):asQ n .normal st=n st:=eqS rfl
@[go_sem] theorem qlT(I:Nat->Mu->Prop)(g:qQ->Mu->Prop)(k:Nat)(st:St):rndQ I g k .normal st=I (k+1) st.mu:=eqS rfl
@[go_sem] theorem rndQ_ret(I:Nat->Mu->Prop)(g:qQ->Mu->Prop)(k:Nat)(st:St):rndQ I g k .ret st=g .ret st.mu:=eqS rfl
section
variable (P:qb) (pl:Pol) (Q:qQ->St->Prop) (st:St)
@[go_sem ↓] theorem awp_skip:awp P pl .skip Q st=Q .normal st:=eqS rfl
@[go_sem ↓] theorem awp_exit(id:Nat):awp P pl (.exit id) Q st=Q (.exit id) st:=eqS rfl
@[go_sem ↓] theorem awp_ret:awp P pl .ret Q st=Q .ret st:=eqS rfl
@[go_sem ↓] theorem qcS(a b:j3):awp P pl (.seq a b) Q st=awp P pl a (seqQ (awp P pl b Q) Q) st:=eqS rfl
@[go_sem ↓] theorem awp_block(id:Nat)(b:j3):awp P pl (.block id b) Q st=awp P pl b (jZ id Q) st:=eqS rfl
@[go_sem ↓] theorem awp_loop(b:j3):awp P pl (.loop b) Q st=qk P pl b Q st:=eqS rfl
@[go_sem ↓] theorem qlU(g:zT)(ps:Array Tmp)(i body:j3):awp P pl (.rangeFunc g ps i body) Q st=vV P pl (st.ev g) ps i body Q st:=eqS rfl
@[go_sem ↓] theorem qlV(id:Nat)(l:List us):awp P pl (.region id l.toArray false) Q st=awpS P pl false l.toArray l (Q .normal) (panQ Q) st:=
 propext ⟨fun h=>by rcases h with ⟨_,h⟩|⟨e,_⟩;exact h;exact absurd e (by simp),fun h => .inl ⟨rfl,h⟩⟩
@[go_sem ↓] theorem qcT(id:Nat)(l:List us):awp P pl (.region id l.toArray true) Q st=qm P pl l (Q .normal) (panQ Q) st:=
 propext ⟨fun h=>by rcases h with ⟨e,_⟩|⟨_,h⟩;exact absurd e (by simp);exact h,fun h => .inr ⟨rfl,h⟩⟩
def BrS(b:Bool)(p q:St->Prop)(st:St):Prop:=Br b (p st) (q st)
@[go_sem ↓] theorem BrS_true(p q:St->Prop):BrS true p q st=p st:=by simp[BrS,Br]
@[go_sem ↓] theorem BrS_false(p q:St->Prop):BrS false p q st=q st:=by simp[BrS,Br]
@[go_sem] theorem BrS_true'(p q:St->Prop):BrS true p q st=p st:=by simp[BrS,Br]
@[go_sem] theorem qlW(p q:St->Prop):BrS false p q st=q st:=by simp[BrS,Br]
theorem BrS.intro{b:Bool}{p q:St->Prop}{st:St}(g:b=true->p st)(i:b=false->q st):BrS b p q st:=⟨g,i⟩
def UA(v:AV)(p q:St->Prop)(st:St):Prop:=∃ t,v = .sc (.bool t)/\Br t (p st) (q st)
@[go_sem ↓] theorem awp_cond(c:zT)(a b:j3):awp P pl (.cond c a b) Q st=UA (st.ev c) (awp P pl a Q) (awp P pl b Q) st:=eqS rfl
@[go_sem] theorem qlX(t:Bool)(p q:St->Prop):UA (.sc (.bool t)) p q st=BrS t p q st:=by
 simp[UA,BrS]
@[go_sem ↓] theorem qlY(n:St->Prop):seqQ n Q .normal st=n st:=eqS rfl
@[go_sem ↓] theorem seqQ_exit(n:St->Prop)(i:Nat):seqQ n Q (.exit i) st=Q (.exit i) st:=eqS rfl
@[go_sem ↓] theorem seqQ_ret(n:St->Prop):seqQ n Q .ret st=Q .ret st:=eqS rfl
@[go_sem ↓] theorem qlZ(i:Nat):jZ i Q .normal st=Q .normal st:=eqS rfl
@[go_sem ↓] theorem ql0(i j:Nat):jZ j Q (.exit i) st=if i=j then Q .normal st else Q (.exit i) st:=eqS rfl
@[go_sem ↓] theorem ql1(i:Nat):jZ i Q .ret st=Q .ret st:=eqS rfl
@[go_sem ↓] theorem ql2(I:Nat->St->Prop)(n:Nat):uC I n Q .normal st=∃ m,m<n/\I m st:=eqS rfl
@[go_sem ↓] theorem ql3(I:Nat->St->Prop)(n i:Nat):uC I n Q (.exit i) st=Q (.exit i) st:=eqS rfl
@[go_sem ↓] theorem loopQ_ret(I:Nat->St->Prop)(n:Nat):uC I n Q .ret st=Q .ret st:=eqS rfl
@[go_sem ↓] theorem ql4(g:List ResultVar)(R:AEnd->Mu->Prop):wP P g R .normal st=OptK (yX P st g) (retK R st.mu):=eqS rfl
@[go_sem ↓] theorem PostQ_ret(g:List ResultVar)(R:AEnd->Mu->Prop):wP P g R .ret st=OptK (yX P st g) (retK R st.mu):=eqS rfl
@[go_sem ↓] theorem retK_eq(R:AEnd->Mu->Prop)(m:Mu)(r:AV):retK R m r=R (.ret r) m:=eqS rfl
@[go_sem] theorem ql5(r:ResultVar):yX P st [r]=resV P st r:=eqS rfl
@[go_sem] theorem ql6:yX P st []=some (.tup []):=eqS rfl
@[go_sem] theorem ql7(r s:ResultVar):yX P st [r,s]=(match resV P st r,resV P st s with|some x,some y=>some (.tup [x,y])|_,_=>none):=by
 grind [yX,resL,resV]
@[go_sem] theorem ql8(r s t:ResultVar):yX P st [r,s,t]=(match resV P st r,resV P st s,resV P st t with|some x,some y,some z=>some (.tup [x,y,z])|_,_,_=>none):=by
 simp only[yX,resL]
 grind
@[go_sem] theorem resV_tmp(t:Tmp):resV P st (.tmp t)=some (st.tm t):=eqS rfl
@[go_sem] theorem resV_cell(a:Tmp)(t:qf):resV P st (.cell a t)=vP P st.mu t (st.tm a):=eqS rfl
end
end
section
variable {α:Type}
@[go_sem] theorem OptK_some(v:α)(k:α->Prop):OptK (some v) k=k v:=by simp[OptK]
theorem OptK.intro{o:Option α}{k:α->Prop}(v:α)(h:o=some v)(g:k v):OptK o k:=⟨v,h,g⟩
end
section
variable (P:qb) (pl:Pol) (det:Bool) (ops:Array us) (Q:St->Prop) (Qp:AV->St->Prop) (st:St)
def Jy(P:qb)(pl:Pol)(det:Bool)(ops:Array us)(l:List us)(Q:St->Prop)(Qp:AV->St->Prop)(st:St)(g:Option Tmp):AV->Mu->Prop:=fun v m=>awpS P pl det ops l Q Qp (st.put g v m)
def panS(Qp:AV->St->Prop)(st:St):AV->Mu->Prop:=fun v m=>Qp v ⟨st.tm,m⟩
@[go_sem ↓] theorem contK_eq(l:List us)(g:Option Tmp)(v:AV)(m:Mu):Jy P pl det ops l Q Qp st g v m=awpS P pl det ops l Q Qp (st.put g v m):=eqS rfl
@[go_sem ↓] theorem awpS_nil:awpS P pl det ops [] Q Qp st=Q st:=eqS rfl
@[go_sem ↓] theorem ql9(g:Option Tmp)(op:Op)(ty:qf)(pos:String)(after:Array Edge)(l:List us):awpS P pl det ops (⟨g,op,ty,pos,after,none⟩ :: l) Q Qp st =
  qA P pl det g op st.ev st.mu (Jy P pl det ops l Q Qp st g) (panS Qp st):=by
 simp[awpS,zI,OptK,Br];rfl
def runK(P:qb)(pl:Pol)(det:Bool)(ops:Array us)(g:Option Tmp)(op:Op)(l:List us)(Q:St->Prop)(Qp:AV->St->Prop):St->Prop:=fun st=>qA P pl det g op st.ev st.mu (Jy P pl det ops l Q Qp st g) (panS Qp st)
def KU(P:qb)(pl:Pol)(det:Bool)(ops:Array us)(g:Option Tmp)(l:List us)(Q:St->Prop)(Qp:AV->St->Prop):St->Prop:=fun st=>awpS P pl det ops l Q Qp (st.put g (.sc j2) st.mu)
@[go_sem ↓] theorem runK_eq(g:Option Tmp)(op:Op)(l:List us):runK P pl det ops g op l Q Qp st=qA P pl det g op st.ev st.mu (Jy P pl det ops l Q Qp st g) (panS Qp st):=eqS rfl
@[go_sem ↓] theorem passK_eq(g:Option Tmp)(l:List us):KU P pl det ops g l Q Qp st=awpS P pl det ops l Q Qp (st.put g (.sc j2) st.mu):=eqS rfl
def brK(p q:St->Prop)(st:St):Bool->Prop:=fun b=>BrS b p q st
@[go_sem ↓] theorem brK_eq(p q:St->Prop)(b:Bool):brK p q st b=BrS b p q st:=eqS rfl
def wQ(d:Option Tmp)(st:St)(g:Bool)(p q:St->Prop):Prop:=OptK (match d with|none=>some false|some d=>wK (st.tm d) g) (brK p q st)
@[go_sem ↓] theorem qmA(i:Option Tmp)(op:Op)(ty:qf)(pos:String)(after:Array Edge)(l:List us)(j:Nat)(g:Bool)(ol:List us) :
  awpS P pl det ol.toArray (⟨i,op,ty,pos,after,some (j,g)⟩ :: l) Q Qp st=wQ ((ol[j]?).bind (·.dst)) st g (runK P pl det ol.toArray i op l Q Qp) (KU P pl det ol.toArray i l Q Qp):=by
 simp only[awpS,zI,wQ,vJ];rfl
@[go_sem] theorem qmB(d:Tmp)(g:Bool)(p q:St->Prop):wQ (some d) st g p q=OptK (wK (st.tm d) g) (brK p q st):=eqS rfl
@[go_sem] theorem qmC(b g:Bool):wK (.sc (.bool b)) g=some (b == g):=eqS rfl
@[go_sem] theorem qmD(g:Bool):wK (.sc j2) g=some false:=eqS rfl
end
def plc(l:List (Nat×Nat)):Nat->Option (Nat×Nat):=fun i=>l.toArray[i]?
def plA(s:Nat):Nat->Option (Nat×Nat):=fun i=>some (i*s,s)
@[go_sem] theorem plc_zero(p:Nat×Nat)(l:List (Nat×Nat)):plc (p :: l) 0=some p:=by simp[plc]
@[go_sem] theorem plc_succ(p:Nat×Nat)(l:List (Nat×Nat))(i:Nat):plc (p :: l) (i+1)=plc l i:=by simp[plc]
@[go_sem] theorem plA_eq(s i:Nat):plA s i=some (i*s,s):=eqS rfl
section
variable (st:St) (v:AV) (m:Mu)
@[go_sem] theorem put_tm(d i:Tmp):(st.put (some d) v m).tm i=if i=d then v else st.tm i:=eqS rfl
@[go_sem] theorem qmE(i:Tmp):(st.put none v m).tm i=st.tm i:=eqS rfl
@[go_sem] theorem zl(d:Option Tmp):(st.put d v m).mu=m:=eqS rfl
@[go_sem] theorem st0_tm(args:List AV)(i:Tmp):(st0 args m).tm i=(args[i]?).getD (.sc j2):=eqS rfl
@[go_sem] theorem st0_mu(args:List AV):(st0 args m).mu=m:=eqS rfl
@[go_sem] theorem ev_tmp(t:Tmp):st.ev (.tmp t)=st.tm t:=eqS rfl
@[go_sem] theorem ev_const(c:zS):st.ev (.const c)=ofV c:=eqS rfl
@[go_sem] theorem ev_func(f:j1):st.ev (.func f) = .fn (.func f) [] []:=eqS rfl
@[go_sem] theorem ofV_int(k:IntKind)(n:Int):ofV (.int k n) = .sc (.int k n):=eqS rfl
@[go_sem] theorem ofV_bool(b:Bool):ofV (.bool b) = .sc (.bool b):=eqS rfl
@[go_sem] theorem qmF(s:ByteArray):ofV (.string s) = .sc (.string s):=eqS rfl
@[go_sem] theorem qmG:ofV (.slice none 0 0) = .lst true []:=eqS rfl
@[go_sem] theorem qmH:ofV .nilIface = .sc .nilIface:=eqS rfl
@[go_sem] theorem qmI:ofV .nilFunc = .sc .nilFunc:=eqS rfl
end
section
variable (P:qb) (pl:Pol) (det:Bool) (dst:Option Tmp) (ev:zT->AV) (mu:Mu) (K Kp:AV->Mu->Prop)
def km(K:AV->Mu->Prop)(mu:Mu):AV->Prop:=fun z=>K z mu
def ks(K:AV->Mu->Prop):Mu->Prop:=fun m=>K (.sc j2) m
def kp(K:AV->Mu->Prop):AV×Mu->Prop:=fun z=>K z.1 z.2
def KV(K:AV->Mu->Prop)(mu:Mu):AV->Prop:=fun z=>z.cells.all AV.one=true/\K (.ptr mu.length 0) (mu++[.arr z.cells])
@[go_sem ↓] theorem km_eq(z:AV):km K mu z=K z mu:=eqS rfl
@[go_sem ↓] theorem ks_eq(m:Mu):ks K m=K (.sc j2) m:=eqS rfl
@[go_sem ↓] theorem kp_eq(z:AV)(m:Mu):kp K (z,m)=K z m:=eqS rfl
@[go_sem ↓] theorem allocK_eq(z:AV):KV K mu z=(z.cells.all AV.one=true/\K (.ptr mu.length 0) (mu++[.arr z.cells])):=eqS rfl
@[go_sem ↓] theorem qmJ(x:zT):qA P pl det dst (.move x) ev mu K Kp=K (ev x) mu:=eqS rfl
@[go_sem ↓] theorem qmK(x:zT):qA P pl det dst (.assign x) ev mu K Kp=K (ev x) mu:=eqS rfl
def UB(v a b:AV)(k:AV->Prop):Prop:=∃ t,v = .sc (.bool t)/\k (if t then a else b)
@[go_sem ↓] theorem qmL(c a b:zT):qA P pl det dst (.pick c a b) ev mu K Kp=UB (ev c) (ev a) (ev b) (km K mu):=eqS rfl
@[go_sem] theorem qmM(t:Bool)(a b:AV)(k:AV->Prop):UB (.sc (.bool t)) a b k=k (if t then a else b):=by simp[UB]
@[go_sem ↓] theorem qmN(e:qf):qA P pl det dst (.alloc e) ev mu K Kp=OptK (qB P e) (KV K mu):=eqS rfl
@[go_sem ↓] theorem SStep_box(e:qf)(x:zT):qA P pl det dst (.box e x) ev mu K Kp=((ev x).cells.all AV.one=true/\(if (dst.any pl.mt.contains)=true then K (.ptr mu.length 0) (mu++[.arr (ev x).cells]) else K (.ip (ev x).cells) mu)):=eqS rfl
@[go_sem ↓] theorem qmO(t:qf)(ps:List (Nat×zT)):qA P pl det dst (.build t ps.toArray) ev mu K Kp=(yL P t=true/\OptK (ZE P t (ps.map fun p=>(p.1,ev p.2))) (km K mu)):=eqS rfl
@[go_sem ↓] theorem qmP(t:qf)(n:Nat)(ps:List (Nat×zT)):qA P pl det dst (.buildSlice t n ps.toArray) ev mu K Kp=OptK (ZH P t n (ps.map fun p=>(p.1,ev p.2))) (km K mu):=eqS rfl
@[go_sem ↓] theorem qmQ(t:qf)(x:zT):qA P pl det dst (.load t x) ev mu K Kp=OptK (vP P mu t (ev x)) (km K mu):=eqS rfl
@[go_sem ↓] theorem qmR(t:qf)(a x:zT):qA P pl det dst (.store t a x) ev mu K Kp=OptK (Zw P mu t (ev a) (ev x)) (ks K):=eqS rfl
def uD(P:qb)(det:Bool)(op:BinOp)(t:qf)(x y:zT)(ev:zT->AV)(mu:Mu)(K:AV->Mu->Prop):Prop:=if uy y=true then jL P det op t (ev x) (km K mu) else OptK (ux P op t (ev x) (ev y)) (km K mu)
@[go_sem ↓] theorem qmS(op:BinOp)(t g:qf)(x y:zT):qA P pl det dst (.binOp op t x y g) ev mu K Kp=uD P det op t x y ev mu K:=eqS rfl
@[go_sem ↓] theorem BinGo_tmp(op:BinOp)(t:qf)(x:zT)(u:Tmp):uD P det op t x (.tmp u) ev mu K=OptK (ux P op t (ev x) (ev (.tmp u))) (km K mu):=by simp[uD,uy]
@[go_sem ↓] theorem BinGo_int(op:BinOp)(t:qf)(x:zT)(k:IntKind)(n:Int):uD P det op t x (.const (.int k n)) ev mu K=OptK (ux P op t (ev x) (ev (.const (.int k n)))) (km K mu):=by simp[uD,uy]
@[go_sem ↓] theorem qmT(op:BinOp)(t:qf)(x:zT)(s:ByteArray):uD P det op t x (.const (.string s)) ev mu K=OptK (ux P op t (ev x) (ev (.const (.string s)))) (km K mu):=by simp[uD,uy]
@[go_sem ↓] theorem qmU(op:BinOp)(t:qf)(x:zT):uD P det op t x (.const .nilIface) ev mu K=OptK (ux P op t (ev x) (ev (.const .nilIface))) (km K mu):=by simp[uD,uy]
@[go_sem ↓] theorem qmV(op:UnOp)(t:qf)(x:zT):qA P pl det dst (.unOp op t x) ev mu K Kp=OptK (aUn op (ev x)) (km K mu):=eqS rfl
@[go_sem ↓] theorem qmW(s t:qf)(x:zT):qA P pl det dst (.convert s t x) ev mu K Kp=((P.underlying s).isSome=true/\OptK (Zx P s t (ev x)) (km K mu)):=eqS rfl
@[go_sem ↓] theorem qmX(f:Fn)(a b:List zT):qA P pl det dst (.makeFunc f a.toArray b.toArray) ev mu K Kp=K (.fn f (evs ev a) (evs ev b)) mu:=eqS rfl
@[go_sem ↓] theorem qmY(t:qf)(l c:zT):qA P pl det dst (.makeSlice t l c) ev mu K Kp=OptK (Qm P mu t (ev l) (ev c)) (kp K):=eqS rfl
@[go_sem ↓] theorem qmZ(t:qf)(x:zT)(lo g mx:Option zT):qA P pl det dst (.slice t x lo g mx) ev mu K Kp=(Uf P t (ev x)/\OptK (ZC P t (ev x) (lo.map ev) (g.map ev) (mx.map ev)) (km K mu)):=eqS rfl
@[go_sem ↓] theorem qm0(t:qf)(x:zT)(f:Nat):qA P pl det dst (.fieldAddr t x f) ev mu K Kp=OptK (Zy P t f (ev x)) (km K mu):=eqS rfl
@[go_sem ↓] theorem qm1(t:qf)(x:zT)(f:Nat):qA P pl det dst (.field t x f) ev mu K Kp=OptK (ZA P t f (ev x)) (km K mu):=eqS rfl
@[go_sem ↓] theorem qm2(t:qf)(x i:zT):qA P pl det dst (.indexAddr t x i) ev mu K Kp=OptK (Zz P t (ev x) (ev i)) (km K mu):=eqS rfl
@[go_sem ↓] theorem qm3(t:qf)(x i:zT):qA P pl det dst (.index t x i) ev mu K Kp=OptK (ZB P t (ev x) (ev i)) (km K mu):=eqS rfl
@[go_sem ↓] theorem qm4(x:zT)(i:Nat):qA P pl det dst (.extract x i) ev mu K Kp=OptK (Ji i (ev x)) (km K mu):=eqS rfl
@[go_sem ↓] theorem qm5(t:qf):qA P pl det dst (.makeMap t none) ev mu K Kp=K (.mp mu.length) (mu++[.mp []]):=by
 simp only[qA,true_and]
@[go_sem ↓] theorem qm6(t:qf)(m k:zT)(ok:Bool):qA P pl det dst (.lookup t m k ok) ev mu K Kp=OptK (yK P mu t (ev m) (ev k) ok) (km K mu):=eqS rfl
@[go_sem ↓] theorem qm7(t:qf)(m k v:zT):qA P pl det dst (.mapUpdate t m k v) ev mu K Kp=OptK (vR P mu t (ev m) (ev k) (ev v)) (ks K):=eqS rfl
@[go_sem ↓] theorem qm8(f:zT)(g:List zT)(i:Array qf):qA P pl det dst (.call ⟨.value f,g.toArray,i⟩) ev mu K Kp=qd P det mu (ev f) (evs ev g) K Kp:=eqS rfl
def KW(P:qb)(mu:Mu)(g:Array qf)(l:List AV)(K:AV->Mu->Prop):Prop:=∃ s x,l=[s,x]/\qD P mu g s x K
@[go_sem ↓] theorem qm9(g:List zT)(i:Array qf):qA P pl det dst (.call ⟨.builtin .append,g.toArray,i⟩) ev mu K Kp=KW P mu i (evs ev g) K:=eqS rfl
@[go_sem] theorem AppGo_eq(g:Array qf)(s x:AV):KW P mu g [s,x] K=qD P mu g s x K:=
 propext ⟨fun⟨_,_,e,h⟩=>by cases e;exact h,fun h=>⟨s,x,rfl,h⟩⟩
@[go_sem ↓] theorem SStep_len(g:List zT)(i:Array qf):qA P pl det dst (.call ⟨.builtin .len,g.toArray,i⟩) ev mu K Kp=OptK (jX P mu .len i (evs ev g)) (km K mu):=eqS rfl
@[go_sem ↓] theorem SStep_cap(g:List zT)(i:Array qf):qA P pl det dst (.call ⟨.builtin .cap,g.toArray,i⟩) ev mu K Kp=OptK (jX P mu .cap i (evs ev g)) (km K mu):=eqS rfl
@[go_sem ↓] theorem SStep_min(g:List zT)(i:Array qf):qA P pl det dst (.call ⟨.builtin .min,g.toArray,i⟩) ev mu K Kp=OptK (jX P mu .min i (evs ev g)) (km K mu):=eqS rfl
@[go_sem ↓] theorem SStep_max(g:List zT)(i:Array qf):qA P pl det dst (.call ⟨.builtin .max,g.toArray,i⟩) ev mu K Kp=OptK (jX P mu .max i (evs ev g)) (km K mu):=eqS rfl
@[go_sem] theorem evs_nil:evs ev []=[]:=eqS rfl
@[go_sem] theorem evs_cons(x:zT)(l:List zT):evs ev (x :: l)=ev x :: evs ev l:=eqS rfl
end
@[go_sem] theorem cells_agg(cs:List AV):(AV.agg cs).cells=cs:=eqS rfl
@[go_sem] theorem cells_sc(v:zS):(AV.sc v).cells=[.sc v]:=eqS rfl
@[go_sem] theorem cells_lst(f:Bool)(xs:List (List AV)):(AV.lst f xs).cells=[.lst f xs]:=eqS rfl
@[go_sem] theorem cells_sl(b sz off len:Nat):(AV.sl b sz off len).cells=[.sl b sz off len]:=eqS rfl
@[go_sem] theorem cells_fn(f:Fn)(a b:List AV):(AV.fn f a b).cells=[.fn f a b]:=eqS rfl
@[go_sem] theorem one_int(k:IntKind)(n:Int):(AV.sc (.int k n)).one=true:=eqS rfl
@[go_sem] theorem one_bool(b:Bool):(AV.sc (.bool b)).one=true:=eqS rfl
@[go_sem] theorem qnA(s:ByteArray):(AV.sc (.string s)).one=true:=eqS rfl
@[go_sem] theorem qnB:(AV.sc .nilFunc).one=true:=eqS rfl
@[go_sem] theorem qnC:(AV.sc (.map none)).one=true:=eqS rfl
@[go_sem] theorem one_lst(f:Bool)(xs:List (List AV)):(AV.lst f xs).one=true:=eqS rfl
@[go_sem] theorem one_sl(b sz off len:Nat):(AV.sl b sz off len).one=true:=eqS rfl
@[go_sem] theorem one_fn(f:Fn)(a b:List AV):(AV.fn f a b).one=true:=eqS rfl
@[go_sem] theorem qnD(x:us)(l:List us):jl 0 x l=x :: l:=eqS (by cases l<;>rfl)
@[go_sem] theorem qnE(d:Nat)(x y:us)(l:List us):jl (d+1) x (y :: l)=y :: jl d x l:=eqS rfl
@[go_sem] theorem qnF(d:Nat)(x:us)(l:List us):yW 0 d (x :: l)=jl d x l:=eqS rfl
@[go_sem] theorem qnG(n d:Nat)(x:us)(l:List us):yW (n+1) d (x :: l)=x :: yW n d l:=eqS rfl
end Go.Ev
namespace Go.Ev
open Go Go.RowKit
section
variable {g:AV->St->Prop}{ops:Array us}{pl:Pol}{P:qb}
theorem qA.mono{det:Bool}{I:Option Tmp}{op:Op}{ev:zT->AV}{mu:Mu}{K K' Kp J:AV->Mu->Prop}(h:qA P pl det I op ev mu K Kp)
  (o:∀ v m,K v m->K' v m) (U:∀ v m,Kp v m->J v m):qA P pl det I op ev mu K' J:=by
 cases op<;>simp only[qA]at h⊢<;>try (exact h.elim)
 case move=>exact o _ _ h
 case assign=>exact o _ _ h
 case makeFunc=>exact o _ _ h
 case pick=>obtain⟨t,l,j⟩:=h;exact⟨t,l,o _ _ j⟩
 case alloc=>obtain⟨z,l,j,C⟩:=h;exact⟨z,l,j,o _ _ C⟩
 case box =>
  obtain⟨l,j⟩:=h;refine⟨l,?_⟩;split at j
  .rename_i hc;rw[if_pos hc];exact o _ _ j
  .rename_i hc;rw[if_neg hc];exact o _ _ j
 case build=>obtain⟨p,z,l,j⟩:=h;exact⟨p,z,l,o _ _ j⟩
 case buildSlice=>obtain⟨z,l,j⟩:=h;exact⟨z,l,o _ _ j⟩
 case load=>obtain⟨z,l,j⟩:=h;exact⟨z,l,o _ _ j⟩
 case store=>obtain⟨z,l,j⟩:=h;exact⟨z,l,o _ _ j⟩
 case nilCheck=>obtain⟨z,l,j⟩:=h;exact⟨z,l,o _ _ j⟩
 case binOp =>
  split at h
  .rename_i hy
   simp only[if_pos hy];exact h.mono fun z hz=>o _ _ hz
  .rename_i hy
   simp only[if_neg hy];obtain⟨z,l,j⟩:=h;exact⟨z,l,o _ _ j⟩
 case unOp=>obtain⟨z,l,j⟩:=h;exact⟨z,l,o _ _ j⟩
 case convert=>obtain⟨p,z,l,j⟩:=h;exact⟨p,z,l,o _ _ j⟩
 case makeInterface=>obtain⟨p,j⟩:=h;exact⟨p,o _ _ j⟩
 case makeSlice=>obtain⟨z,l,j⟩:=h;exact⟨z,l,o _ _ j⟩
 case slice=>obtain⟨p,z,l,j⟩:=h;exact⟨p,z,l,o _ _ j⟩
 case fieldAddr=>obtain⟨z,l,j⟩:=h;exact⟨z,l,o _ _ j⟩
 case field=>obtain⟨z,l,j⟩:=h;exact⟨z,l,o _ _ j⟩
 case indexAddr=>obtain⟨z,l,j⟩:=h;exact⟨z,l,o _ _ j⟩
 case index=>obtain⟨z,l,j⟩:=h;exact⟨z,l,o _ _ j⟩
 case extract=>obtain⟨z,l,j⟩:=h;exact⟨z,l,o _ _ j⟩
 case typeAssert=>obtain⟨z,l,j⟩:=h;exact⟨z,l,o _ _ j⟩
 case makeMap=>obtain⟨p,j⟩:=h;exact⟨p,o _ _ j⟩
 case lookup=>obtain⟨z,l,j⟩:=h;exact⟨z,l,o _ _ j⟩
 case mapUpdate=>obtain⟨z,l,j⟩:=h;exact⟨z,l,o _ _ j⟩
 case insert=>obtain⟨z,l,j⟩:=h;exact⟨z,l,o _ _ j⟩
 case mapEntry=>obtain⟨z,l,j⟩:=h;exact⟨z,l,o _ _ j⟩
 case entryStore=>obtain⟨z,l,j⟩:=h;exact⟨z,l,o _ _ j⟩
 case range=>obtain⟨z,l,j⟩:=h;exact⟨z,l,o _ _ j⟩
 case next=>obtain⟨p,a0,b,T,seen,l,j,C,h4⟩:=h;exact⟨p,a0,b,T,seen,l,j,fun i e a c=>o _ _ (C i e a c),fun a=>o _ _ (h4 a)⟩
 case entry=>obtain⟨z,l,j⟩:=h;exact⟨z,l,o _ _ j⟩
 case panic=>obtain⟨p,t,v,l,j⟩:=h;exact⟨p,t,v,l,U _ _ j⟩
 case call c =>
  obtain⟨callee,args,a1⟩:=c;cases callee with
  |invoke r m=>exact h.elim
  |value f =>
   rcases h with ⟨v,l,j⟩|⟨l,⟨g,fi,ca,R,j,C,h4,h5⟩|⟨i,R,j,C,h4⟩⟩
   .exact .inl ⟨v,l,o _ _ j⟩
   .exact .inr ⟨l,.inl ⟨g,fi,ca,R,j,C,fun r m h=>o _ _ (h4 r m h),fun r m h=>U _ _ (h5 r m h)⟩⟩
   .exact .inr ⟨l,.inr ⟨i,R,j,C,fun b m h=>o _ _ (h4 b m h)⟩⟩
  |builtin b =>
   cases b<;>simp only at h⊢<;>try (first | (obtain⟨z,m,l,j⟩:=h;exact⟨z,m,l,o _ _ j⟩) | (obtain⟨z,l,j⟩:=h;exact⟨z,l,o _ _ j⟩))
   obtain⟨s,x,l,h⟩:=h;exact⟨s,x,l,h.mono o⟩
theorem awpS.mono{det:Bool}{Q j:St->Prop}{p:AV->St->Prop}(t:∀ st,Q st->j st)(i:∀ v st,p v st->g v st) :
  ∀(l:List us) (st:St),awpS P pl det ops l Q p st->awpS P pl det ops l j g st:=by
 intro l;induction l with
 |nil=>intro st h;exact t st h
 |cons o l r =>
  intro st ⟨b,C,I,J⟩;exact⟨b,C,fun e=>(I e).mono (fun v m h=>r _ h) (fun v m h=>i _ _ h),fun e=>r _ (J e)⟩
theorem awpT.mono{Q p:St->Prop}{t:AV->St->Prop}(J:∀ st,Q st->p st)(i:∀ v st,t v st->g v st) :
  ∀(l:List (Nat×Nat×List Nat)) (st:St),awpT P pl ops Q t l st->awpT P pl ops p g l st:=by
 intro l;induction l with
 |nil=>intro st h;exact J st h
 |cons e l C =>
  obtain⟨j,k,r⟩:=e;intro st h;simp only[awpT]at h⊢;cases I:ops[j]? with
  |none=>rw[I]at h;exact h
  |some o =>
   rw[I]at h;simp only at h⊢;obtain⟨b,R,T,U⟩:=h;exact⟨b,R,fun e=>qA.mono (T e) (fun v m h=>⟨h.1,C _ h.2⟩) (fun v m h=>⟨h.1,fun tm=>i _ _ (h.2 tm)⟩),fun e=>C _ (U e)⟩
theorem awp.mono:∀(c:j3) {Q j:qQ->St->Prop} {st:St},awp P pl c Q st->(∀ e st,Q e st->j e st)->awp P pl c j st:=by
 intro c;induction c with
 |skip=>intro Q j st h g;exact g _ _ h
 |label l=>intro Q j st h g;exact g _ _ h
 |exit i=>intro Q j st h g;exact g _ _ h
 |ret=>intro Q j st h g;exact g _ _ h
 |region id R a3 =>
  intro Q j st h g;rcases h with ⟨o,p⟩|⟨o,p⟩
  .exact .inl ⟨o,awpS.mono (fun st h=>g _ _ h) (fun v st h=>g _ _ h) _ _ p⟩
  .obtain ⟨st1,r,p⟩:=p
   refine .inr ⟨o,st1,r,?_⟩;rcases p with (⟨C,U⟩|⟨n,C,U⟩|⟨a0,d,g1,g2,g3,g4,g5⟩)|⟨O,C,a2,U⟩
   .exact .inl (.inl ⟨C,awpS.mono (fun st h=>g _ _ h) (fun v st h=>g _ _ h) _ _ U⟩)
   .exact .inl (.inr (.inl ⟨n,C,awpS.mono (fun st h=>awpS.mono (fun st h=>g _ _ h) (fun v st h=>g _ _ h) _ _ h) (fun v st h=>g _ _ h) _ _ U⟩))
   .exact .inl (.inr (.inr ⟨a0,d,g1,g2,g3,awpS.mono (fun st h=>g _ _ h) (fun v st h=>g _ _ h) _ _ g4,awpS.mono (fun st h=>g _ _ h) (fun v st h=>g _ _ h) _ _ g5⟩))
   .exact .inr ⟨O,C,a2,awpT.mono (fun st h=>g _ _ h) (fun v st h=>g _ _ h) _ _ U⟩
 |seq a b J T =>
  intro Q j st h g;refine J (Q:=seqQ (awp P pl b Q) Q) h (fun e st h=>?_);cases e with
  |normal=>exact T h g
  |exit i=>exact g _ _ h
  |ret=>exact g _ _ h
  |pan v=>exact g _ _ h
 |cond a4 a b J T=>intro Q j st ⟨t,h0,o,p⟩ g;exact⟨t,h0,fun e=>J (o e) g,fun e=>T (p e) g⟩
 |block id b ih =>
  intro Q j st h g;refine ih (Q:=jZ id Q) h (fun e st h=>?_);cases e with
  |normal=>exact g _ _ h
  |exit i =>
   simp only[jZ]at h⊢;split at h
   .rename_i hi;rw[if_pos hi];exact g _ _ h
   .rename_i hi;rw[if_neg hi];exact g _ _ h
  |ret=>exact g _ _ h
  |pan v=>exact g _ _ h
 |loop b ih =>
  intro Q j st ⟨z,I,n,st1,r,h0,o⟩ g;have g:∀ e st,fzQ z Q e st->fzQ z j e st:=fun e st h=>by
   cases z with
   |false=>exact g e st h
   |true=>exact⟨h.choose,h.choose_spec.1,h.choose_spec.2.1,g e _ h.choose_spec.2.2⟩
  refine⟨z,I,n,st1,r,h0,fun n st hI=>ih (Q:=uC I n (fzQ z Q)) (o n st hI) (fun e st h=>?_)⟩;cases e with
  |normal=>exact h
  |exit i=>exact g _ _ h
  |ret=>exact g _ _ h
  |pan v=>exact g _ _ h
 |scope b ih=>intro Q j st h g;exact ih h g
 |rangeFunc f ps a5 b a6 a7 =>
  intro Q j st ⟨z,gf,a1,rows,I,Ix,o,p,C,h6,h7,h8⟩ g;have g:∀ e st,fzQ z Q e st->fzQ z j e st:=fun e st h=>by
   cases z with
   |false=>exact g e st h
   |true=>exact⟨h.choose,h.choose_spec.1,h.choose_spec.2.1,g e _ h.choose_spec.2.2⟩
  exact⟨z,gf,a1,rows,I,Ix,o,p,C,h6,fun mu h=>g _ _ (h7 mu h),fun e mu h=>g _ _ (h8 e mu h)⟩
 |goto l=>intro Q j st h g;exact h.elim
 |refuse w=>intro Q j st h g;exact h.elim
def upQ(I:Nat->St->Prop)(N k:Nat)(Q:qQ->St->Prop):qQ->St->Prop
 | .normal,st=>k<N/\I (k+1) st
 |e,st=>Q e st
section
variable (Q:qQ->St->Prop) (st:St) (I:Nat->St->Prop) (N k:Nat)
@[go_sem ↓] theorem qnH:upQ I N k Q .normal st=(k<N/\I (k+1) st):=eqS rfl
@[go_sem ↓] theorem upQ_exit(i:Nat):upQ I N k Q (.exit i) st=Q (.exit i) st:=eqS rfl
@[go_sem ↓] theorem upQ_ret:upQ I N k Q .ret st=Q .ret st:=eqS rfl
end
end
section
variable {K i:AV->Mu->Prop}{R:Bool->Mu->Prop}{g:j1}{xs:List (List AV)}{args args' caps:List AV}{mu:Mu}{P:qb}{Q:qQ->St->Prop}
theorem qk.up{pl:Pol}{body:j3}{st:St}(N:Nat)(I:Nat->St->Prop)(j:I 0 st)(h:∀ k st,k<=N->I k st->awp P pl body (upQ I N k Q) st):qk P pl body Q st:=by
 refine qk.intro (fun n st=>∃ k,n=N-k/\k<=N/\I k st) N ⟨0,by omega,by omega,j⟩ ?_;rintro n st ⟨k,rfl,l,o⟩;refine awp.mono body (h k st l o) (fun e st g=>?_);cases e with
 |normal=>exact⟨N-(k+1),by have:=g.1;omega,k+1,rfl,g.1,g.2⟩
 |exit i=>exact g
 |ret=>exact g
 |pan v=>exact g
theorem qk.upF{pl:Pol}{body:j3}{st:St}(N:Nat)(I:Nat->St->Prop)(j:I 0 st)(h:∀ k st,k<=N->I k st->awp P pl body (upQ I N k (FzQ Q)) st):qk P pl body Q st:=by
 refine qk.introF (fun n st=>∃ k,n=N-k/\k<=N/\I k st) N ⟨0,by omega,by omega,j⟩ ?_;rintro n st ⟨k,rfl,l,o⟩;refine awp.mono body (h k st l o) (fun e st g=>?_);cases e with
 |normal=>exact⟨N-(k+1),by have:=g.1;omega,k+1,rfl,g.1,g.2⟩
 |exit i=>exact g
 |ret=>exact g
 |pan v=>exact g
theorem KX(mu:Mu):∀ k,cutM (fun i=>!false) mu k=mu:=by
 induction mu with
 |nil=>intro k;rfl
 |cons c l g =>
  intro k;have:=g (k+1);simp[cutM]at this⊢;exact this
theorem FzQ.skip{e:qQ}{st:St}(h:Q e st):FzQ Q e st:=by
 refine⟨st,⟨fun _=>false,(KX _ 0).symm,fun i => .same _⟩,?_,h⟩;cases e<;>trivial
theorem FzQ.one{i d b:Nat}{x:AV}{st:St}(g:Rd (cutM (fun j=>j == b) st.mu 0) (st.tm d) x)(k:Q (.exit i) (st.put (some d) x (cutM (fun j=>!(j == b)) st.mu 0))):FzQ Q (.exit i) st:=by
 refine⟨_,⟨fun j=>j == b,rfl,fun j=>?_⟩,trivial,k⟩;simp only[St.put];split
 .rename_i h;subst h;exact .rd _ _ g
 .exact .same _
theorem qd.pure{det:Bool}{v:AV}(j:qe P g args' v)(l:WKs args args')(k:K v mu) :
  qd P det mu (.fn (.func g) [] []) args K i:=
 .inl ⟨v,.inl ⟨g,[],[],args',rfl,j,.inl (by simpa using l)⟩,k⟩
theorem qd.clo{det:Bool}{v:AV}(j:qe P g args' v)(l:WKs (args++caps) args')(k:K v mu) :
  qd P det mu (.fn (.func g) [] caps) args K i:=
 .inl ⟨v,.inl ⟨g,[],caps,args',rfl,j,.inl (by simpa using l)⟩,k⟩
theorem qd.lend{det:Bool}{v:AV}(j:qe P g args' v)(l:Rds mu args args')(hf:FL v)(k:K v mu) :
  qd P det mu (.fn (.func g) [] []) args K i:=
 .inl ⟨v,.inl ⟨g,[],[],args',rfl,j,.inr ⟨by simpa using l,hf⟩⟩,k⟩
theorem qd.eff{R:AEnd->Mu->Prop}(j:qP P g (args++caps) mu R)(k:∀ r m,R (.ret r) m->K r m)(kp:∀ r m,R (.pan r) m->i r m) :
  qd P false mu (.fn (.func g) [] caps) args K i:=
 .inr ⟨rfl,.inl ⟨g,[],caps,R,rfl,by simpa using j,k,kp⟩⟩
theorem qd.yield{i:Nat}{g:AV->Mu->Prop}(h:wd P i args mu R)(k:∀ b m,R b m->K (.sc (.bool b)) m):qd P false mu (.yl i) args K g:=
 .inr ⟨rfl,.inr ⟨i,R,rfl,h,k⟩⟩
theorem wd.hid{i j:Nat}{c:Cell}(I:mu[j]?=some c)(J:c ≠ .dead)(h:wd P i args (mu.set j .dead) R):wd P i args mu fun b T=>∃ m,R b m/\m[j]?=some .dead/\T=m.set j c:=by
 intro G w U s ra l p hb;obtain⟨fn,g,r,o,h1,h2⟩:=h G w U (s.hid j) ra l p hb;refine⟨fn,g,r,o,h1,h2.mono ?_⟩;rintro e w' ⟨b,G',m,rfl,t,hR⟩;have C:j<G.blk.length:=by rw[s.len];exact(qj.1 I).1
 obtain⟨g1,g2,g3⟩:=t.unhid s I J (b:=(G.blk[j]'C).1) (t:=(G.blk[j]'C).2) (by simp[C]);exact⟨b,G',_,rfl,g3,m,hR,g1,rfl⟩
theorem jm.of{f:j1}{rows:List (List AV)}(g:ym P f)
  (h:∀(i:Nat) (I:Nat->Mu->Prop) (j:Mu->Prop),(∀ k mu,I k mu->I k (mu++[.dead]))->(∀ mu,j mu->j (mu++[.dead]))->Yld P i rows I j->∀ mu,I 0 mu ->
   qP P f (.yl i :: caps) mu fun e l=>∃ r,e = .ret r/\(I rows.length l\/j l)):jm P f caps rows:=⟨g,h⟩
theorem WKs.nil:WKs [] []:=trivial
theorem WKs.cons{x y:AV}{xs ys:List AV}(h:WK x y)(t:WKs xs ys):WKs (x :: xs) (y :: ys):=⟨h,t⟩
def Own(mu:Mu)(sz:Nat)(av:AV)(xs:List (List AV)):Prop:=
 (av = .lst true xs)\/∃ b,av = .sl b sz 0 xs.length/\mu[b]?=some (.arr xs.flatten)
theorem Own.rows{sz:Nat}{av:AV}(h:Own mu sz av xs)(w:z6 sz xs):qM mu av=some xs:=by
 rcases h with rfl|⟨b,rfl,j⟩
 .rfl
 .have l:=zZ w
  simp only[qM,j];rw[if_pos (by omega)];congr 1;apply jy;intro i;by_cases g:i<xs.length
  .simp only[zp,List.getElem?_range g,qW,yf]
   rw[qz g];congr 1;have o:=w _ (qy g);rw[<-XU w i,zG g,vI,List.take_append_of_le_length (by omega),zN (by omega)]
  .rw [yF (by simp;omega),yF (by omega)]
theorem Own.rd{sz:Nat}{av:AV}(h:Own mu sz av xs)(w:z6 sz xs)(hf:∀ r,r∈xs->∀ c,c∈r->HF c):Rd mu av (.lst false xs):=by
 rcases h with rfl|⟨b,rfl,l⟩
 .exact .wk _ true _ (.hf _ (HF.lst hf))
 .have o:=zZ w
  refine .sl b sz 0 xs.length xs.flatten xs l (by omega) rfl w (fun k x y i j=>?_);rw[yf,j]at i;cases i;obtain⟨r,p,g⟩:=VT.1 (q9 j);exact .hf _ (hf r p _ g)
end
end Go.Ev
namespace Go.Ev
open Go Go.RowKit
section
variable {R:AEnd->Mu->Prop}{f:j1}{args:List AV}{mu:Mu}{P:qb}
def ZW(mu:Mu)(give:Nat->Bool):List AV->List AV->Prop
 | [],[]=>True
 |x :: g,y :: j=>(x=y\/Rd (cutM give mu 0) x y)/\ZW mu give g j
 |_,_=>False
theorem ZW.get{give:Nat->Bool}:∀{xs ys:List AV},ZW mu give xs ys->ys.length=xs.length/\∀(k:Nat) x y,xs[k]?=some x->ys[k]?=some y->x=y\/Rd (cutM give mu 0) x y
 | [],[],_=>⟨rfl,by simp⟩
 |x :: xs,y :: ys,⟨h,t⟩=>by
  obtain⟨j,l⟩:=ZW.get t;refine⟨by simp[j],fun k a b g i=>?_⟩;cases k with
  |zero=>simp at g i;subst g;subst i;exact h
  |succ k=>exact l k a b (by simpa using g) (by simpa using i)
 | [],_ :: _,h=>h.elim
 |_ :: _,[],h=>h.elim
theorem qP.freeze{args1:List AV}(give:Nat->Bool)(j:ZW mu give args args1)(h:qP P f args1 (cutM (fun i=>!give i) mu 0) R):qP P f args mu R:=by
 obtain⟨g,h⟩:=h;obtain⟨p,j⟩:=j.get;refine⟨g,fun G w t s C=>?_⟩;have o:zC (frz G give mu) w.heap args1 t:=by
  refine⟨by rw[p];exact C.1,fun k y I=>?_⟩;have U:k<args.length:=by rw[<-p];exact(qj.1 I).1
  have J:args[k]?=some args[k]:=qz U;have T:=C.2 k _ J;rcases j k _ y J I with e|r
  .rw [<-e];exact T.mono (u7 s give).le (Ext.refl _ _)
  .exact V4 s give r T
 refine(h (frz G give mu) w t (V3 s give) o).mono fun e w' ⟨G',l,st,hR⟩=>⟨G',l,(u7 s give).trans s st,hR⟩
theorem qP.give(h:qP P f args mu fun e m=>R e m\/∃(g:Nat->Bool) (x y:AV),e = .ret x/\Gv m g x y/\R (.ret y) (cutM (fun i=>!g i) m 0)):qP P f args mu R:=by
 obtain⟨o,h⟩:=h;refine⟨o,fun G w J s T=>(h G w J s T).mono fun e w' ⟨C,l,st,j⟩=>?_⟩;rcases j with ⟨r,v,j,p,t⟩|⟨r,v,j,p,t⟩
 .rcases j with j|⟨g,x,y,I,U,j⟩
  .exact ⟨C,l,st,.inl ⟨r,v,j,p,t⟩⟩
  .cases I
   exact⟨frz C g l,_,st.trans s (u7 st.sim g),.inl ⟨y,v,j,p,U.sound st.sim t⟩⟩
 .rcases j with j|⟨g,x,y,I,_⟩
  .exact ⟨C,l,st,.inr ⟨r,v,j,p,t⟩⟩
  .cases I
theorem qe.toSound{args':List AV}{v:AV}(mu:Mu)(h:qe P f args' v)(p:WKs args args'):qP P f args mu fun e m=>e = .ret v/\m=mu:=by
 refine⟨h.1,fun G w U s r=>?_⟩;have t:VRel G w.heap (.fn (.func f) [] []) (.func (.func f) #[] #[]) := .fn _ _ _ _ _ rfl rfl (fun k x i=>by simp at i) (fun k x i=>by simp at i);obtain⟨g,first,l,e,_,o⟩:=Ko s t r (.inl ⟨f,[],[],args',rfl,h,.inl (by simpa using p)⟩);injection e with j C I;injection j with j;subst j;subst C;subst I;simp at o;refine o.mono fun e w' ⟨J,u,R,st,T⟩=>⟨J,mu,st,.inl ⟨v,u,⟨rfl,rfl⟩,R,T⟩⟩
end
end Go.Ev
namespace Go.Ev
open Go Go.RowKit
section
variable {C:Type}
section
variable {β:Type}
def fN(n:Nat)(k:Nat->β):β:=match n with
 | 0=>k 0
 |m+1=>k (Nat.succ m)
theorem UC(n:Nat)(k:Nat->β):fN n k=k n:=by cases n<;>rfl
def fI(i:Int)(k:Int->β):β:=match i with
 | .ofNat n=>fN n fun n=>k (.ofNat n)
 | .negSucc n=>fN n fun n=>k (.negSucc n)
theorem fI_eq(i:Int)(k:Int->β):fI i k=k i:=by
 cases i with
 |ofNat n=>exact UC n fun n=>k (.ofNat n)
 |negSucc n=>exact UC n fun n=>k (.negSucc n)
def fBo(b:Bool)(k:Bool->β):β:=match b with
 |true=>k true
 |false=>k false
theorem qcU(b:Bool)(k:Bool->β):fBo b k=k b:=by cases b<;>rfl
def fLi:List C->(List C->β)->β
 | [],k=>k []
 |a :: l,k=>fLi l fun l=>k (a :: l)
theorem Jz:∀(l:List C) (k:List C->β),fLi l k=k l
 | [],k=>rfl
 |a :: l,k=>by rw[fLi,Jz l]
def fLL:List (List C)->(List (List C)->β)->β
 | [],k=>k []
 |a :: l,k=>fLi a fun a=>fLL l fun l=>k (a :: l)
theorem KY:∀(l:List (List C)) (k:List (List C)->β),fLL l k=k l
 | [],k=>rfl
 |a :: l,k=>by rw[fLL,Jz,KY l]
def fV(v:AV)(k:AV->β):β:=match v with
 | .sc (.int kd n)=>fI n fun n=>k (.sc (.int kd n))
 | .sc (.bool b)=>fBo b fun b=>k (.sc (.bool b))
 | .lst f g=>fLL g fun g=>k (.lst f g)
 | .agg i=>fLi i fun i=>k (.agg i)
 | .tup i=>fLi i fun i=>k (.tup i)
 | .ip i=>fLi i fun i=>k (.ip i)
 | .sl b p off len=>fN b fun b=>fN p fun p=>fN off fun off=>fN len fun len=>k (.sl b p off len)
 | .ptr b off=>fN b fun b=>fN off fun off=>k (.ptr b off)
 | .mp b=>fN b fun b=>k (.mp b)
 | .fn f a c=>fLi a fun a=>fLi c fun c=>k (.fn f a c)
 |v=>k v
theorem KZ(v:AV)(k:AV->β):fV v k=k v:=by
 unfold fV;split<;>simp only[UC,fI_eq,qcU,Jz,KY]
def fC(c:Cell)(k:Cell->β):β:=match c with
 | .arr g=>fLi g fun g=>k (.arr g)
 | .mp T=>fLi T fun T=>k (.mp T)
 |c=>k c
theorem fC_eq(c:Cell)(k:Cell->β):fC c k=k c:=by
 unfold fC;split<;>simp only[Jz]
def fM:Mu->(Mu->β)->β
 | [],k=>k []
 |c :: l,k=>fC c fun c=>fM l fun l=>k (c :: l)
theorem UD:∀(l:Mu) (k:Mu->β),fM l k=k l
 | [],k=>rfl
 |a :: l,k=>by rw[fM,fC_eq,UD l]
end
end
section
variable {C g:Type}{ops:Array us}{ys:List (List AV)}{m mu:Mu}{pl:Pol}{P:qb}
def setJ:List AV->Nat->AV->(List AV->Option g)->Option g
 | [],_,_,_=>none
 |_ :: l,0,v,k=>k (v :: l)
 |a :: l,d+1,v,k=>setJ l d v fun l=>k (a :: l)
theorem K3:∀{l:List AV} {d:Nat} {v:AV} {k:List AV->Option g} {r:g},setJ l d v k=some r->d<l.length/\k (l.set d v)=some r
 | [],d,v,k,r,h=>by cases h
 |a :: l,0,v,k,r,h=>⟨by simp,h⟩
 |a :: l,d+1,v,k,r,h=>by
  obtain⟨i,j⟩:=K3 (l:=l) h;exact⟨by simpa using i,j⟩
def nthJ:List AV->Nat->AV
 | [],_ => .sc j2
 |a :: _,0=>a
 |_ :: l,d+1=>nthJ l d
theorem JA:∀(l:List AV) (d:Nat),nthJ l d=(l[d]?).getD (.sc j2)
 | [],d=>by simp[nthJ]
 |a :: l,0=>rfl
 |a :: l,d+1=>by rw[nthJ,JA l d];simp
structure LS where
 tm:List AV
 mu:Mu
def LS.st(s:LS):St:=⟨fun i=>(s.tm[i]?).getD (.sc j2),s.mu⟩
def evJ(g:List AV):zT->AV
 | .tmp t=>nthJ g t
 | .const v=>ofV v
 | .global _ => .any
 | .func f => .fn (.func f) [] []
theorem Qt(s:LS):s.st.ev=evJ s.tm:=by
 funext x;cases x with
 |tmp t=>exact(JA _ _).symm
 |_=>rfl
def putJ(i:List AV)(d:Option Tmp)(v:AV)(k:List AV->Option g):Option g:=match d with
 |none=>k i
 |some d=>setJ i d v k
theorem JD{j:Type}{s:LS}{d:Option Tmp}{v:AV}{k:List AV->Option j}{r:j}(h:putJ s.tm d v k=some r):∃ g,k g=some r/\g.length=s.tm.length/\s.st.put d v m=LS.st ⟨g,m⟩:=by
 cases d with
 |none=>exact⟨_,h,rfl,rfl⟩
 |some d =>
  obtain⟨l,o⟩:=K3 h;refine⟨_,o,by simp,?_⟩;unfold LS.st St.put;simp only[St.mk.injEq,and_true];funext i;by_cases e:i=d
  .subst e;simp[l]
  .rw [if_neg e,zo (Ne.symm e)]
def Stps(P:qb)(pl:Pol)(det:Bool)(g:Option Tmp)(op:Op)(ev:zT->AV)(mu:Mu)(v:AV)(m:Mu):Prop:=∀(K i:AV->Mu->Prop),K v m->qA P pl det g op ev mu K i
def nilV(P:qb)(op:BinOp)(t:qf)(x:AV):Option AV:=
 if (qC P t).isSome&&(decide (op = .eql)||decide (op = .neq)) then match x with
  | .lst _ (_ :: _) | .sl .. => some (.sc (.bool (decide (op = .neq))))
  |_=>none
 else none
def UE(P:qb)(t:qf)(x:AV):Bool:=match x with
 | .lst _ g=>match qC P t with
  |some (_,p,_)=>g.all fun r=>decide (r.length=p)
  |none=>false
 |_=>true
theorem qcV{t:qf}{x:AV}(h:UE P t x=true):Uf P t x:=by
 cases x with
 |lst f g =>
  unfold UE at h;split at h
  .rename_i j i
   cases i;split at h
   .rename_i e p l o
    exact⟨e,p,l,o,fun r C=>of_decide_eq_true (qH.1 h r C)⟩
   .cases h
  .rename_i i
   exact absurd rfl (i _ _)
 |_=>trivial
def jB(P:qb)(pl:Pol)(j:Option Tmp)(op:Op)(ev:zT->AV)(mu:Mu):Option AV:=
 match op with
 | .move x | .assign x=>some (ev x)
 | .pick c a b=>match ev c with
  | .sc (.bool t)=>some (if t then ev a else ev b)
  |_=>none
 | .box _ x=>if (ev x).cells.all AV.one&&!(j.any pl.mt.contains) then some (.ip (ev x).cells) else none
 | .build t l=>if yL P t then ZE P t (l.toList.map fun p=>(p.1,ev p.2)) else none
 | .buildSlice t n l=>ZH P t n (l.toList.map fun p=>(p.1,ev p.2))
 | .load t a=>vP P mu t (ev a)
 | .nilCheck x=>Jh (ev x)
 | .binOp op t x y _=>if uy y then nilV P op t (ev x) else ux P op t (ev x) (ev y)
 | .unOp op _ x=>aUn op (ev x)
 | .convert src d x=>if (P.underlying src).isSome then Zx P src d (ev x) else none
 | .makeInterface t x=>if ZP P t then some (.ifc t (ev x)) else none
 | .makeFunc f first g=>some (.fn f (evs ev first.toList) (evs ev g.toList))
 | .slice t x r o C=>if UE P t (ev x) then ZC P t (ev x) (r.map ev) (o.map ev) (C.map ev) else none
 | .fieldAddr s x f=>Zy P s f (ev x)
 | .field t x f=>ZA P t f (ev x)
 | .indexAddr t x i=>Zz P t (ev x) (ev i)
 | .index t x i=>ZB P t (ev x) (ev i)
 | .extract t i=>Ji i (ev t)
 | .typeAssert x _ t ok=>Jj P t ok (ev x)
 | .lookup t m k ok=>yK P mu t (ev m) (ev k) ok
 | .entry i=>wI mu (ev i)
 | .call c=>match c.callee with
  | .builtin b=>match b with
   | .append | .copy | .delete | .clear=>none
   |b=>jX P mu b c.argTypes (evs ev c.args.toList)
  |_=>none
 |_=>none
theorem K4{det:Bool}{l:Option Tmp}{op:Op}{ev:zT->AV}{v:AV}(h:jB P pl l op ev mu=some v):Stps P pl det l op ev mu v mu:=by
 intro K R g;cases op with
 |move x=>simp only[jB,qo]at h;subst h;exact g
 |assign x=>simp only[jB,qo]at h;subst h;exact g
 |pick c a b =>
  simp only[jB]at h;split at h
  .rename_i t C
   cases h;exact⟨t,C,g⟩
  .cases h
 |box e x =>
  simp only[jB]at h;split at h
  .rename_i j
   simp only[qr,Bool.not_eq_true']at j;cases h;exact⟨j.1,by rw[j.2];exact g⟩
  .cases h
 |build t I =>
  simp only[jB]at h;split at h
  .rename_i j;exact⟨j,v,h,g⟩
  .cases h
 |buildSlice t n I=>exact⟨v,h,g⟩
 |load t a=>exact⟨v,h,g⟩
 |nilCheck x=>exact⟨v,h,g⟩
 |binOp op t x y T =>
  simp only[jB]at h;simp only[qA];split at h
  .rename_i o
   rw[if_pos o];unfold nilV at h;split at h
   .rename_i j
    simp only[qr,jT,decide_eq_true_eq]at j;refine⟨j.1,j.2,?_⟩;split at h
    .rename_i e;cases h;rw[e];exact g
    .rename_i e;cases h;rw[e];exact g
    .cases h
   .cases h
  .rename_i o
   rw[if_neg o];exact⟨v,h,g⟩
 |unOp op t x=>exact⟨v,h,g⟩
 |convert src d x =>
  simp only[jB]at h;split at h
  .rename_i j;exact⟨j,v,h,g⟩
  .cases h
 |makeInterface t x =>
  simp only[jB]at h;split at h
  .rename_i j;cases h;exact⟨j,g⟩
  .cases h
 |makeFunc f first p=>simp only[jB,qo]at h;subst h;exact g
 |slice t x r U mx =>
  simp only[jB]at h;split at h
  .rename_i j;exact⟨qcV j,v,h,g⟩
  .cases h
 |fieldAddr s x f=>exact⟨v,h,g⟩
 |field t x f=>exact⟨v,h,g⟩
 |indexAddr t x i=>exact⟨v,h,g⟩
 |index t x i=>exact⟨v,h,g⟩
 |extract t i=>exact⟨v,h,g⟩
 |typeAssert x a t ok=>exact⟨v,h,g⟩
 |lookup t m k ok=>exact⟨v,h,g⟩
 |entry i=>exact⟨v,h,g⟩
 |call c =>
  simp only[jB]at h;simp only[qA];split at h
  .rename_i b J
   rw[J];cases b<;>first | (cases h;done)|exact⟨v,h,g⟩
  .cases h
 |_=>cases h
def appJ(P:qb)(mu:Mu)(i:Array qf)(s x:AV):Option (AV×Mu):=
 match i with
 | ⟨[t,C]⟩=>match qC P t,qM mu x with
  |some (e,p,I),some j=>match qB P e with
   |some o=>if (qC P C).isSome&&(decide (o.cells.length=p)&&(o.cells.all AV.one&&(!decide (p=0)&&(Nat.ble I 16384&&j.all fun r=>decide (r.length=p)&&r.all AV.one)))) then
     match s with
     | .lst true g=>if (g.all fun r=>decide (r.length=p)&&r.all AV.one)&&Nat.ble (g.length+j.length) 4294967296 then
       (match j with | []=>some (s,mu)|_ :: _=>some (.sl mu.length p 0 (g.length+j.length),mu++[.arr (g++j).flatten])) else none
     | .sl b l 0 len=>match mu[b]? with
      |some (.arr cells)=>if decide (l=p)&&(Nat.ble (len*p) cells.length&&Nat.ble (len+j.length) 4294967296) then
        some (.sl mu.length p 0 (len+j.length),mu.set b .dead++[.arr (cells.take (len*p)++j.flatten)]) else none
      |_=>none
     |_=>none
    else none
   |none=>none
  |_,_=>none
 |_=>none
def appZ(P:qb)(mu:Mu)(j:Array qf)(s x:AV):Option (AV×Mu):=
 match j,s,x with
 | ⟨[t,o]⟩,.lst true g,.sc (.int .i64 (.ofNat n))=>match qC P t,P.underlying o with
  |some (e,p,C),some (.int .i64)=>match qB P e with
   |some l=>if decide (l.cells.length=p)&&(l.cells.all AV.one&&(!decide (p=0)&&(Nat.ble C 16384&&(Nat.ble 1 n&&((g.all fun r=>decide (r.length=p)&&r.all AV.one)&&Nat.ble (g.length+n) 4294967296))))) then
     some (.sl mu.length p 0 (g.length+n),mu++[.arr (g.flatten++(qt (n*p)).map fun i=>l.cells.getD (i % p) .any)]) else none
   |none=>none
  |_,_=>none
 |_,_,_=>none
theorem wfB{sz:Nat}(h:(ys.all fun r=>decide (r.length=sz)&&r.all AV.one)=true):zj sz ys:=fun r g=>by
 have:=qH.1 h r g;rw[qr,decide_eq_true_eq]at this;exact this
theorem qcW{i:Array qf}{s x v:AV}(h:appZ P mu i s x=some (v,m)){K:AV->Mu->Prop}(l:K v m):qD P mu i s x K:=by
 unfold appZ at h;split at h
 .rename_i t o g n
  split at h
  .rename_i e p r C I
   split at h
   .rename_i J R
    split at h
    .rename_i j
     simp only[qr,decide_eq_true_eq,Bool.not_eq_true',decide_eq_false_iff_not]at j;obtain⟨c1,c2,c3,c4,c5,c6,c7⟩:=j;cases h;exact .inr (.inr ⟨t,o,e,p,r,J,n,g,rfl,C,I,R,c1,c2,c3,yj c4,rfl,yj c5,rfl,wfB c6,yj c7,l⟩)
    .cases h
   .cases h
  .cases h
 .cases h
theorem qcX{l:Array qf}{s x v:AV}(h:appJ P mu l s x=some (v,m)){K:AV->Mu->Prop}(o:K v m):qD P mu l s x K:=by
 unfold appJ at h;split at h
 rotate_left
 .cases h
 rename_i t I;split at h
 rotate_left
 .cases h
 rename_i e p J j R T;split at h
 rotate_left
 .cases h
 rename_i U h3;split at h
 rotate_left
 .cases h
 rename_i C;simp only[qr,decide_eq_true_eq,Bool.not_eq_true',decide_eq_false_iff_not]at C;obtain⟨c1,c2,c3,c4,c5,c6⟩:=C;have c6:=wfB c6;refine .inl ⟨t,I,e,p,J,j,rfl,R,c1,⟨U,h3,c2,c3⟩,c4,yj c5,T,c6,?_⟩;split at h
 .rename_i g
  split at h
  .rename_i i
   rw[qr]at i;refine .inl ⟨g,rfl,wfB i.1,yj i.2,fun e=>?_,fun e=>?_⟩
   .subst e;cases h;exact o
   .cases j with
    |nil=>exact absurd rfl e
    |cons y j=>cases h;exact o
  .cases h
 .rename_i b a0 len
  split at h
  .rename_i cells r
   split at h
   .rename_i i
    simp only[qr,decide_eq_true_eq]at i;obtain⟨rfl,d2,d3⟩:=i;cases h;exact .inr ⟨b,len,cells,rfl,r,yj d2,yj d3,o⟩
   .cases h
  .cases h
 .cases h
abbrev jC:=AV->List AV->Mu->Option (AV×Mu)
def vW(P:qb)(det:Bool)(C:jC):Prop:=∀ f args I v m,C f args I=some (v,m)->∀ K g:AV->Mu->Prop,K v m->qd P det I f args K g
def UF(mu:Mu)(g:AV):Option (AV×Mu):=
 match g with
 | .ptr b 0=>match mu[b]? with
  |some (.it T seen)=>match (qt T.length).filter (fun i=>!seen.contains i) with
   | []=>some (.tup [.sc (.bool false)],mu)
   | [i]=>match T[i]? with
    |some e=>some (.tup [.sc (.bool true),e.1,e.2],mu.set b (.it T (seen++[i])))
    |none=>none
   |_=>none
  |_=>none
 |_=>none
theorem qcY{g v:AV}(h:UF mu g=some (v,m)){K:AV->Mu->Prop}(t:K v m):Ud mu g K:=by
 unfold UF at h;split at h
 .rename_i b
  split at h
  .rename_i T seen C
   have l:∀ i,i∈(qt T.length).filter (fun i=>!seen.contains i)↔i<T.length/\i ∉ seen:=fun i=>by simp
   refine⟨b,T,seen,rfl,C,?_⟩;split at h
   .rename_i hf
    rw[hf]at l;cases h;refine⟨fun i e I p=>?_,fun _=>t⟩;have:=(l i).2 ⟨(qj.1 I).1,p⟩;simp at this
   .rename_i i hf
    rw[hf]at l;split at h
    .rename_i e J
     cases h;refine⟨fun j x r p=>?_,fun o=>?_⟩
     .have:=(l j).2 ⟨(qj.1 r).1,p⟩
      rw[qN]at this;subst this;rw[J]at r;cases r;exact t
     .have:=(l i).1 (qN.2 rfl)
      exact absurd (o i this.1) this.2
    .cases h
   .cases h
  .cases h
 .cases h
def UG(P:qb)(mu:Mu)(g:Array qf)(args:List AV):Option (AV×Mu):=
 match g,args with
 | ⟨[t,l]⟩,[.sl b i off len,x]=>match qC P t,mu[b]?,qM mu x with
  |some (e,p,o),some (.arr cells),some j=>if Nat.ble (off+len*p) cells.length&&j.all (fun r=>decide (r.length=p)&&r.all AV.one) then
    some (.sc (.int .i64 ((min j.length len:Nat):Int)),mu.set b (.arr (putCells cells off (j.take len).flatten))) else none
  |_,_,_=>none
 |_,_=>none
theorem qcZ{g:Array qf}{args:List AV}{v:AV}(h:UG P mu g args=some (v,m)){K:AV->Mu->Prop}(l:K v m):wJ P mu .copy g args K:=by
 unfold UG at h;split at h
 .rename_i t J b o off len x
  split at h
  .rename_i e p R cells j r C I
   split at h
   .rename_i i
    rw[qr]at i;cases h;exact⟨_,_,.copy r C (yj i.1) I (wfB i.2),l⟩
   .cases h
  .cases h
 .cases h
def vX(P:qb)(pl:Pol)(j:Bool)(C:jC)(g:Option Tmp)(op:Op)(ev:zT->AV)(mu:Mu):Option (AV×Mu):=
 match op with
 | .next i str=>if j||str then none else UF mu (ev i)
 | .alloc e=>match qB P e with
  |some z=>if z.cells.all AV.one then some (.ptr mu.length 0,mu++[.arr z.cells]) else none
  |none=>none
 | .box _ x=>if (ev x).cells.all AV.one&&g.any pl.mt.contains then some (.ptr mu.length 0,mu++[.arr (ev x).cells]) else none
 | .store t a x=>(Zw P mu t (ev a) (ev x)).map fun m=>(.sc j2,m)
 | .makeSlice t l c=>Qm P mu t (ev l) (ev c)
 | .makeMap _ r=>match r with
  |none=>some (.mp mu.length,mu++[.mp []])
  |some _=>none
 | .mapUpdate t m k v=>(vR P mu t (ev m) (ev k) (ev v)).map fun m=>(.sc j2,m)
 | .insert t m k v=>(vR P mu t (ev m) (ev k) (ev v)).map fun m=>(.sc j2,m)
 | .mapEntry t m k=>wH P mu t (ev m) (ev k)
 | .entryStore _ m s v=>(Jf mu (ev m) (ev s) (ev v)).map fun m=>(.sc j2,m)
 | .range t m=>Jg P mu t (ev m)
 | .call c=>match c.callee with
  | .value f=>C (ev f) (evs ev c.args.toList) mu
  | .builtin b=>match b with
   | .append=>match evs ev c.args.toList with
    | [s,x]=>match appJ P mu c.argTypes s x with
     |some r=>some r
     |none=>appZ P mu c.argTypes s x
    |_=>none
   | .copy=>UG P mu c.argTypes (evs ev c.args.toList)
   |_=>none
  |_=>none
 |_=>none
theorem JI{o:Option Mu}{v:AV}(h:(o.map fun m=>(AV.sc j2,m))=some (v,m)):o=some m/\v = .sc j2:=by
 cases o with
 |none=>cases h
 |some x=>cases h;exact⟨rfl,rfl⟩
theorem qc0{det:Bool}{C:jC}(I:vW P det C){p:Option Tmp}{op:Op}{ev:zT->AV}{mu m:Mu}{v:AV}(h:vX P pl det C p op ev mu=some (v,m)):Stps P pl det p op ev mu v m:=by
 intro K J g;cases op with
 |alloc e =>
  simp only[vX]at h;split at h
  .rename_i z R
   split at h
   .rename_i j;cases h;exact⟨z,R,j,g⟩
   .cases h
  .cases h
 |box e x =>
  simp only[vX]at h;split at h
  .rename_i j
   rw[qr]at j;cases h;exact⟨j.1,by rw[if_pos j.2];exact g⟩
  .cases h
 |store t a x =>
  simp only[vX]at h;obtain⟨o,rfl⟩:=JI h;exact⟨m,o,g⟩
 |makeSlice t l c=>exact⟨(v,m),h,g⟩
 |makeMap t r =>
  cases r with
  |none=>cases h;exact⟨rfl,g⟩
  |some r=>cases h
 |mapUpdate t a k w =>
  simp only[vX]at h;obtain⟨o,rfl⟩:=JI h;exact⟨m,o,g⟩
 |insert t a k w =>
  simp only[vX]at h;obtain⟨o,rfl⟩:=JI h;exact⟨m,o,g⟩
 |mapEntry t a k=>exact⟨(v,m),h,g⟩
 |entryStore t a s w =>
  simp only[vX]at h;obtain⟨o,rfl⟩:=JI h;exact⟨m,o,g⟩
 |range t a=>exact⟨(v,m),h,g⟩
 |call c =>
  simp only[vX]at h;simp only[qA];split at h
  .rename_i f hf
   rw[hf];exact I _ _ _ _ _ h K J g
  .rename_i b T
   rw[T];cases b<;>try (cases h;done)
   .simp only at h⊢
    split at h
    .rename_i s x e
     refine⟨s,x,e,?_⟩;split at h
     .rename_i r U
      cases h;exact qcX U g
     .exact qcW h g
    .cases h
   .exact qcZ h g
  .cases h
 |next i str =>
  simp only[vX]at h;split at h
  .cases h
  .rename_i j
   simp only[jT,not_or,Bool.not_eq_true]at j;exact⟨j.1,j.2,qcY h g⟩
 |_=>cases h
def JK{i:Type}(P:qb)(pl:Pol)(j:Bool)(C:jC)(g:Option Tmp)(op:Op)(ev:zT->AV)(mu:Mu)(k:AV->Mu->Option i):Option i:=
 match jB P pl g op ev mu with
 |some v=>fV v fun v=>k v mu
 |none=>match vX P pl j C g op ev mu with
  |some (v,m)=>fV v fun v=>fM m fun m=>k v m
  |none=>none
theorem K5{i:Type}{det:Bool}{C:jC}(j:vW P det C){g:Option Tmp}{op:Op}{ev:zT->AV}{mu:Mu}{k:AV->Mu->Option i}{r:i}(h:JK P pl det C g op ev mu k=some r) :
  ∃ v m,Stps P pl det g op ev mu v m/\k v m=some r:=by
 unfold JK at h;split at h
 .rename_i v l
  rw[KZ]at h;exact⟨v,mu,K4 l,h⟩
 .split at h
  .rename_i v m o
   rw[KZ,UD]at h;exact⟨v,m,qc0 j o,h⟩
  .cases h
def ZX(ops:Array us)(i:List AV)(o:us):Option Bool:=
 match o.guard with
 |none=>some true
 |some (j,g)=>match (ops[j]?).bind (·.dst) with
  |none=>some false
  |some d=>wK (nthJ i d) g
theorem UH(ops:Array us)(s:LS)(o:us):zI ops s.st o=ZX ops s.tm o:=by
 unfold zI ZX;cases o.guard with
 |none=>rfl
 |some q =>
  obtain⟨j,w⟩:=q;simp only;cases (ops[j]?).bind (·.dst) with
  |none=>rfl
  |some d=>simp only[JA];rfl
def regJ(P:qb)(pl:Pol)(i:Bool)(C:jC)(ops:Array us):List us->List AV->Mu->Option LS
 | [],g,I=>some ⟨g,I⟩
 |o :: l,g,I=>match ZX ops g o with
  |some true=>JK P pl i C o.dst o.op (evJ g) I fun v m=>putJ g o.dst v fun g=>regJ P pl i C ops l g m
  |some false=>putJ g o.dst (.sc j2) fun g=>regJ P pl i C ops l g I
  |none=>none
theorem JL{det:Bool}{C:jC}(i:vW P det C){ops:Array us}{Q:St->Prop}{t:AV->St->Prop}:∀{l:List us} {s s':LS},regJ P pl det C ops l s.tm s.mu=some s'->Q s'.st->awpS P pl det ops l Q t s.st
 | [],s,s',h,g=>by
  cases h;exact g
 |o :: l,s,s',h,g=>by
  unfold regJ at h;unfold awpS;rw[UH];split at h
  .rename_i j
   obtain⟨v,m,I,J⟩:=K5 i h;refine⟨true,j,fun _=>?_,fun e=>by cases e⟩;rw[Qt];refine I _ _ ?_;obtain⟨R,p,_,r⟩:=JD (m:=m) J;rw[r];exact JL i p g
  .rename_i j
   refine⟨false,j,fun e=>by(cases e),fun _=>?_⟩;obtain⟨R,p,_,r⟩:=JD (m:=s.mu) h;have:s.st.mu=s.mu:=rfl;rw[this,r];exact JL i p g
  .cases h
def eqSc:zS->zS->Bool
 | .bool a,.bool b=>a == b
 | .int k a,.int g b=>decide (k=g)&&decide (a=b)
 | .string a,.string b=>decide (a=b)
 | .pointer none,.pointer none=>true
 | .nilIface,.nilIface=>true
 | .nilFunc,.nilFunc=>true
 | .map none,.map none=>true
 |_,_=>false
theorem qc1{a b:zS}(h:eqSc a b=true):a=b:=by
 unfold eqSc at h;split at h
 .rw [beq_iff_eq]at h;rw[h]
 .rw [qr,decide_eq_true_eq,decide_eq_true_eq]at h;rw[h.1,h.2]
 .rw [decide_eq_true_eq]at h;rw[h]
 all_goals first|rfl|cases h
def eqLi(e:C->C->Bool):List C->List C->Bool
 | [],[]=>true
 |a :: l,b :: m=>e a b&&eqLi e l m
 |_,_=>false
theorem vY{e:C->C->Bool}(g:∀ a b,e a b=true->a=b):∀{l m:List C},eqLi e l m=true->l=m
 | [],[],_=>rfl
 |a :: l,b :: m,h=>by
  rw[eqLi,qr]at h;rw[g _ _ h.1,vY g h.2]
 | [],_ :: _,h=>by cases h
 |_ :: _,[],h=>by cases h
def eqV:Nat->AV->AV->Bool
 | 0,_,_=>false
 |n+1,x,y=>match x,y with
  | .sc a,.sc b=>eqSc a b
  | .sl a b c d,.sl i l o r=>decide (a=i)&&(decide (b=l)&&(decide (c=o)&&decide (d=r)))
  | .ptr a b,.ptr i l=>decide (a=i)&&decide (b=l)
  | .mp a,.mp b=>decide (a=b)
  | .lst f g,.lst t j=>f == t&&eqLi (eqLi (eqV n)) g j
  | .agg a,.agg b=>eqLi (eqV n) a b
  | .tup a,.tup b=>eqLi (eqV n) a b
  | .ip a,.ip b=>eqLi (eqV n) a b
  | .im a,.im b=>eqLi (fun p q=>eqV n p.1 q.1&&eqV n p.2 q.2) a b
  |_,_=>false
theorem Qu:∀{n:Nat} {x y:AV},eqV n x y=true->x=y
 | 0,_,_,h=>by cases h
 |n+1,x,y,h=>by
  have g:∀ a b,eqV n a b=true->a=b:=fun a b h=>Qu h
  unfold eqV at h;split at h
  .rw [qc1 h]
  .simp only[qr,decide_eq_true_eq]at h;obtain⟨rfl,rfl,rfl,rfl⟩:=h;rfl
  .simp only[qr,decide_eq_true_eq]at h;obtain⟨rfl,rfl⟩:=h;rfl
  .rw [decide_eq_true_eq]at h;rw[h]
  .rw [qr,beq_iff_eq]at h;rw[h.1,vY (fun a b=>vY g) h.2]
  .rw [vY g h]
  .rw [vY g h]
  .rw [vY g h]
  .rw [vY (fun p q h=>by rw[qr]at h;exact Prod.ext (g _ _ h.1) (g _ _ h.2)) h]
  .cases h
def allJ(p:C->Bool):List C->Bool
 | []=>true
 |a :: l=>p a&&allJ p l
theorem jD{p:C->Bool}:∀{l:List C},allJ p l=true->∀ a,a∈l->p a=true
 | [],_,a,g=>by cases g
 |b :: l,h,a,g=>by
  rw[allJ,qr]at h;rcases qw.1 g with rfl|g
  .exact h.1
  .exact jD h.2 a g
def hfB:Nat->AV->Bool
 | 0,_=>false
 |n+1,x=>match x with
  | .any | .sc _=>true
  | .lst _ g=>allJ (allJ (hfB n)) g
  | .agg i | .tup i | .ip i=>allJ (hfB n) i
  | .im T=>allJ (fun p=>hfB n p.1&&hfB n p.2) T
  | .fn _ a b=>allJ (hfB n) a&&allJ (hfB n) b
  | .ifc _ v=>hfB n v
  |_=>false
theorem j0:∀{n:Nat} {x:AV},hfB n x=true->HF x
 | 0,_,h=>by cases h
 |n+1,x,h=>by
  have g:∀ l:List AV,allJ (hfB n) l=true->∀ c,c∈l->HF c:=fun l h c i=>j0 (jD h c i)
  unfold hfB at h;split at h
  .exact HF.any
  .exact HF.sc _
  .exact HF.lst fun r j=>g r (jD h r j)
  .exact HF.agg (g _ h)
  .exact HF.tup (g _ h)
  .exact HF.ip (g _ h)
  .exact HF.im fun p o=>by
    have:=jD h p o;rw[qr]at this;exact⟨j0 this.1,j0 this.2⟩
  .rw [qr]at h
   exact HF.fn (g _ h.1) (g _ h.2)
  .exact HF.ifc (j0 h)
  .cases h
def flB:Nat->AV->Bool
 | 0,_=>false
 |n+1,x=>match x with
  | .sc _=>true
  | .agg g | .tup g=>allJ (flB n) g
  | .ifc _ v=>flB n v
  |_=>false
theorem UI:∀{n:Nat} {x:AV},flB n x=true->FL x
 | 0,_,h=>by cases h
 |n+1,x,h=>by
  have g:∀ l:List AV,allJ (flB n) l=true->∀ c,c∈l->FL c:=fun l h c i=>UI (jD h c i)
  unfold flB at h;split at h
  .exact FL.sc _
  .exact FL.agg (g _ h)
  .exact FL.tup (g _ h)
  .exact FL.ifc (UI h)
  .cases h
def mapJ(f:C->Option g):List C->Option (List g)
 | []=>some []
 |a :: l=>match f a with
  |some b=>match mapJ f l with
   |some m=>some (b :: m)
   |none=>none
  |none=>none
theorem wR{j:Type}{f:C->Option j}:∀{l:List C} {m:List j},mapJ f l=some m->m.length=l.length/\∀(k:Nat) x y,l[k]?=some x->m[k]?=some y->f x=some y
 | [],m,h=>by cases h;exact⟨rfl,fun k x y g=>by simp at g⟩
 |a :: l,m,h=>by
  unfold mapJ at h;split at h
  .rename_i b o
   split at h
   .rename_i I p
    cases h;obtain⟨r,t⟩:=wR p;refine⟨by simp[r],fun k x y g i=>?_⟩;cases k with
    |zero=>simp at g i;subst g;subst i;exact o
    |succ k=>exact t k x y (by simpa using g) (by simpa using i)
   .cases h
  .cases h
theorem UJ{f:AV->Option AV}{xs:List (List AV)}(h:mapJ (mapJ f) xs=some ys):(∀(k:Nat) x y,xs[k]?=some x->ys[k]?=some y->x.length=y.length)/\∀(k:Nat) x y,xs.flatten[k]?=some x->ys.flatten[k]?=some y->f x=some y:=by
 induction xs generalizing ys with
 |nil=>cases h;exact⟨fun k x y g=>by simp at g,fun k x y g=>by simp at g⟩
 |cons a l j =>
  unfold mapJ at h;split at h
  .rename_i b o
   split at h
   .rename_i m p
    cases h;obtain⟨r,t⟩:=j p;obtain⟨g1,C⟩:=wR o;refine⟨fun k x y g i=>?_,fun k x y g i=>?_⟩
    .cases k with
     |zero=>simp at g i;subst g;subst i;exact g1.symm
     |succ k=>exact r k x y (by simpa using g) (by simpa using i)
    .rw [vI]at g i
     by_cases I:k<a.length
     .rw [qx I]at g
      rw[qx (by omega)]at i;exact C k x y g i
     .rw [qV (by omega)]at g
      rw[qV (by omega),g1]at i;exact t _ x y g i
   .cases h
  .cases h
def vZ(sz:Nat):Nat->List AV->List (List AV)
 | 0,_=>[]
 |n+1,l=>l.take sz :: vZ sz n (l.drop sz)
theorem K6(sz:Nat):∀(n:Nat) (l:List AV),n*sz<=l.length->(vZ sz n l).length=n/\(∀ r,r∈vZ sz n l->r.length=sz)/\(vZ sz n l).flatten=l.take (n*sz)
 | 0,l,_=>⟨rfl,(fun r g=>by cases g),by simp[vZ]⟩
 |n+1,l,h=>by
  have e:(n+1)*sz=sz+n*sz:=by rw[Nat.succ_mul,Nat.add_comm]
  rw[e]at h⊢;obtain⟨i,j,o⟩:=K6 sz n (l.drop sz) (by simp;omega);refine⟨by simp[vZ,i],fun r g=>?_,?_⟩
  .rcases qw.1 g with rfl|g
   .simp;omega
   .exact j r g
  .rw [vZ,vI,o]
   exact(List.take_add).symm
def rdV(mu:Mu):Nat->AV->Option AV
 | 0,_=>none
 |n+1,x=>if hfB 64 x then some x else match x with
  | .sl b j off len=>match mu[b]? with
   |some (.arr cells)=>if Nat.ble (off+len*j) cells.length then (mapJ (mapJ (rdV mu n)) (vZ j len (cells.drop off))).map (.lst false) else none
   |_=>none
  | .ptr b off=>match mu[b]? with
   |some (.arr cells)=>if Nat.ble off cells.length then (mapJ (rdV mu n) (cells.drop off)).map .ip else none
   |_=>none
  | .agg i=>(mapJ (rdV mu n) i).map .agg
  | .tup i=>(mapJ (rdV mu n) i).map .tup
  | .lst f g=>(mapJ (mapJ (rdV mu n)) g).map (.lst f)
  | .fn f a c=>match mapJ (rdV mu n) a,mapJ (rdV mu n) c with
   |some a,some c=>some (.fn f a c)
   |_,_=>none
  | .mp b=>match mu[b]? with
   |some (.mp T)=>(mapJ (fun p=>match rdV mu n p.1,rdV mu n p.2 with|some x,some y=>some (x,y)|_,_=>none) T).map .im
   |_=>none
  | .ifc t v=>(rdV mu n v).map (.ifc t)
  |_=>none
theorem UK:∀{n:Nat} {x y:AV},rdV mu n x=some y->Rd mu x y
 | 0,_,_,h=>by cases h
 |n+1,x,y,h=>by
  have P:∀ a b,rdV mu n a=some b->Rd mu a b:=fun a b h=>UK h
  have C:∀{l m:List AV},mapJ (rdV mu n) l=some m->m.length=l.length/\∀(k:Nat) x y,l[k]?=some x->m[k]?=some y->Rd mu x y:=fun h=>⟨(wR h).1,fun k x y t o=>P _ _ ((wR h).2 k x y t o)⟩
  unfold rdV at h;by_cases hh:hfB 64 x=true
  .rw [if_pos hh]at h
   cases h;exact .hf _ (j0 hh)
  rw[if_neg hh]at h;clear hh;split at h
  .rename_i b p off len
   split at h
   .rename_i cells I
    split at h
    .rename_i R
     have R:=yj R;rw[yG]at h;obtain⟨j,o,rfl⟩:=h;obtain⟨c1,c2,c3⟩:=K6 p len (cells.drop off) (by simp;omega);obtain⟨r1,r2⟩:=UJ o;have J:=(wR o).1;refine .sl b p off len cells j I R (by rw[J,c1]) (fun r hr=>?_) fun k x y t i=>?_
     .obtain ⟨k,hk,rfl⟩:=List.getElem_of_mem hr
      have U:k<(vZ p len (cells.drop off)).length:=by omega
      have:=r1 k _ _ (qz U) (qz hk);rw[<-this];exact c2 _ (qy U)
     .refine P _ _ (r2 k x y ?_ i)
      have a0:=X6 (xs:=vZ p len (cells.drop off)) (ys:=j) J r1;have hk:k<j.flatten.length:=(qj.1 i).1;rw[<-a0,c3]at hk;rw[c3,yT,if_pos (by simp at hk;omega),yU];exact t
    .cases h
   .cases h
  .rename_i b off
   split at h
   .rename_i cells I
    split at h
    .rename_i R
     have R:=yj R;rw[yG]at h;obtain⟨j,o,rfl⟩:=h;obtain⟨h1,h2⟩:=C o;refine .ptr b off cells j I (by simp at h1;omega) fun k x y t i=>h2 k x y (by rw[yU];exact t) i
    .cases h
   .cases h
  .rw [yG]at h
   obtain⟨j,o,rfl⟩:=h;exact .agg _ _ (C o).1 (C o).2
  .rw [yG]at h
   obtain⟨j,o,rfl⟩:=h;exact .tup _ _ (C o).1 (C o).2
  .rw [yG]at h
   obtain⟨j,o,rfl⟩:=h;exact .lst _ _ _ (wR o).1 (UJ o).1 fun k x y t i=>P _ _ ((UJ o).2 k x y t i)
  .split at h
   .rename_i a c ha I
    cases h;exact .fn _ _ _ _ _ (C ha).1 (C I).1 (C ha).2 (C I).2
   .cases h
  .split at h
   .rename_i T I
    rw[yG]at h;obtain⟨fs,o,rfl⟩:=h;obtain⟨h1,h2⟩:=wR o;have h3:∀(k:Nat) x y,T[k]?=some x->fs[k]?=some y->Rd mu x.1 y.1/\Rd mu x.2 y.2:=fun k x y t i=>by
     have:=h2 k x y t i;split at this
     .rename_i a b ha hb
      cases this;exact⟨P _ _ ha,P _ _ hb⟩
     .cases this
    exact .mp _ T fs I h1 (fun k x y t i=>(h3 k x y t i).1) fun k x y t i=>(h3 k x y t i).2
   .cases h
  .rw [yG]at h
   obtain⟨j,o,rfl⟩:=h;exact .ifc _ _ _ (P _ _ o)
  .cases h
abbrev FunJ:=j1->List AV->Mu->Option (AV×Mu)
variable {F:FunJ}
def ZY(P:qb)(F:FunJ):Prop:=∀ f args I v m,F f args I=some (v,m)->qP P f args I fun e l=>e = .ret v/\l=m
def seqC(F:FunJ):jC:=fun f args I=>match f with
 | .fn (.func g) first i=>F g (first++args++i) I
 |_=>none
theorem qc2{l:List AV}(h:allJ (hfB 64) l=true):WKs l l:=by
 induction l with
 |nil=>trivial
 |cons a l g =>
  rw[allJ,qr]at h;exact⟨.hf (j0 h.1),g h.2⟩
theorem qc3(p:ZY P F):vW P false (seqC F):=by
 intro f args I v m h K C t;unfold seqC at h;split at h
 .rename_i g first i
  refine .inr ⟨rfl,.inl ⟨g,first,i,_,rfl,p _ _ _ _ _ h,fun r l j=>?_,fun r l j=>?_⟩⟩
  .obtain ⟨o,rfl⟩:=j
   cases o;exact t
  .obtain ⟨o,_⟩:=j
   cases o
 .cases h
def detC(F:FunJ):jC:=fun f args I=>match f with
 | .fn (.func g) first i=>if allJ (hfB 64) (first++args++i) then
   match F g (first++args++i) [] with
   |some (v,m)=>match rdV m 64 v with
    |some w=>some (w,I)
    |none=>none
   |none=>none
  else match mapJ (rdV I 64) (first++args++i) with
   |some l=>match F g l [] with
    |some (v,m)=>match rdV m 64 v with
     |some w=>if flB 64 w then some (w,I) else none
     |none=>none
    |none=>none
   |none=>none
 |_=>none
theorem K7:∀{l m:List AV},mapJ (rdV mu 64) l=some m->Rds mu l m
 | [],m,h=>by cases h;trivial
 |a :: l,m,h=>by
  unfold mapJ at h;split at h
  .rename_i b g
   split at h
   .rename_i j i
    cases h;exact⟨UK g,K7 i⟩
   .cases h
  .cases h
theorem sndP(o:ZY P F){f:j1}{args:List AV}{v w:AV}{m:Mu}(h:F f args []=some (v,m))(p:rdV m 64 v=some w):qe P f args w:=by
 refine qe.of_sound ?_;obtain⟨t,C⟩:=o _ _ _ _ _ h;refine⟨t,fun G I J s R=>(C G I J s R).mono fun e w2 ⟨T,l,st,U⟩=>⟨T,l,st,?_⟩⟩;rcases U with ⟨r,u,⟨g,i⟩,j⟩|⟨r,u,⟨g,i⟩,j⟩
 .cases g
  subst i;exact .inl ⟨_,u,⟨_,rfl,UK p⟩,j⟩
 .cases g
theorem qc4(p:ZY P F):vW P true (detC F):=by
 intro f args I v m h K T r;unfold detC at h;split at h
 .rename_i g first i
  split at h
  .rename_i t
   split at h
   .rename_i C J j
    split at h
    .rename_i w o
     cases h;exact .inl ⟨_,.inl ⟨g,first,i,_,rfl,sndP p j o,.inl (qc2 t)⟩,r⟩
    .cases h
   .cases h
  .split at h
   .rename_i l R
    split at h
    .rename_i C J j
     split at h
     .rename_i w o
      split at h
      .rename_i hf
       cases h;exact .inl ⟨_,.inl ⟨g,first,i,_,rfl,sndP p j o,.inr ⟨K7 R,UI hf⟩⟩,r⟩
      .cases h
     .cases h
    .cases h
   .cases h
 .cases h
def noC:jC:=fun _ _ _=>none
theorem qc5{det:Bool}:vW P det noC:=fun _ _ _ _ _ h=>by cases h
def JM(P:qb)(pl:Pol)(ops:Array us)(g:List AV)(mu:Mu):List Nat->Bool
 | []=>true
 |p :: l=>(match ops[p]? with
  |some o=>match ZX ops g o with
   |some true=>match o.dst with
    |some d=>match jB P pl o.dst o.op (evJ g) mu with
     |some v=>eqV 64 v (nthJ g d)
     |none=>false
    |none=>false
   |some false=>true
   |none=>false
  |none=>true)&&JM P pl ops g mu l
theorem K8{s:LS}:∀{l:List Nat},JM P pl ops s.tm s.mu l=true->jY P pl ops l s.st
 | [],_=>trivial
 |p :: l,h=>by
  unfold JM at h;rw[qr]at h;refine⟨?_,K8 h.2⟩;have g:=h.1;split at g
  .rename_i o i
   rw[i];simp only;rw[UH];split at g
   .rename_i j
    refine⟨true,j,fun _=>?_,fun e=>by cases e⟩;split at g
    .rename_i d r
     split at g
     .rename_i v t
      show wO P pl o s.st;unfold wO;rw[Qt];refine K4 t _ _ ?_;rw[r];refine⟨?_,rfl⟩;rw[Qu g,JA];rfl
     .cases g
    .cases g
   .rename_i j
    exact⟨false,j,fun e=>by(cases e),fun _=>trivial⟩
   .cases g
  .rename_i i
   rw[i];trivial
def newJ(P:qb)(ops:Array us):List (Nat×Nat×List Nat)->Bool
 | []=>true
 | (j,k,_) :: T=>(match k,ops[j]? with
  | 2,some o=>(match o.op with
   | .alloc e=>match qB P e with
    |some z=>z.cells.all AV.one
    |none=>false
   |_=>false)
  |_,_=>true)&&newJ P ops T
theorem K9:∀{T:List (Nat×Nat×List Nat)},newJ P ops T=true->vU P ops T
 | [],_=>trivial
 | (j,k,r) :: T,h=>by
  unfold newJ at h;rw[qr]at h;refine⟨?_,K9 h.2⟩;have g:=h.1;by_cases l:k=2
  .subst l
   cases p:ops[j]? with
   |none=>trivial
   |some o =>
    rw[p]at g;simp only at g⊢;cases i:o.op<;>rw[i]at g<;>simp only at g⊢<;>try (cases g;done)
    split at g
    .rename_i z t;exact⟨z,t,g⟩
    .cases g
  .cases p:ops[j]?<;>simp[l]
def segJ(P:qb)(pl:Pol)(C:jC)(ops:Array us):List (Nat×Nat×List Nat)->List AV->Mu->Option LS
 | [],g,I=>some ⟨g,I⟩
 | (j,k,r) :: T,g,I=>match ops[j]? with
  |none=>none
  |some o=>match ZX ops g o with
   |some true=>JK P pl (k != 1) (if k=1 then C else noC) o.dst o.op (evJ g) I fun v m=>putJ g o.dst v fun g=>if JM P pl ops g m r then segJ P pl C ops T g m else none
   |some false=>putJ g o.dst (.sc j2) fun g=>segJ P pl C ops T g I
   |none=>none
theorem UL{C:jC}(l:vW P false C){ops:Array us}{Q:St->Prop}{J:AV->St->Prop}:∀{T:List (Nat×Nat×List Nat)} {s s':LS},segJ P pl C ops T s.tm s.mu=some s'->Q s'.st->awpT P pl ops Q J T s.st
 | [],s,s',h,i=>by cases h;exact i
 | (j,k,r) :: T,s,s',h,i=>by
  unfold segJ at h;unfold awpT;split at h
  .cases h
  .rename_i o R
   rw[R];simp only;have U:vW P (k != 1) (if k=1 then C else noC):=by
    by_cases e:k=1
    .subst e;exact l
    .rw [if_neg e];exact qc5
   rw[UH];split at h
   .rename_i p
    obtain⟨v,m,h1,h2⟩:=K5 U h;refine⟨true,p,fun _=>?_,fun e=>by cases e⟩;rw[Qt];refine h1 _ _ ?_;obtain⟨I,g,_,t⟩:=JD (m:=m) h2;rw[t];split at g
    .rename_i hr
     exact⟨K8 (s:=⟨I,m⟩) hr,UL l g i⟩
    .cases g
   .rename_i p
    refine⟨false,p,fun e=>by(cases e),fun _=>?_⟩;obtain⟨I,g,_,t⟩:=JD (m:=s.mu) h;have:s.st.mu=s.mu:=rfl;rw[this,t];exact UL l g i
   .cases h
def wS(pl:Pol)(ops:Array us):Nat->List Nat->List Nat
 | 0,pre=>pre
 |f+1,pre =>
  let g:=(qt ops.size).filter fun i=>!pre.contains i
  let l (j:Nat):Bool:=(qt ops.size).all fun i=>match zw ops i with|some d=>!yN ops j d||pre.contains i|none=>true
  let o (j:Nat):Bool:=pre.all fun i=>zh pl ops i == 0||(zP ops j).testBit i
  match g.find? fun j=>zh pl ops j == 0&&(l j&&o j) with
  |some j=>wS pl ops f (pre++[j])
  |none=>match g.find? fun j=>zh pl ops j == 1&&(l j&&o j) with
   |some j=>if (g.filter fun k=>zh pl ops k == 2&&(zP ops j).testBit k).isEmpty then wS pl ops f (pre++[j]) else
    match g.find? fun k=>zh pl ops k == 2&&(zP ops j).testBit k with
    |some k=>wS pl ops f (pre++[k])
    |none=>pre
   |none=>match g.find? fun j=>zh pl ops j == 2 with
    |some j=>wS pl ops f (pre++[j])
    |none=>pre
def UM(P:qb)(pl:Pol)(C D:jC)(ops:Array us)(g:List AV)(mu:Mu):Option LS:=
 match (if ZQ pl ops then regJ P pl true D ops ops.toList g mu else none) with
 |some s=>some s
 |none=>if ZS pl ops (wS pl ops (ops.size+1) [])&&newJ P ops (plan pl ops [] (wS pl ops (ops.size+1) [])) then segJ P pl C ops (plan pl ops [] (wS pl ops (ops.size+1) [])) g mu else none
theorem qc6{C D:jC}(l:vW P false C)(o:vW P true D){ops:Array us}{Q:St->Prop}{p:AV->St->Prop}{s s':LS}(h:UM P pl C D ops s.tm s.mu=some s')(j:Q s'.st):Jw P pl ops Q p s.st:=by
 unfold UM at h;split at h
 .rename_i s1 i
  cases h;split at i
  .rename_i g
   exact .inl (.inl ⟨g,JL o i j⟩)
  .cases i
 .split at h
  .rename_i g
   rw[qr]at g;exact .inr ⟨_,g.1,K9 g.2,UL l h j⟩
  .cases h
abbrev je:=FunJ->List AV->Mu->Option (AV×Mu)
structure EnvJ where
 S:j1->Option je
 N:j1->List AV->Bool
 pol:j1->List Nat
 cal:j1->Bool
def jn(P:qb)(f:j1)(h:je):Prop:=∀ F,ZY P F->∀ args I v m,h F args I=some (v,m)->qP P f args I fun e l=>e = .ret v/\l=m
def qZ(P:qb)(E:EnvJ):Prop:=(∀ f h,E.S f=some h->jn P f h)/\(∀ f,E.cal f=true->ym P f)/\∀ f g,E.N f g=true->Ux P f g []
def nV:Nat->AV->AV
 | 0,x=>x
 |n+1,x=>match x with
  | .lst _ g => .lst false (g.map (List.map (nV n)))
  | .agg i => .agg (i.map (nV n))
  | .tup i => .tup (i.map (nV n))
  | .ip i => .ip (i.map (nV n))
  |x=>x
theorem UN:∀(m k:Nat) (x:AV),hfB k x=true->WK x (nV m x)
 | 0,k,x,h => .hf (j0 h)
 |m+1,0,x,h=>by cases h
 |m+1,k+1,x,h=>by
  have ih:∀ c,hfB k c=true->WK c (nV m c):=fun c o=>UN m k c o
  have hx:=j0 h;have key:∀(t:List AV),(∀ c,c∈t->hfB k c=true)->∀(i:Nat) y,(t.map (nV m))[i]?=some y->∃ c,t[i]?=some c/\WK c y:=fun t o i y l=>by
   rw[zp,yG]at l;obtain⟨c,j,rfl⟩:=l;exact⟨c,j,ih c (o c (q9 j))⟩
  unfold hfB at h;intro G P v r;unfold nV;cases x with
  |lst f g =>
   simp only at h⊢;have I:∀ c,c∈g.flatten->hfB k c=true:=fun c o=>by
    obtain⟨row,j,C⟩:=VT.1 o;exact jD (jD h row j) c C
   cases r with
   |nil=>exact .nil _
   |emp _ a cap o=>exact .emp false a cap (by simp)
   |lst _ _ p a cap t e T rd U hs hl o hi hz hr J =>
    have R:(g.map (List.map (nV m))).flatten=g.flatten.map (nV m):=(List.map_flatten ..).symm;have:=VRel.lst (G:=⟨G.imm,[]⟩) (h:=P) false (g.map (List.map (nV m))) p a cap t e T rd U hs (by simpa using hl) (by simp) hi (fun q hq=>by
     obtain⟨q',j,rfl⟩:=qp.1 hq;rw[zH];exact hz q' j) (fun i y l=>by
     rw[R]at l;obtain⟨c,j,_⟩:=key _ I i y l;exact hr i c j) (fun i y l=>by
     rw[R]at l;obtain⟨c,j,C⟩:=key _ I i y l;exact C G P _ (J i c j))
    rw[zH]at this;exact this
  |agg t =>
   simp only at h⊢;cases r with
   |agg _ vs hn J =>
    refine .agg _ _ (by simpa using hn) fun i y l=>?_
    obtain⟨c,j,C⟩:=key t (fun c o=>jD h c o) i y l;exact C G P _ (J i c j)
  |tup t =>
   simp only at h⊢;cases r with
   |tup _ vs hn J =>
    refine .tup _ _ (by simpa using hn) fun i y l=>?_
    obtain⟨c,j,C⟩:=key t (fun c o=>jD h c o) i y l;exact C G P _ (J i c j)
  |ip t =>
   simp only at h⊢;cases r with
   |ip _ a arr e T rd U hs hi hr J =>
    refine .ip _ a arr e T rd U hs hi (fun i y l=>?_) fun i y l=>?_
    .obtain ⟨c,j,_⟩:=key t (fun c o=>jD h c o) i y l
     exact hr i c j
    .obtain ⟨c,j,C⟩:=key t (fun c o=>jD h c o) i y l
     exact C G P _ (J i c j)
  |_=>exact hx G P v r
theorem kc:∀{l:List AV},allJ (hfB 64) l=true->WKs l (l.map (nV 64))
 | [],_=>trivial
 |a :: l,h=>by
  rw[allJ,qr]at h;exact⟨UN 64 64 a h.1,kc h.2⟩
def j5(X:List AV->Option AV):je:=fun _ args I=>if allJ (hfB 64) args then
  match X (args.map (nV 64)) with
  |some v=>some (v,I)
  |none=>none
 else none
theorem ZZ{f:j1}{X:List AV->Option AV}(h:∀ args v,X args=some v->qe P f args v):jn P f (j5 X):=by
 intro F l args I v m g;unfold j5 at g;split at g
 .rename_i i
  split at g
  .rename_i w j
   cases g;exact(h _ _ j).toSound I (kc i)
  .cases g
 .cases g
def tabX:List (List AV×AV)->List AV->Option AV
 | [],_=>none
 |p :: l,args=>if eqLi (eqV 64) (p.1.map (nV 64)) args then some p.2 else tabX l args
theorem Z0{f:j1}:∀{l:List (List AV×AV)},(∀ p,p∈l->qe P f (p.1.map (nV 64)) p.2)->∀ args v,tabX l args=some v->qe P f args v
 | [],_,_,_,h=>by cases h
 |p :: l,g,args,v,h=>by
  unfold tabX at h;split at h
  .rename_i i
   cases h;rw[<-vY (fun a b h=>Qu h) i];exact g p (qU ..)
  .exact Z0 (fun q j=>g q (qO _ j)) args v h
structure RT where
 c:Pol->j3->List AV->Mu->Option (qQ×LS)
 f:FunJ
def uE(P:qb)(E:EnvJ)(R:RT)(pl:Pol)(c:j3)(j:List AV)(mu:Mu):Option (qQ×LS):=
 match c with
 | .skip=>some (.normal,⟨j,mu⟩)
 | .label _=>some (.normal,⟨j,mu⟩)
 | .region _ l o=>match (match o with
   |false=>regJ P pl false (seqC R.f) l l.toList j mu
   |true=>UM P pl (seqC R.f) (detC R.f) l j mu) with
  |some s=>some (.normal,s)
  |none=>none
 | .seq a b=>match R.c pl a j mu with
  |some (.normal,s)=>R.c pl b s.tm s.mu
  |r=>r
 | .cond c a b=>match evJ j c with
  | .sc (.bool true)=>R.c pl a j mu
  | .sc (.bool false)=>R.c pl b j mu
  |_=>none
 | .block id b=>match R.c pl b j mu with
  |some (.exit i,s)=>if i=id then some (.normal,s) else some (.exit i,s)
  |r=>r
 | .loop b=>match R.c pl b j mu with
  |some (.normal,s)=>R.c pl (.loop b) s.tm s.mu
  |r=>r
 | .exit id=>some (.exit id,⟨j,mu⟩)
 | .ret=>some (.ret,⟨j,mu⟩)
 | .scope b=>R.c pl b j mu
 | .rangeFunc g _ _ _=>match evJ j g with
  | .fn (.func t) [] p=>if E.N t p then fM (mu++[.dead]) fun mu=>some (.normal,⟨j,mu⟩) else none
  |_=>none
 |_=>none
def funJ(P:qb)(E:EnvJ)(R:RT):FunJ:=fun f args I=>match E.S f with
 |some h=>h R.f args I
 |none=>match P.funcs[f]? with
  |some fn=>match fn.body with
   |some c=>if E.cal f&&(Nat.ble args.length fn.ntmps&&dOkC fn.ntmps c) then
     match R.c ⟨E.pol f⟩ c (args++zt (fn.ntmps-args.length) (.sc j2)) I with
     |some (.normal,s)=>match yX P s.st fn.results.toList with
      |some r=>some (r,s.mu)
      |none=>none
     |some (.ret,s)=>match yX P s.st fn.results.toList with
      |some r=>some (r,s.mu)
      |none=>none
     |_=>none
    else none
   |none=>none
  |none=>none
def runJ(P:qb)(E:EnvJ):Nat->RT
 | 0=>⟨fun _ _ _ _=>none,fun _ _ _=>none⟩
 |n+1=>⟨uE P E (runJ P E n),funJ P E (runJ P E n)⟩
def qc7(P:qb)(R:RT):Prop:=∀ U c g I e i,R.c U c g I=some (e,i)->∀ Q:qQ->St->Prop,Q e i.st->awp P U c Q (LS.st ⟨g,I⟩)
theorem qc8(args:List AV)(k:Nat)(mu:Mu):LS.st ⟨args++zt k (.sc j2),mu⟩=st0 args mu:=by
 unfold LS.st st0;congr 1;funext i;by_cases h:i<args.length
 .rw [qx h]
 .rw [qV (by omega),yF (l:=args) (by omega),List.getElem?_replicate]
  split<;>rfl
theorem JN{E:EnvJ}(hE:qZ P E):∀ N n,n<=N->qc7 P (runJ P E n)/\ZY P (runJ P E n).f
 | 0,n,hn=>by
  obtain rfl:n=0:=by omega
  exact⟨(fun _ _ _ _ _ _ h=>by cases h),(fun _ _ _ _ _ h=>by cases h)⟩
 | N+1,n,hn=>by
  by_cases h0:n<=N
  .exact JN hE N n h0
  obtain rfl:n=N+1:=by omega
  obtain⟨j,T⟩:=JN hE N N (qs _);have hS:=qc3 T;have hD:=qc4 T;refine⟨?_,?_⟩
  .intro U c tm I e s' h Q o
   change uE P E (runJ P E N) U c tm I=some (e,s') at h;cases c with
   |skip=>cases h;exact o
   |label l=>cases h;exact o
   |exit id=>cases h;exact o
   |ret=>cases h;exact o
   |region id R a0 =>
    simp only[uE]at h;cases a0 with
    |false =>
     simp only at h;split at h
     .rename_i s p
      cases h;exact .inl ⟨rfl,JL (s:=⟨tm,I⟩) hS p o⟩
     .cases h
    |true =>
     simp only at h;split at h
     .rename_i s p
      cases h;exact .inr ⟨rfl,_,.refl _,qc6 (s:=⟨tm,I⟩) hS hD p o⟩
     .cases h
   |seq a b =>
    simp only[uE]at h;split at h
    .rename_i s p
     exact j _ _ _ _ _ _ p _ (j _ _ _ _ _ _ h _ o)
    .rename_i t
     refine j _ _ _ _ _ _ h _ ?_;cases e with
     |normal=>exact absurd h (t s')
     |_=>exact o
   |cond c a b =>
    simp only[uE]at h;split at h
    .rename_i hc
     exact⟨true,by rw[Qt];exact hc,(fun _=>j _ _ _ _ _ _ h _ o),(fun e=>by cases e)⟩
    .rename_i hc
     exact⟨false,by rw[Qt];exact hc,(fun e=>by cases e),(fun _=>j _ _ _ _ _ _ h _ o)⟩
    .cases h
   |block id b =>
    simp only[uE]at h;split at h
    .rename_i i s p
     refine j _ _ _ _ _ _ p _ ?_;show if i=id then _ else _
     split at h
     .rename_i e1;cases h;rw[if_pos e1];exact o
     .rename_i e1;cases h;rw[if_neg e1];exact o
    .rename_i t
     refine j _ _ _ _ _ _ h _ ?_;cases e with
     |exit i=>exact absurd h (t i s')
     |_=>exact o
   |loop b =>
    refine⟨false,fun k st=>k<=N+1/\∃ tm I,st=LS.st ⟨tm,I⟩/\(runJ P E k).c U (.loop b) tm I=some (e,s'),N+1,_,.refl _,⟨qs _,tm,I,rfl,h⟩,?_⟩;rintro k st ⟨hk,a1,a2,rfl,h1⟩;cases k with
    |zero=>cases h1
    |succ k =>
     obtain⟨ic,_⟩:=JN hE N k (by omega);change uE P E (runJ P E k) U (.loop b) a1 a2=some (e,s') at h1;simp only[uE]at h1;split at h1
     .rename_i s p
      exact ic _ _ _ _ _ _ p _ ⟨k,by omega,by omega,s.tm,s.mu,rfl,h1⟩
     .rename_i t
      refine ic _ _ _ _ _ _ h1 _ ?_;cases e with
      |normal=>exact absurd h1 (t s')
      |_=>exact o
   |scope b=>exact j _ _ _ _ _ _ h _ o
   |rangeFunc g ps a5 a4 =>
    simp only[uE]at h;split at h
    .rename_i gf J hg
     split at h
     .rename_i hN
      rw[UD]at h;cases h;refine⟨false,gf,J,[],fun _ m=>m=I++[.dead],fun _ _=>False,by rw[Qt];exact hg,.inr (hE.2.2 gf J hN),rfl,fun k x m hx=>by simp at hx,fun m hm=>?_,fun _ _ hf=>hf.elim⟩;subst hm;exact o
     .cases h
    .cases h
   |_=>cases h
  .intro f args I v m h
   change funJ P E (runJ P E N) f args I=some (v,m) at h;unfold funJ at h;split at h
   .rename_i hk hh
    exact hE.1 f hk hh _ T _ _ _ _ h
   split at h
   .rename_i fn a3
    split at h
    .rename_i c hc
     split at h
     .rename_i C
      simp only[qr]at C;refine qP.of_awp (hE.2.1 f C.1) a3 hc (yj C.2.1) C.2.2 (pl:=⟨E.pol f⟩) ?_;rw[<-qc8 args (fn.ntmps-args.length) I];split at h
      .rename_i s p
       refine j _ _ _ _ _ _ p _ ?_;split at h
       .rename_i r hr;cases h;exact⟨_,hr,rfl,rfl⟩
       .cases h
      .rename_i s p
       refine j _ _ _ _ _ _ p _ ?_;split at h
       .rename_i r hr;cases h;exact⟨_,hr,rfl,rfl⟩
       .cases h
      .cases h
     .cases h
    .cases h
   .cases h
def Z1(P:qb)(E:EnvJ)(n:Nat)(f:j1)(args:List AV):Option AV:=match (runJ P E n).f f args [] with
 |some (v,m)=>rdV m 64 v
 |none=>none
theorem UO{E:EnvJ}(g:qZ P E){n:Nat}{f:j1}{args:List AV}{v:AV}(h:Z1 P E n f args=some v):qe P f args v:=by
 unfold Z1 at h;split at h
 .rename_i w m i
  exact sndP (JN g n n (qs _)).2 i h
 .cases h
end
end Go.Ev
namespace Go.Proofs.YtpagnklaanbmbaaGreatDoor
open Go Go.Ev Go.Proofs Tryz
namespace Ty
@[go_sem] theorem sz3:szOf qc 3=some 1:=eqS (by kernel_rfl)
@[go_sem] theorem ag3:qY qc 3=some false:=eqS (by kernel_rfl)
@[go_sem] theorem ze3:qB qc 3=some (.sc (.int .i64 0)):=eqS (by kernel_rfl)
@[go_sem] theorem sz4:szOf qc 4=some 1:=eqS (by kernel_rfl)
@[go_sem] theorem ag4:qY qc 4=some false:=eqS (by kernel_rfl)
@[go_sem] theorem ze4:qB qc 4=some (.sc (.bool false)):=eqS (by kernel_rfl)
@[go_sem] theorem bo4:VX qc 4=true:=eqS (by kernel_rfl)
@[go_sem] theorem sz5:szOf qc 5=some 1:=eqS (by kernel_rfl)
@[go_sem] theorem ag5:qY qc 5=some false:=eqS (by kernel_rfl)
@[go_sem] theorem ze5:qB qc 5=some (.sc (.int .u8 0)):=eqS (by kernel_rfl)
@[go_sem] theorem sz9:szOf qc 9=some 1:=eqS (by kernel_rfl)
@[go_sem] theorem ag9:qY qc 9=some false:=eqS (by kernel_rfl)
@[go_sem] theorem ze9:qB qc 9=some (.sc (.string ⟨#[]⟩)):=eqS (by kernel_rfl)
@[go_sem] theorem ay20:VY qc 20=true:=eqS (by kernel_rfl)
@[go_sem] theorem sz22:szOf qc 22=some 1:=eqS (by kernel_rfl)
@[go_sem] theorem ag22:qY qc 22=some false:=eqS (by kernel_rfl)
@[go_sem] theorem sl22:qC qc 22=some (100,2,24):=eqS (by kernel_rfl)
@[go_sem] theorem sz23:szOf qc 23=some 1:=eqS (by kernel_rfl)
@[go_sem] theorem ag23:qY qc 23=some false:=eqS (by kernel_rfl)
@[go_sem] theorem sl23:qC qc 23=some (102,3,48):=eqS (by kernel_rfl)
@[go_sem] theorem sz24:szOf qc 24=some 1:=eqS (by kernel_rfl)
@[go_sem] theorem ag24:qY qc 24=some false:=eqS (by kernel_rfl)
@[go_sem] theorem sl24:qC qc 24=some (194,7,104):=eqS (by kernel_rfl)
@[go_sem] theorem sz25:szOf qc 25=some 1:=eqS (by kernel_rfl)
@[go_sem] theorem ag25:qY qc 25=some false:=eqS (by kernel_rfl)
@[go_sem] theorem sl25:qC qc 25=some (123,6,80):=eqS (by kernel_rfl)
@[go_sem] theorem sz27:szOf qc 27=some 4:=eqS (by kernel_rfl)
@[go_sem] theorem ag27:qY qc 27=some true:=eqS (by kernel_rfl)
@[go_sem] theorem fl27_0:qK qc 27 0=some (0,22,1):=eqS (by kernel_rfl)
@[go_sem] theorem fl27_1:qK qc 27 1=some (1,23,1):=eqS (by kernel_rfl)
@[go_sem] theorem fl27_2:qK qc 27 2=some (2,24,1):=eqS (by kernel_rfl)
@[go_sem] theorem fl27_3:qK qc 27 3=some (3,25,1):=eqS (by kernel_rfl)
@[go_sem] theorem sz28:szOf qc 28=some 1:=eqS (by kernel_rfl)
@[go_sem] theorem ag28:qY qc 28=some false:=eqS (by kernel_rfl)
@[go_sem] theorem ze28:qB qc 28=some (.lst true []):=eqS (by kernel_rfl)
@[go_sem] theorem sl28:qC qc 28=some (3,1,8):=eqS (by kernel_rfl)
@[go_sem] theorem sz30:szOf qc 30=some 2:=eqS (by kernel_rfl)
@[go_sem] theorem ag30:qY qc 30=some true:=eqS (by kernel_rfl)
@[go_sem] theorem fl30_0:qK qc 30 0=some (0,28,1):=eqS (by kernel_rfl)
@[go_sem] theorem fl30_1:qK qc 30 1=some (1,3,1):=eqS (by kernel_rfl)
@[go_sem] theorem sz31:szOf qc 31=some 1:=eqS (by kernel_rfl)
@[go_sem] theorem ag31:qY qc 31=some false:=eqS (by kernel_rfl)
@[go_sem] theorem sl31:qC qc 31=some (105,1,24):=eqS (by kernel_rfl)
@[go_sem] theorem sz33:szOf qc 33=some 4:=eqS (by kernel_rfl)
@[go_sem] theorem ag33:qY qc 33=some true:=eqS (by kernel_rfl)
@[go_sem] theorem ze33:qB qc 33=some (.agg [.lst true [],.sc (.int .i64 0),.lst true [],.sc (.int .i64 0)]):=eqS (by kernel_rfl)
@[go_sem] theorem pl33:ja qc 33=some (plc [(0,2),(2,1),(3,1)]):=eqS (by kernel_rfl)
@[go_sem] theorem fl33_0:qK qc 33 0=some (0,30,2):=eqS (by kernel_rfl)
@[go_sem] theorem fl33_1:qK qc 33 1=some (2,31,1):=eqS (by kernel_rfl)
@[go_sem] theorem fl33_2:qK qc 33 2=some (3,3,1):=eqS (by kernel_rfl)
@[go_sem] theorem zo33:yL qc 33=true:=eqS (by kernel_rfl)
@[go_sem] theorem sz34:szOf qc 34=some 1:=eqS (by kernel_rfl)
@[go_sem] theorem ag34:qY qc 34=some false:=eqS (by kernel_rfl)
@[go_sem] theorem sl34:qC qc 34=some (36,5,64):=eqS (by kernel_rfl)
@[go_sem] theorem sz36:szOf qc 36=some 5:=eqS (by kernel_rfl)
@[go_sem] theorem ag36:qY qc 36=some true:=eqS (by kernel_rfl)
@[go_sem] theorem ze36:qB qc 36=some (.agg [.sc (.int .i64 0),.sc (.string ⟨#[]⟩),.sc (.int .i64 0),.lst true [],.sc (.int .i64 0)]):=eqS (by kernel_rfl)
@[go_sem] theorem pl36:ja qc 36=some (plc [(0,1),(1,1),(2,1),(3,1),(4,1)]):=eqS (by kernel_rfl)
@[go_sem] theorem fl36_0:qK qc 36 0=some (0,3,1):=eqS (by kernel_rfl)
@[go_sem] theorem fl36_1:qK qc 36 1=some (1,9,1):=eqS (by kernel_rfl)
@[go_sem] theorem fl36_2:qK qc 36 2=some (2,3,1):=eqS (by kernel_rfl)
@[go_sem] theorem fl36_3:qK qc 36 3=some (3,34,1):=eqS (by kernel_rfl)
@[go_sem] theorem fl36_4:qK qc 36 4=some (4,3,1):=eqS (by kernel_rfl)
@[go_sem] theorem zo36:yL qc 36=true:=eqS (by kernel_rfl)
@[go_sem] theorem sz43:szOf qc 43=some 1:=eqS (by kernel_rfl)
@[go_sem] theorem ag43:qY qc 43=some false:=eqS (by kernel_rfl)
@[go_sem] theorem ze43:qB qc 43=some (.sc (.int .i64 0)):=eqS (by kernel_rfl)
@[go_sem] theorem sz50:szOf qc 50=some 1:=eqS (by kernel_rfl)
@[go_sem] theorem ag50:qY qc 50=some false:=eqS (by kernel_rfl)
@[go_sem] theorem sl50:qC qc 50=some (158,1,24):=eqS (by kernel_rfl)
@[go_sem] theorem sz51:szOf qc 51=some 1:=eqS (by kernel_rfl)
@[go_sem] theorem ag51:qY qc 51=some false:=eqS (by kernel_rfl)
@[go_sem] theorem sl51:qC qc 51=some (89,1,24):=eqS (by kernel_rfl)
@[go_sem] theorem sz53:szOf qc 53=some 14:=eqS (by kernel_rfl)
@[go_sem] theorem ag53:qY qc 53=some true:=eqS (by kernel_rfl)
@[go_sem] theorem fl53_0:qK qc 53 0=some (0,27,4):=eqS (by kernel_rfl)
@[go_sem] theorem fl53_1:qK qc 53 1=some (4,30,2):=eqS (by kernel_rfl)
@[go_sem] theorem fl53_2:qK qc 53 2=some (6,50,1):=eqS (by kernel_rfl)
@[go_sem] theorem fl53_3:qK qc 53 3=some (7,36,5):=eqS (by kernel_rfl)
@[go_sem] theorem fl53_4:qK qc 53 4=some (12,51,1):=eqS (by kernel_rfl)
@[go_sem] theorem fl53_5:qK qc 53 5=some (13,5,1):=eqS (by kernel_rfl)
@[go_sem] theorem sz55:szOf qc 55=some 1:=eqS (by kernel_rfl)
@[go_sem] theorem ag55:qY qc 55=some false:=eqS (by kernel_rfl)
@[go_sem] theorem sl55:qC qc 55=some (157,4,64):=eqS (by kernel_rfl)
@[go_sem] theorem sz61:szOf qc 61=some 1:=eqS (by kernel_rfl)
@[go_sem] theorem ag61:qY qc 61=some false:=eqS (by kernel_rfl)
@[go_sem] theorem ze61:qB qc 61=some (.lst true []):=eqS (by kernel_rfl)
@[go_sem] theorem sl61:qC qc 61=some (33,4,64):=eqS (by kernel_rfl)
@[go_sem] theorem sl76:qC qc 76=some (28,1,24):=eqS (by kernel_rfl)
@[go_sem] theorem sl80:qC qc 80=some (175,3,24):=eqS (by kernel_rfl)
@[go_sem] theorem sz89:szOf qc 89=some 1:=eqS (by kernel_rfl)
@[go_sem] theorem ag89:qY qc 89=some false:=eqS (by kernel_rfl)
@[go_sem] theorem sl89:qC qc 89=some (4,1,1):=eqS (by kernel_rfl)
@[go_sem] theorem fl100_0:qK qc 100 0=some (0,9,1):=eqS (by kernel_rfl)
@[go_sem] theorem fl100_1:qK qc 100 1=some (1,4,1):=eqS (by kernel_rfl)
@[go_sem] theorem sz102:szOf qc 102=some 3:=eqS (by kernel_rfl)
@[go_sem] theorem ag102:qY qc 102=some true:=eqS (by kernel_rfl)
@[go_sem] theorem ze102:qB qc 102=some (.agg [.sc (.string ⟨#[]⟩),.lst true [],.sc (.bool false)]):=eqS (by kernel_rfl)
@[go_sem] theorem fl102_0:qK qc 102 0=some (0,9,1):=eqS (by kernel_rfl)
@[go_sem] theorem fl102_1:qK qc 102 1=some (1,28,1):=eqS (by kernel_rfl)
@[go_sem] theorem fl102_2:qK qc 102 2=some (2,4,1):=eqS (by kernel_rfl)
@[go_sem] theorem sz104:szOf qc 104=some 2:=eqS (by kernel_rfl)
@[go_sem] theorem ag104:qY qc 104=some true:=eqS (by kernel_rfl)
@[go_sem] theorem ze104:qB qc 104=some (.agg [.sc (.int .i64 0),.lst true []]):=eqS (by kernel_rfl)
@[go_sem] theorem pl104:ja qc 104=some (plc [(0,1),(1,1)]):=eqS (by kernel_rfl)
@[go_sem] theorem fl104_0:qK qc 104 0=some (0,3,1):=eqS (by kernel_rfl)
@[go_sem] theorem fl104_1:qK qc 104 1=some (1,28,1):=eqS (by kernel_rfl)
@[go_sem] theorem zo104:yL qc 104=true:=eqS (by kernel_rfl)
@[go_sem] theorem sz105:szOf qc 105=some 1:=eqS (by kernel_rfl)
@[go_sem] theorem ag105:qY qc 105=some false:=eqS (by kernel_rfl)
@[go_sem] theorem ze105:qB qc 105=some (.lst true []):=eqS (by kernel_rfl)
@[go_sem] theorem sl105:qC qc 105=some (104,2,32):=eqS (by kernel_rfl)
@[go_sem] theorem sz114:szOf qc 114=some 1:=eqS (by kernel_rfl)
@[go_sem] theorem ag114:qY qc 114=some false:=eqS (by kernel_rfl)
@[go_sem] theorem sl114:qC qc 114=some (113,2,24):=eqS (by kernel_rfl)
@[go_sem] theorem sl117:qC qc 117=some (137,2,16):=eqS (by kernel_rfl)
@[go_sem] theorem fl123_0:qK qc 123 0=some (0,9,1):=eqS (by kernel_rfl)
@[go_sem] theorem fl123_1:qK qc 123 1=some (1,36,5):=eqS (by kernel_rfl)
@[go_sem] theorem ze133:qB qc 133=some (.agg [.sc (.int .i64 0),.lst true []]):=eqS (by kernel_rfl)
@[go_sem] theorem pl133:ja qc 133=some (plc [(0,1),(1,1)]):=eqS (by kernel_rfl)
@[go_sem] theorem zo133:yL qc 133=true:=eqS (by kernel_rfl)
@[go_sem] theorem sz137:szOf qc 137=some 2:=eqS (by kernel_rfl)
@[go_sem] theorem ag137:qY qc 137=some true:=eqS (by kernel_rfl)
@[go_sem] theorem ze137:qB qc 137=some (.agg [.sc (.int .i64 0),.sc (.int .i64 0)]):=eqS (by kernel_rfl)
@[go_sem] theorem ia137:YY qc 137=some 2:=eqS (by kernel_rfl)
@[go_sem] theorem pl137:ja qc 137=some (plc [(0,1),(1,1)]):=eqS (by kernel_rfl)
@[go_sem] theorem fl137_0:qK qc 137 0=some (0,43,1):=eqS (by kernel_rfl)
@[go_sem] theorem zo137:yL qc 137=true:=eqS (by kernel_rfl)
@[go_sem] theorem sz141:szOf qc 141=some 2:=eqS (by kernel_rfl)
@[go_sem] theorem ag141:qY qc 141=some true:=eqS (by kernel_rfl)
@[go_sem] theorem ze141:qB qc 141=some (.agg [.sc (.int .i64 0),.sc (.int .i64 0)]):=eqS (by kernel_rfl)
@[go_sem] theorem sl141:qC qc 141=none:=eqS (by kernel_rfl)
@[go_sem] theorem ar141:Qh qc 141=some (2,3,1):=eqS (by kernel_rfl)
@[go_sem] theorem pl141:ja qc 141=some (plA 1):=eqS (by kernel_rfl)
@[go_sem] theorem zo141:yL qc 141=true:=eqS (by kernel_rfl)
@[go_sem] theorem sz145:szOf qc 145=some 1:=eqS (by kernel_rfl)
@[go_sem] theorem ag145:qY qc 145=some false:=eqS (by kernel_rfl)
@[go_sem] theorem ze145:qB qc 145=some (.lst true []):=eqS (by kernel_rfl)
@[go_sem] theorem sl145:qC qc 145=some (141,2,16):=eqS (by kernel_rfl)
@[go_sem] theorem sz150:szOf qc 150=some 1:=eqS (by kernel_rfl)
@[go_sem] theorem ag150:qY qc 150=some false:=eqS (by kernel_rfl)
@[go_sem] theorem sl150:qC qc 150=some (235,3,24):=eqS (by kernel_rfl)
@[go_sem] theorem sz157:szOf qc 157=some 4:=eqS (by kernel_rfl)
@[go_sem] theorem ag157:qY qc 157=some true:=eqS (by kernel_rfl)
@[go_sem] theorem ze157:qB qc 157=some (.agg [.sc (.int .i64 0),.lst true [],.sc (.int .i64 0),.lst true []]):=eqS (by kernel_rfl)
@[go_sem] theorem pl157:ja qc 157=some (plc [(0,2),(2,2)]):=eqS (by kernel_rfl)
@[go_sem] theorem fl157_0:qK qc 157 0=some (0,104,2):=eqS (by kernel_rfl)
@[go_sem] theorem fl157_1:qK qc 157 1=some (2,104,2):=eqS (by kernel_rfl)
@[go_sem] theorem zo157:yL qc 157=true:=eqS (by kernel_rfl)
@[go_sem] theorem sz158:szOf qc 158=some 1:=eqS (by kernel_rfl)
@[go_sem] theorem ag158:qY qc 158=some false:=eqS (by kernel_rfl)
@[go_sem] theorem sl158:qC qc 158=some (5,1,1):=eqS (by kernel_rfl)
@[go_sem] theorem ze175:qB qc 175=some (.agg [.sc (.int .i64 0),.sc (.int .i64 0),.sc (.int .i64 0)]):=eqS (by kernel_rfl)
@[go_sem] theorem pl175:ja qc 175=some (plc [(0,1),(1,1),(2,1)]):=eqS (by kernel_rfl)
@[go_sem] theorem zo175:yL qc 175=true:=eqS (by kernel_rfl)
@[go_sem] theorem sz192:szOf qc 192=some 1:=eqS (by kernel_rfl)
@[go_sem] theorem ag192:qY qc 192=some false:=eqS (by kernel_rfl)
@[go_sem] theorem sl192:qC qc 192=some (267,2,24):=eqS (by kernel_rfl)
@[go_sem] theorem fl194_0:qK qc 194 0=some (0,9,1):=eqS (by kernel_rfl)
@[go_sem] theorem fl194_1:qK qc 194 1=some (1,192,1):=eqS (by kernel_rfl)
@[go_sem] theorem fl194_2:qK qc 194 2=some (2,36,5):=eqS (by kernel_rfl)
@[go_sem] theorem sz197:szOf qc 197=some 1:=eqS (by kernel_rfl)
@[go_sem] theorem ag197:qY qc 197=some false:=eqS (by kernel_rfl)
@[go_sem] theorem sl197:qC qc 197=some (9,1,16):=eqS (by kernel_rfl)
@[go_sem] theorem sz199:szOf qc 199=some 7:=eqS (by kernel_rfl)
@[go_sem] theorem ag199:qY qc 199=some true:=eqS (by kernel_rfl)
@[go_sem] theorem ze199:qB qc 199=some (.agg [.lst true [],.lst true [],.lst true [],.lst true [],.lst true [],.sc (.int .i64 0),.sc (.int .i64 0)]):=eqS (by kernel_rfl)
@[go_sem] theorem pl199:ja qc 199=some (plc [(0,4),(4,1),(5,1),(6,1)]):=eqS (by kernel_rfl)
@[go_sem] theorem fl199_0:qK qc 199 0=some (0,27,4):=eqS (by kernel_rfl)
@[go_sem] theorem fl199_1:qK qc 199 1=some (4,197,1):=eqS (by kernel_rfl)
@[go_sem] theorem fl199_2:qK qc 199 2=some (5,3,1):=eqS (by kernel_rfl)
@[go_sem] theorem fl199_3:qK qc 199 3=some (6,3,1):=eqS (by kernel_rfl)
@[go_sem] theorem zo199:yL qc 199=true:=eqS (by kernel_rfl)
@[go_sem] theorem sz228:szOf qc 228=some 1:=eqS (by kernel_rfl)
@[go_sem] theorem ag228:qY qc 228=some false:=eqS (by kernel_rfl)
@[go_sem] theorem sz235:szOf qc 235=some 3:=eqS (by kernel_rfl)
@[go_sem] theorem ag235:qY qc 235=some true:=eqS (by kernel_rfl)
@[go_sem] theorem ze235:qB qc 235=some (.agg [.sc (.int .i64 0),.sc (.int .i64 0),.sc (.int .i64 0)]):=eqS (by kernel_rfl)
@[go_sem] theorem pl235:ja qc 235=some (plc [(0,1),(1,1),(2,1)]):=eqS (by kernel_rfl)
@[go_sem] theorem fl235_0:qK qc 235 0=some (0,3,1):=eqS (by kernel_rfl)
@[go_sem] theorem fl235_1:qK qc 235 1=some (1,3,1):=eqS (by kernel_rfl)
@[go_sem] theorem fl235_2:qK qc 235 2=some (2,3,1):=eqS (by kernel_rfl)
@[go_sem] theorem zo235:yL qc 235=true:=eqS (by kernel_rfl)
@[go_sem] theorem sz236:szOf qc 236=some 1:=eqS (by kernel_rfl)
@[go_sem] theorem ag236:qY qc 236=some false:=eqS (by kernel_rfl)
@[go_sem] theorem sz237:szOf qc 237=some 1:=eqS (by kernel_rfl)
@[go_sem] theorem ag237:qY qc 237=some false:=eqS (by kernel_rfl)
@[go_sem] theorem ze237:qB qc 237=some (.sc .nilFunc):=eqS (by kernel_rfl)
@[go_sem] theorem sz243:szOf qc 243=some 1:=eqS (by kernel_rfl)
@[go_sem] theorem ag243:qY qc 243=some false:=eqS (by kernel_rfl)
@[go_sem] theorem ze243:qB qc 243=some (.sc (.map none)):=eqS (by kernel_rfl)
@[go_sem] theorem mt243:mapT qc 243=some (3,3):=eqS (by kernel_rfl)
@[go_sem] theorem fl267_0:qK qc 267 0=some (0,9,1):=eqS (by kernel_rfl)
@[go_sem] theorem fl267_1:qK qc 267 1=some (1,3,1):=eqS (by kernel_rfl)
@[go_sem] theorem sl269:qC qc 269=some (279,9,112):=eqS (by kernel_rfl)
@[go_sem] theorem sl271:qC qc 271=none:=eqS (by kernel_rfl)
@[go_sem] theorem ar271:Qh qc 271=some (64,4,1):=eqS (by kernel_rfl)
@[go_sem] theorem sz273:szOf qc 273=some 65:=eqS (by kernel_rfl)
@[go_sem] theorem ag273:qY qc 273=some true:=eqS (by kernel_rfl)
@[go_sem] theorem ze273:qB qc 273=some (.agg [.sc (.int .i64 0),.sc (.bool false),.sc (.bool false),.sc (.bool false),.sc (.bool false),.sc (.bool false),.sc (.bool false),.sc (.bool false),.sc (.bool false),.sc (.bool false),.sc (.bool false),.sc (.bool false),.sc (.bool false),.sc (.bool false),.sc (.bool false),.sc (.bool false),.sc (.bool false),.sc (.bool false),.sc (.bool false),.sc (.bool false),.sc (.bool false),.sc (.bool false),.sc (.bool false),.sc (.bool false),.sc (.bool false),.sc (.bool false),.sc (.bool false),.sc (.bool false),.sc (.bool false),.sc (.bool false),.sc (.bool false),.sc (.bool false),.sc (.bool false),.sc (.bool false),.sc (.bool false),.sc (.bool false),.sc (.bool false),.sc (.bool false),.sc (.bool false),.sc (.bool false),.sc (.bool false),.sc (.bool false),.sc (.bool false),.sc (.bool false),.sc (.bool false),.sc (.bool false),.sc (.bool false),.sc (.bool false),.sc (.bool false),.sc (.bool false),.sc (.bool false),.sc (.bool false),.sc (.bool false),.sc (.bool false),.sc (.bool false),.sc (.bool false),.sc (.bool false),.sc (.bool false),.sc (.bool false),.sc (.bool false),.sc (.bool false),.sc (.bool false),.sc (.bool false),.sc (.bool false),.sc (.bool false)]):=eqS (by kernel_rfl)
@[go_sem] theorem pl273:ja qc 273=some (plc [(0,1),(1,64)]):=eqS (by kernel_rfl)
@[go_sem] theorem fl273_0:qK qc 273 0=some (0,3,1):=eqS (by kernel_rfl)
@[go_sem] theorem fl273_1:qK qc 273 1=some (1,271,64):=eqS (by kernel_rfl)
@[go_sem] theorem zo273:yL qc 273=true:=eqS (by kernel_rfl)
@[go_sem] theorem ze279:qB qc 279=some (.agg [.sc (.string ⟨#[]⟩),.sc (.string ⟨#[]⟩),.sc (.bool false),.sc (.int .i64 0),.sc (.string ⟨#[]⟩),.sc (.int .i64 0),.lst true [],.sc (.int .i64 0),.sc (.int .i64 0)]):=eqS (by kernel_rfl)
@[go_sem] theorem pl279:ja qc 279=some (plc [(0,1),(1,1),(2,1),(3,5),(8,1)]):=eqS (by kernel_rfl)
@[go_sem] theorem fl279_0:qK qc 279 0=some (0,9,1):=eqS (by kernel_rfl)
@[go_sem] theorem fl279_1:qK qc 279 1=some (1,9,1):=eqS (by kernel_rfl)
@[go_sem] theorem fl279_2:qK qc 279 2=some (2,4,1):=eqS (by kernel_rfl)
@[go_sem] theorem fl279_3:qK qc 279 3=some (3,36,5):=eqS (by kernel_rfl)
@[go_sem] theorem fl279_4:qK qc 279 4=some (8,3,1):=eqS (by kernel_rfl)
@[go_sem] theorem zo279:yL qc 279=true:=eqS (by kernel_rfl)
@[go_sem] theorem sz305:szOf qc 305=some 7:=eqS (by kernel_rfl)
@[go_sem] theorem ag305:qY qc 305=some true:=eqS (by kernel_rfl)
@[go_sem] theorem ze305:qB qc 305=some (.agg [.lst true [],.lst true [],.lst true [],.lst true [],.lst true [],.sc (.int .i64 0),.sc (.bool false)]):=eqS (by kernel_rfl)
@[go_sem] theorem pl305:ja qc 305=some (plc [(0,4),(4,1),(5,1),(6,1)]):=eqS (by kernel_rfl)
@[go_sem] theorem fl305_0:qK qc 305 0=some (0,27,4):=eqS (by kernel_rfl)
@[go_sem] theorem fl305_1:qK qc 305 1=some (4,89,1):=eqS (by kernel_rfl)
@[go_sem] theorem fl305_2:qK qc 305 2=some (5,3,1):=eqS (by kernel_rfl)
@[go_sem] theorem fl305_3:qK qc 305 3=some (6,4,1):=eqS (by kernel_rfl)
@[go_sem] theorem zo305:yL qc 305=true:=eqS (by kernel_rfl)
@[go_sem] theorem sl306:qC qc 306=some (348,66,88):=eqS (by kernel_rfl)
@[go_sem] theorem sl343:qC qc 343=some (273,65,72):=eqS (by kernel_rfl)
@[go_sem] theorem ze348:qB qc 348=some (.agg [.sc (.string ⟨#[]⟩),.sc (.int .i64 0),.sc (.bool false),.sc (.bool false),.sc (.bool false),.sc (.bool false),.sc (.bool false),.sc (.bool false),.sc (.bool false),.sc (.bool false),.sc (.bool false),.sc (.bool false),.sc (.bool false),.sc (.bool false),.sc (.bool false),.sc (.bool false),.sc (.bool false),.sc (.bool false),.sc (.bool false),.sc (.bool false),.sc (.bool false),.sc (.bool false),.sc (.bool false),.sc (.bool false),.sc (.bool false),.sc (.bool false),.sc (.bool false),.sc (.bool false),.sc (.bool false),.sc (.bool false),.sc (.bool false),.sc (.bool false),.sc (.bool false),.sc (.bool false),.sc (.bool false),.sc (.bool false),.sc (.bool false),.sc (.bool false),.sc (.bool false),.sc (.bool false),.sc (.bool false),.sc (.bool false),.sc (.bool false),.sc (.bool false),.sc (.bool false),.sc (.bool false),.sc (.bool false),.sc (.bool false),.sc (.bool false),.sc (.bool false),.sc (.bool false),.sc (.bool false),.sc (.bool false),.sc (.bool false),.sc (.bool false),.sc (.bool false),.sc (.bool false),.sc (.bool false),.sc (.bool false),.sc (.bool false),.sc (.bool false),.sc (.bool false),.sc (.bool false),.sc (.bool false),.sc (.bool false),.sc (.bool false)]):=eqS (by kernel_rfl)
@[go_sem] theorem pl348:ja qc 348=some (plc [(0,1),(1,65)]):=eqS (by kernel_rfl)
@[go_sem] theorem fl348_0:qK qc 348 0=some (0,9,1):=eqS (by kernel_rfl)
@[go_sem] theorem fl348_1:qK qc 348 1=some (1,273,65):=eqS (by kernel_rfl)
@[go_sem] theorem zo348:yL qc 348=true:=eqS (by kernel_rfl)
end Ty
end Go.Proofs.YtpagnklaanbmbaaGreatDoor
namespace Go.Ev
open Go
section
variable {av s x:AV}{K:AV->Mu->Prop}{xs ys:List (List AV)}{mu:Mu}{bt e i lo sz t:Nat}{P:qb}{Q:qQ->St->Prop}
abbrev rI(n:Int):List AV:=[.sc (.int .i64 n)]
abbrev lI(xs:List Int):AV := .lst false (xs.map rI)
structure Rl where
 ar:Int
 ts:List Int
 deriving DecidableEq
structure Sc where
 atoms:List Int
 steps:Int
structure Fld where
 name:ByteArray
 sorts:List Int
 var:Bool
structure Bd where
 lo:Rl
 up:Rl
 deriving DecidableEq
abbrev cRel(r:Rl):List AV:=[aI r.ar,lI r.ts]
abbrev eRel(r:Rl):AV := .agg (cRel r)
abbrev lRel(g:List Rl):AV := .lst false (g.map cRel)
abbrev eSc(s:Sc):AV := .agg [lI s.atoms,aI s.steps]
abbrev uF(s:ByteArray×Bool):List AV:=[.sc (.string s.1),aB s.2]
abbrev jo(f:Fld):List AV:=[.sc (.string f.name),lI f.sorts,aB f.var]
abbrev JO(f:Fld):AV := .agg (jo f)
abbrev cBd(b:Bd):List AV:=[aI b.lo.ar,lI b.lo.ts,aI b.up.ar,lI b.up.ts]
abbrev lBd(b:List Bd):AV := .lst false (b.map cBd)
theorem zi(xs:List Int):HF (lI xs):=HF.lst fun r i c g=>by
 obtain⟨n,_,rfl⟩:=qp.1 i;simp at g;subst g;exact HF.sc _
theorem JP(r:Rl):∀ c,c∈cRel r->HF c:=by
 intro c g;simp at g;rcases g with rfl|rfl
 .exact HF.sc _
 .exact zi _
theorem z8(r:Rl):HF (eRel r):=HF.agg (JP r)
theorem Z2(g:List Rl):HF (lRel g):=HF.lst fun r i c j=>by
 obtain⟨n,_,rfl⟩:=qp.1 i;exact JP n c j
theorem zA(s:Sc):HF (eSc s):=HF.agg fun c g=>by
 simp at g;rcases g with rfl|rfl
 .exact zi _
 .exact HF.sc _
theorem kf(f:Fld):∀ c,c∈jo f->HF c:=by
 intro c g;simp at g;rcases g with rfl|rfl|rfl
 .exact HF.sc _
 .exact zi _
 .exact HF.sc _
theorem kh(f:Fld):HF (JO f):=HF.agg (kf f)
theorem j6(b:List Bd):HF (lBd b):=HF.lst fun r i c g=>by
 obtain⟨n,_,rfl⟩:=qp.1 i;simp at g;rcases g with rfl|rfl|rfl|rfl
 .exact HF.sc _
 .exact zi _
 .exact HF.sc _
 .exact zi _
@[go_sem] theorem ieq(a b:Int):(a == b)=decide (a=b):=eqS rfl
@[go_sem] theorem ine(a b:Int):(a != b)=!decide (a=b):=eqS rfl
@[go_sem] theorem natEq(a b:Nat):((a:Int)=(b:Int))=(a=b):=propext ⟨Int.ofNat_inj.1,fun h=>by rw[h]⟩
inductive Tag (p:St->Prop):Type where
 |mk:Tag p
def Keep(p:St->Prop)(_:Tag p)(st:St):Prop:=p st
theorem Keep.loop{p:Nat->St->Prop}{st:St}{n:Nat}(m:Nat)(g:m<n)(h:p m st):∃ m,m<n/\Keep (p m) .mk st:=⟨m,g,h⟩
theorem qk.keep{pl:Pol}{body:j3}{st:St}(I:Nat->St->Prop)(n:Nat)(h:I n st)(k:∀ n st,I n st->awp P pl body (uC (fun n=>Keep (I n) .mk) n Q) st):qk P pl body Q st := .intro (fun n=>Keep (I n) .mk) n h k
theorem zX(xs:List Int):zj 1 (xs.map rI):=fun r g=>by
 obtain⟨n,_,rfl⟩:=qp.1 g;exact⟨rfl,rfl⟩
theorem wT(xs:List Rl):zj 2 (xs.map cRel):=fun r g=>by
 obtain⟨n,_,rfl⟩:=qp.1 g;exact⟨rfl,rfl⟩
def OwnF(lo:Nat)(mu:Mu)(sz:Nat)(av:AV)(xs:List (List AV)):Prop:=Own mu sz av xs/\(∀ b s o l,av = .sl b s o l->lo<=b)/\lo<=mu.length
theorem OwnF.one(h:OwnF lo mu sz av xs):av.one=true:=by
 rcases h.1 with rfl|⟨b,rfl,_⟩<;>rfl
theorem OwnF.cells(h:OwnF lo mu sz av xs):av.cells=[av]:=by
 rcases h.1 with rfl|⟨b,rfl,_⟩<;>rfl
theorem OwnF.nil(h:lo<=mu.length):OwnF lo mu sz (.lst true []) []:=⟨.inl rfl,fun _ _ _ _ e=>by simp at e,h⟩
theorem OwnF.set{c:Cell}(h:OwnF lo mu sz av xs)(p:i<lo):OwnF lo (mu.set i c) sz av xs:=by
 obtain⟨j,g,l⟩:=h;refine⟨?_,g,by simpa using l⟩;rcases j with rfl|⟨b,rfl,o⟩
 .exact .inl rfl
 .have:=g _ _ _ _ rfl
  exact .inr ⟨b,rfl,by rw[zo (by omega)];exact o⟩
theorem jb.ownF{j:Nat}{zv:AV}(hs:qC P t=some (e,sz,bt))(p:(qC P j).isSome=true)(hz:qB P e=some zv)
  (r:zv.cells.length=sz) (C:zv.cells.all AV.one=true) (I:sz≠0) (hb:bt<=16384) (J:OwnF lo mu sz s xs) (hx:qM mu x=some ys) (wx:zj sz xs) (wy:zj sz ys) (hl:xs.length+ys.length<=4294967296)
  (k:∀ av g,OwnF lo g sz av (xs++ys)->(∀ i,i<lo->g[i]?=mu[i]?)->K av g):jb P mu #[t,j] s x K:=by
 obtain⟨J,R,T⟩:=J;refine⟨t,j,e,sz,bt,ys,rfl,hs,p,⟨zv,hz,r,C⟩,I,hb,hx,wy,?_⟩;rcases J with rfl|⟨b,rfl,hc⟩
 .refine .inl ⟨xs,rfl,wx,hl,fun h=>?_,fun h=>?_⟩
  .subst h
   exact k _ _ ⟨.inl (by simp),fun _ _ _ _ e=>by simp at e,T⟩ (fun _ _=>rfl)
  .refine k _ _ ⟨.inr ⟨mu.length,by simp,by simp⟩,fun b s o l e=>?_,by simp;omega⟩ (fun i hi=>?_)
   .injection e;omega
   .rw [qx (by omega)]
 .have a0:=zZ wx.ok
  have a1:=R _ _ _ _ rfl;refine .inr ⟨b,xs.length,xs.flatten,rfl,hc,by omega,hl,?_⟩;have U:xs.flatten.take (xs.length*sz)=xs.flatten:=zN (by omega);refine k _ _ ⟨.inr ⟨mu.length,by simp,?_⟩,fun b s o l e=>?_,by simp;omega⟩ (fun i hi=>?_)
  .rw [U,qV (by simp)];simp
  .injection e;omega
  .rw [qx (by simp;omega)]
   rw[zo (by omega)]
theorem qD.ownF{r:Nat}{zv:AV}(C:qC P t=some (e,sz,bt))(g:(qC P r).isSome=true)(I:qB P e=some zv)
  (j:zv.cells.length=sz) (o:zv.cells.all AV.one=true) (p:sz≠0) (J:bt<=16384) (R:OwnF lo mu sz s xs) (T:qM mu x=some ys) (U:zj sz xs) (wy:zj sz ys) (hl:xs.length+ys.length<=4294967296)
  (k:∀ av l,OwnF lo l sz av (xs++ys)->(∀ i,i<lo->l[i]?=mu[i]?)->K av l):qD P mu #[t,r] s x K:=
 .inl (jb.ownF C g I j o p J R T U wy hl k)
theorem qD.ints{j:Nat}{xs ys:List Int}{z:Int}(o:qC P t=some (e,1,bt))(g:(qC P j).isSome=true)(p:qB P e=some (aI z))
  (r:bt<=16384) (C:OwnF lo mu 1 s (xs.map rI)) (I:qM mu x=some (ys.map rI)) (J:xs.length+ys.length<=4294967296)
  (k:∀ av l,OwnF lo l 1 av ((xs++ys).map rI)->(∀ i,i<lo->l[i]?=mu[i]?)->K av l):qD P mu #[t,j] s x K:=
 qD.ownF o g p rfl rfl (by omega) r C I (zX _) (zX _) (by simpa using J) (fun av l R T=>k av l (by rw[zg];exact R) T)
theorem qc9{low g l:Mu}(o:low.length=lo)(p:lo<=l.length)(h:∀ i,i<lo->l[i]?=(low++g)[i]?):l=low++l.drop lo:=by
 have:l.take lo=low:=by
  apply jy;intro i;by_cases j:i<lo
  .rw [List.getElem?_take_of_lt j,h i j,qx (by omega)]
  .rw [yF (by simp;omega),yF (by omega)]
 rw[<-this,u3]
theorem qD.intsL{low g:Mu}{p:Nat}{xs ys:List Int}{z:Int}(r:qC P t=some (e,1,bt))(j:(qC P p).isSome=true)(C:qB P e=some (aI z))
  (I:bt<=16384) (J:OwnF low.length (low++g) 1 s (xs.map rI)) (R:qM (low++g) x=some (ys.map rI)) (T:xs.length+ys.length<=4294967296)
  (k:∀ av i,OwnF low.length (low++i) 1 av ((xs++ys).map rI)->K av (low++i)):qD P (low++g) #[t,p] s x K:=
 qD.ints r j C I J R T fun av l o U=>by
  have:=qc9 rfl o.2.2 U;rw[this]at o⊢;exact k _ _ o
theorem OwnF.low{low low' g:Mu}(h:OwnF low.length (low++g) sz av xs)(i:low'.length=low.length):OwnF low'.length (low'++g) sz av xs:=by
 obtain⟨o,j,_⟩:=h;refine⟨?_,by rw[i];exact j,by simp⟩;rcases o with rfl|⟨b,rfl,l⟩
 .exact .inl rfl
 .have:=j _ _ _ _ rfl
  refine .inr ⟨b,rfl,?_⟩;rw[qV (by omega)]at l⊢;rw[i];exact l
theorem OwnF.rdI{xs:List Int}(h:OwnF lo mu 1 av (xs.map rI)):Rd mu av (lI xs):=
 h.1.rd (zX xs).ok fun r i c g=>by
  obtain⟨n,_,rfl⟩:=qp.1 i;simp at g;subst g;exact HF.sc _
theorem Rd.rel{r:Rl}(h:Rd mu av (lI r.ts)):Rd mu (.agg [aI r.ar,av]) (eRel r):=by
 refine .agg _ _ rfl (fun k x y g i=>?_)
 match k with
 | 0=>simp at g i;subst g;subst i;exact .hf _ (HF.sc _)
 | 1=>simp at g i;subst g;subst i;exact h
 |k+2=>simp at g
theorem ki(b:Nat)(mu:Mu):(cutM (fun j=>j == b) mu 0)[b]?=mu[b]?:=by
 rw[jK];cases mu[b]?<;>simp
theorem kj{b:Nat}(h:i≠b)(mu:Mu):(cutM (fun j=>!(j == b)) mu 0)[i]?=mu[i]?:=by
 rw[jK];cases mu[i]?<;>simp[h]
theorem FzQ.own{d:Nat}{st:St}(o:st.tm d=av)(g:OwnF lo st.mu sz av xs)(wf:zj sz xs)(hf:∀ r,r∈xs->∀ c,c∈r->HF c)
  (k:∀ l full,l.length=st.mu.length->(∀ j,j<lo->l[j]?=st.mu[j]?)->Q (.exit i) (st.put (some d) (.lst full xs) l)):FzQ Q (.exit i) st:=by
 rcases g.1 with h|⟨b,h,p⟩
 .refine FzQ.one (b:=st.mu.length) (d:=d) (x := .lst true xs) ?_ (k _ _ (uu _ _ _) fun j t=>kj (by have:=g.2.2;omega) _)
  rw[o,h];exact .hf _ (HF.lst hf)
 .refine FzQ.one (b:=b) (d:=d) (x := .lst false xs) ?_ (k _ _ (uu _ _ _) fun j t=>kj (by have:=g.2.1 _ _ _ _ h;omega) _)
  rw[o];exact Own.rd (.inr ⟨b,h,by rw[ki];exact p⟩) wf.ok hf
def allN(p:Nat->Bool):Nat->Bool
 | 0=>true
 |n+1=>allN p n&&p n
theorem UP{p:Nat->Bool}{n:Nat}:allN p n=true↔∀ i,i<n->p i=true:=by
 induction n with
 |zero=>simp[allN]
 |succ n l =>
  simp only[allN,qr,l];refine⟨fun h i j=>?_,fun h=>⟨fun i j=>h i (by omega),h n (by omega)⟩⟩;rcases Nat.lt_succ_iff_lt_or_eq.1 j with g|g
  .exact h.1 i g
  .subst g;exact h.2
theorem qdA{p:Nat->Bool}{n k:Nat}(g:k<n)(h:p k=false):allN p n=false:=by
 rw[<-Bool.not_eq_true,UP];intro i;have:=i k g;simp[h]at this
def gI(xs:List Int)(i:Nat):Int:=(xs[i]?).getD 0
theorem v6{xs:List Int}(h:i<xs.length):gI xs i=xs[i]:=by simp[gI,h]
def sumI(xs:List Int):Int:=xs.foldr (·+·) 0
theorem qdB(a b:List Int):sumI (a++b)=sumI a+sumI b:=by
 induction a with
 |nil=>simp[sumI]
 |cons x a g=>simp only[sumI,yD,List.foldr_cons]at *;omega
theorem uG(l:List Int)(k:Nat)(h:k<l.length):sumI (l.take (k+1))=sumI (l.take k)+l[k]:=by
 rw[List.take_add_one,qz h,qdB];simp[sumI]
theorem qdC(l:List Int)(m:Int)(h:∀ a,a∈l->0<=a/\a<=m):0<=sumI l/\sumI l<=m*l.length:=by
 induction l with
 |nil=>simp[sumI]
 |cons x l g =>
  have j:=h x (by simp);have o:=g (fun a i=>h a (by simp[i]));simp only[sumI,List.foldr_cons,zu]at *
  have:m*((l.length+1:Nat):Int)=m*l.length+m:=by rw[Int.natCast_succ,Int.mul_add];simp
  omega
def GSc(s:Sc):Prop:=s.atoms.length<=4/\∀ a,a∈s.atoms->0<=a/\a<=5
theorem GSc.sum{s:Sc}(h:GSc s)(k:Nat):0<=sumI (s.atoms.take k)/\sumI (s.atoms.take k)<=20:=by
 have:=qdC (s.atoms.take k) 5 (fun a g=>h.2 a (List.mem_of_mem_take g));have i:=h.1;have j:=List.length_take_le k s.atoms;simp only[vK]at *
 omega
end
end Go.Ev
namespace Go.Ev
open Go Go.RowKit
section
variable {es:List (AV×AV)}
theorem PIx.of_mem{C:Type}{es i:List C}(t:es.Nodup)(I:i.Nodup)(h:∀ x,x∈i↔x∈es):∃ T U,PIx T U es i:=by
 have l:i.length=es.length:=((List.perm_ext_iff_of_nodup I t).2 h).length_eq;have f:∀ k,∃ j,k<es.length->j<es.length/\i[j]?=es[k]?:=by
  intro k;by_cases o:k<es.length
  .obtain ⟨j,p⟩:=List.mem_iff_getElem?.1 ((h es[k]).2 (by simp))
   exact⟨j,fun _=>⟨by have:=(qj.1 p).1;omega,by rw[p];simp[o]⟩⟩
  .exact ⟨0,fun h=>absurd h o⟩
 have g:∀ j,∃ k,j<es.length->k<es.length/\es[k]?=i[j]?:=by
  intro j;by_cases p:j<es.length
  .have r:j<i.length:=by omega
   obtain⟨k,o⟩:=List.mem_iff_getElem?.1 ((h i[j]).1 (by simp));exact⟨k,fun _=>⟨(qj.1 o).1,by rw[o];simp[r]⟩⟩
  .exact ⟨0,fun h=>absurd h p⟩
 refine⟨fun k=>Classical.choose (f k),fun k=>Classical.choose (g k),l,fun k o=>?_⟩;obtain⟨J,P⟩:=Classical.choose_spec (f k) o;obtain⟨R,b2⟩:=Classical.choose_spec (g k) o;obtain⟨c1,c2⟩:=Classical.choose_spec (g (Classical.choose (f k))) J;obtain⟨d1,d2⟩:=Classical.choose_spec (f (Classical.choose (g k))) R;refine⟨J,R,?_,?_,P⟩
 .exact (List.getElem?_inj c1 t).1 (c2.trans P)
 .exact (List.getElem?_inj (by rw[l];exact d1) I).1 (d2.trans b2)
theorem kl(h:(es.map Prod.fst).Nodup):es.Nodup:=(List.pairwise_map.1 h).imp (fun g e=>g (by rw[e]))
theorem Rd.mps{mu:Mu}{b:Nat}{fs:List (AV×AV)}(l:mu[b]?=some (.mp es))(o:(es.map Prod.fst).Nodup)(j:(fs.map Prod.fst).Nodup)(p:∀ x,x∈es↔x∈fs)(hf:∀ x,x∈es->HF x.1/\HF x.2):Rd mu (.mp b) (.ims fs):=by
 obtain⟨r,t,C⟩:=PIx.of_mem (kl j) (kl o) p;refine .ims _ fs es r t C j (.mp b es es l rfl (fun k x y g i=>?_) (fun k x y g i=>?_))
 .rw [g]at i;cases i;exact .hf _ (hf x (q9 g)).1
 .rw [g]at i;cases i;exact .hf _ (hf x (q9 g)).2
end
end Go.Ev
namespace Go.Ev
open Go Go.RowKit
section
variable {R:AEnd->Mu->Prop}{args:List AV}{pl:Pol}{P:qb}
def MRel(G:Gh)(h:Array Obj):Option AV->FrameMode->Prop
 |none,u=>u = .returning
 |some x,u=>∃ v,u = .panicking [{ v,recovered:=false }]/\VRel G h x v
def jp(P:qb)(g:j1)(args:List AV)(mu:Mu)(m:Option AV)(R:Mu->Prop):Prop:=ym P g /\
 ∀(G:Gh) (w:qh) (i:Array zS) (u:FrameMode),Sim G mu w.heap->zC G w.heap args i->MRel G w.heap m u ->
  CallsDIn Fence.wide 0 P g i u w fun e j o=>∃ v p l,e = .returned v/\settle j = .returning/\Stp G mu w p l o/\R l
def UQ(P:qb)(j:List ResultVar)(g:j1)(i:List AV)(R:AEnd->Mu->Prop):qQ->St->Prop
 | .normal,st | .ret,st=>jp P g i st.mu none fun l=>OptK (yX P ⟨st.tm,l⟩ j) fun r=>R (.ret r) l
 | .pan v,st=>jp P g i st.mu (some v) fun l=>OptK (yX P ⟨st.tm,l⟩ j) fun r=>R (.ret r) l
 | .exit _,_=>False
def wU(ops:Array us):Option (List us×us):=
 match ops.toList.reverse with
 |o :: r=>match o.op,o.guard,o.dst with | .defer _,none,none=>some (r.reverse,o)|_,_,_=>none
 | []=>none
theorem qdD{ops:Array us}{pre:List us}{o:us}(h:wU ops=some (pre,o)):ops.toList=pre++[o]/\o.guard=none/\o.dst=none:=by
 unfold wU at h;split at h
 .rename_i l r g
  split at h
  .rename_i c p i j
   simp only[qo,Prod.mk.injEq]at h;obtain⟨rfl,rfl⟩:=h;refine⟨?_,i,j⟩;have:=congrArg List.reverse g;simpa using this
  .exact absurd h (by simp)
 .exact absurd h (by simp)
def wV(P:qb)(pl:Pol)(r:List ResultVar)(R:AEnd->Mu->Prop)(o:us)(l:j3)(st:St):Prop:=
 ∃ x args p g first i,o.op = .defer { callee := .value x,args,argTypes:=p }/\st.ev x = .fn (.func g) first i/\ym P g/\awp P pl l (UQ P r g (first++evs st.ev args.toList++i) R) st
def awpD(P:qb)(pl:Pol)(j:List ResultVar)(R:AEnd->Mu->Prop):j3->St->Prop
 | .seq (.region _ g false) i,st=>match wU g with
  |some (pre,o)=>awpS P pl false g pre (fun st=>wV P pl j R o i st) (fun v st=>R (.pan v) st.mu) st
  |none=>awpS P pl false g g.toList (fun st=>awpD P pl j R i st) (fun v st=>R (.pan v) st.mu) st
 |_,_=>False
def Ro.bare:Ro:=⟨none,[],false,[]⟩
theorem Rel.bare{i:Gh}{g:Mu}{j:qh}{n:Nat}{G:Gh}{st:St}{a:Act}{w:qh}(r:Rel Ro.bare i g j n G st a w):a.defers=[]:=by
 obtain⟨l,⟨o,p⟩,_⟩:=r.df rfl;have:l=[]:=p rfl;subst this;simpa[Ro.bare] using o
def REnd(G : Gh)(mu : Mu)(w : qh)(R : AEnd->Mu->Prop)(e : Ending)(w' : qh) : Prop := ∃ i l, Stp G mu w i l w' /\
      ((∃ r v,R (.ret r) l/\e = .returned v/\VRel i w'.heap r v)\/(∃ r v,R (.pan r) l/\e = .panicked [{ v,recovered:=false }]/\VRel i w'.heap r v))
theorem qdE{fn:Func}{G0:Gh}{I:Mu}{w0:qh}(s0:Sim G0 I w0.heap):∀(c:j3) (st:St) (a:Act) (w:qh) (G:Gh),Rel Ro.bare G0 I w0 fn.ntmps G st a w ->
  dOkC fn.ntmps c=true->awpD P pl fn.results.toList R c st->c.wpIn (WF Ro.bare) 0 P (bodyPostM Fence.wide 0 P fn (REnd G0 I w0 R)) a w:=by
 intro c;induction c with
 |seq x y _ ih =>
  intro st a w G r hd h;cases x with
  |region id a2 a7 =>
   cases a7 with
   |true=>exact h.elim
   |false =>
    simp only[dOkC,qr]at hd;have T:(a2.toList.all fun o=>dOk fn.ntmps o.dst)=true:=hd.1;have a0:∀ v (st:St) a w G u,R (.pan v) st.mu->Rel Ro.bare G0 I w0 fn.ntmps G st a w->VRel G w.heap v u->LeavesInM Fence.wide 0 P fn a.tmps (REnd G0 I w0 R) a.defers (.panicking [{ v:=u,recovered:=false }]) w:=by
     intro v st a w G u C r J;rw[r.bare];exact⟨G,st.mu,r.stp,.inr ⟨v,u,C,rfl,J⟩⟩
    cases hl:wU a2 with
    |none =>
     simp only[awpD,hl]at h;refine wpIn_seq (wpIn_region_list ?_);refine Ul s0 ?_ ?_ a2.toList st a w G r T h
     .intro st a w G C r
      exact ih st a w G r hd.2 C
     .intro v st a w G u C r J
      exact a0 v st a w G u C r J
    |some q =>
     obtain⟨pre,o⟩:=q;simp only[awpD,hl]at h;obtain⟨ho,hg,a1⟩:=qdD hl;refine wpIn_seq (wpIn_region_list ?_);rw[ho]at T⊢;rw[List.all_append,qr]at T;refine KC s0 ?_ ?_ pre st a w G r T.1 h
     .intro st a w G C r
      obtain⟨xo,args,ah,g,first,a8,a9,hx,aa,a4⟩:=C;obtain⟨od,aq,ai,ab,aj,ar⟩:=o;simp only at a9 hg a1;subst a9;subst hg;subst a1;simp only[wpListIn,Region.wanted,if_true];have rf:=r.ev xo;rw[hx]at rf;generalize C:a.eval xo=fv at rf;cases rf with
      |fn _ _ _ a5 U hn hm J hw =>
      have ra:=zC.append3 ⟨hn,J⟩ (uz r.ev args) ⟨hm,hw⟩;have ad:((({ dst:=none,op := .defer { callee := .value xo,args,argTypes:=ah },type:=ai,pos:=ab,after:=aj,guard:=none }:us).semAt (WF Ro.bare).round a.eval).run P w) =
        .ok (.defer { target := .fn (.func g) U,args:=a5++args.map a.eval }) w:=by
       rw[show (WF Ro.bare).round=none from rfl,Oper.semAt_none];simp only[execOp,resolve,Sem.run_bind,Sem.run_pure,Result.andThen_ok,C,Deferred.ofValue]
      refine⟨fun _ _=>trivial,?_⟩;rw[ad,Oper.uponIn_defer];rw[r.bare]
      let d:Deferred:={ target := .fn (.func g) U,args:=a5++args.map a.eval }
      let t:=first++evs st.ev args.toList++a8
      let j:=a5++args.map a.eval++U
      let ro:Ro:=⟨none,[d],true,t.zip j.toList⟩
      have af:∀{G:Gh} {h:Array Obj},(∀ p,p∈ro.kp->VRel G h p.1 p.2)↔zC G h t j:=by
       intro G h;constructor
       .intro hk
        refine⟨ra.1,fun k x hx=>?_⟩;have ak:k<j.size:=by rw[ra.1];exact(qj.1 hx).1
        have J:j.toList[k]?=some (j.getD k j2):=by simp[qF,ak]
        have:(x,j.getD k j2)∈t.zip j.toList:=q9 (i:=k) (by rw[List.getElem?_zip_eq_some];exact⟨hx,J⟩);exact hk _ this
       .intro ha p hp
        obtain⟨k,hk⟩:=List.mem_iff_getElem?.1 hp;rw[List.getElem?_zip_eq_some]at hk;have:=ha.2 k p.1 hk.1;have e:j.getD k j2=p.2:=by
         have h2:=hk.2;rw[Array.getElem?_toList]at h2;simp[qF,h2]
        rwa[e]at this
      show y.wpIn (WF Ro.bare) 0 P _ _ _;refine Uz (pl:=pl) (n:=fn.ntmps) y (ro:=ro) s0 _ _ st _ w G ?_ ⟨r.tm,fun _=>Dfs.nil _ _ _ _ _ _,r.size,r.stp,af.2 ra⟩ hd.2 (.inl ⟨rfl,rfl⟩) a4;intro ae e st a w' G' C r he;obtain⟨Ds,g1,g2,g3,r',al⟩:=r.left rfl;have key:∀(m:Option AV) (u:FrameMode),u ≠ .run->MRel G' (vS Ds w').heap m u->jp P g t st.mu m (fun l=>OptK (yX P ⟨st.tm,l⟩ fn.results.toList) fun r=>R (.ret r) l) ->
        LeavesInM Fence.wide 0 P fn a.tmps (REnd G0 I w0 R) a.defers u w':=by
       intro m u hu hm hs;rw[g1];refine Uk hu Ds w' g2 g3 ?_;refine⟨hu,.inr ⟨fun h=>by simp[Fence.wide]at h,.func g,U,g,j,rfl,?_,fun _ _=>trivial,?_⟩⟩
       .simp only[invoke,d]
        exact aa _ _
       .refine (hs.2 G' (vS Ds w') j u r'.stp.sim (af.1 r'.kp) hm).mono ?_
        intro e u' av ⟨v,G2,an,he,ag,ao,z,hz,hR⟩;subst he;simp only;rw[ag];have r2:=r'.put (d:=none) s0 ao (.any j2) rfl;obtain⟨u2,k1,k2⟩:=ZV (fn:=fn) r2 hz;exact⟨u2,k1,G2,an,r2.stp,.inl ⟨z,u2,hR,rfl,k2⟩⟩
      cases ae<;>cases e<;>simp only[ERel]at he
      .exact key none .returning (by simp) rfl C
      .exact C.elim
      .exact key none .returning (by simp) rfl C
      .obtain ⟨v,rfl,J⟩:=he
       exact key (some _) (.panicking _) (by simp) ⟨v,rfl,al _ _ J⟩ C
     .intro v st a w G u C r J
      exact a0 v st a w G u C r J
  |_=>exact h.elim
 |_=>intro st a w G r hd h;exact h.elim
theorem qP.of_awpD{f:j1}{fn:Func}{c:j3}{mu:Mu}(g:ym P f)(hf:P.funcs[f]?=some fn)(i:fn.body=some c)
  (j:args.length<=fn.ntmps) (l:dOkC fn.ntmps c=true) (h:awpD P pl fn.results.toList R c (st0 args mu)):qP P f args mu R:=by
 refine⟨g,fun G w p s o=>?_⟩;refine(callsIn_wide (n:=0)).1 (callsIn_of_wp_marks hf i trivial ?_);refine qdE (pl:=pl) s c (st0 args mu) _ w G ?_ l h;exact Rel.start s o j
theorem jp.of_awp{f:j1}{fn:Func}{id:Nat}{o:us}{g:j3}{mu:Mu}{m:Option AV}{R:Mu->Prop}(U:ym P f)(hf:P.funcs[f]?=some fn)
  (hb:fn.body=some (.seq (.region id #[o] false) g)) (ho:∃ d ty pos a5,o={ dst:=d,op := .call { callee := .builtin .recover,args:=#[],argTypes:=a5 },type:=ty,pos:=pos,after:=#[],guard:=none })
  (hn:args.length<=fn.ntmps) (hd:dOkC fn.ntmps (.seq (.region id #[o] false) g)=true) (hr:noRF g=true)
  (h:awp P pl g (wP P fn.results.toList fun e l=>∃ r,e = .ret r/\R l) ((st0 args mu).put o.dst (m.getD (.sc .nilIface)) mu)):jp P f args mu m R:=by
 obtain⟨od,a7,a0,a1,rfl⟩:=ho;refine⟨U,fun G w vs u s ra hm=>?_⟩;refine callsDIn_of_wpSIn hf hb trivial fun i cs hc=>?_
 have r0:Rel Ro.bare G mu w fn.ntmps G (st0 args mu) { tmps:=vs++Array.replicate (fn.ntmps-vs.size) j2,defers:=[] } w:=Rel.start s ra hn;simp only[dOkC,qr]at hd;have a8:dOk fn.ntmps od=true:=by have:=hd.1;simpa using this
 refine wpSIn_seq (wpSIn_region ?_);have go:∀(J:List Frame) (v:zS) (T:FrameMode),J={ i with mode:=T } :: cs->settle T = .returning->VRel G w.heap (m.getD (.sc .nilIface)) v ->
   g.wpSIn Fence.wide 0 P (bodyPostS P fn i cs fun e T w'=>∃ v G' l,e = .returned v/\settle T = .returning/\Stp G mu w G' l w'/\R l)
    (({ tmps:=vs++Array.replicate (fn.ntmps-vs.size) j2,defers:=[] }:Act).put od v) J w:=by
  intro J v T a4 I hv;refine wpSIn_of_wpIn rfl ?_;refine Uz (pl:=pl) (n:=fn.ntmps) g (ro:=Ro.bare) s _ _ _ _ w G ?_ (r0.put s (Stp.refl s) hv a8) hd.2 (.inr hr) h;intro ae e st a w' G' hq r he;cases ae<;>cases e<;>simp only[ERel]at he
  .obtain ⟨z,hz,z',_,hR⟩:=hq
   obtain⟨u2,k1,k2⟩:=ZV (fn:=fn) r hz;exact⟨r.bare,T,a4,u2,k1,u2,G',st.mu,rfl,I,r.stp,hR⟩
  .exact hq.elim
  .obtain ⟨z,hz,z',_,hR⟩:=hq
   obtain⟨u2,k1,k2⟩:=ZV (fn:=fn) r hz;exact⟨r.bare,T,a4,u2,k1,u2,G',st.mu,rfl,I,r.stp,hR⟩
  .obtain ⟨z,hz,_⟩:=hq
   exact absurd hz (by simp)
 have a9:∀ ev:zT->zS,(execOp ev { dst:=od,op := .call { callee := .builtin .recover,args:=#[],argTypes:=a1 },type:=a7,pos:=a0,after:=#[],guard:=none }).run P w = .ok .recover w:=by
  intro ev;simp[execOp,resolve,invoke,builtin]
 simp only[List.size_toArray,zu,List.length_nil,qt,qt.loop,wpOpsSIn];refine⟨fun _ _=>trivial,?_⟩;simp only[Region.wanted];cases m with
 |none =>
  have hu:u = .returning:=hm;have t:recoverD (i :: cs)=none:=by simp[recoverD,hc,hu]
  rw[t];exact go _ .nilIface .returning (by rw[<-hu,<-hc]) rfl (.sc _ rfl)
 |some x =>
  obtain⟨v,hu,hv⟩:=hm;have t:recoverD (i :: cs)=some (v,{ i with mode := .panicking [{ v,recovered:=true }] } :: cs):=by simp[recoverD,hc,hu]
  rw[t];exact go _ v (.panicking [{ v,recovered:=true }]) rfl rfl hv
end
end Go.Ev
namespace Go.Ev
open Go Go.RowKit
section
variable {R:AEnd->Mu->Prop}{ops:Array us}{f g:j1}{args:List AV}{i:List ResultVar}{mu:Mu}{pl:Pol}{P:qb}
def EndR(G:Gh)(h:Array Obj):AEnd->Ending->Prop
 | .ret r,e=>∃ v,e = .returned v/\VRel G h r v
 | .pan r,e=>∃ v,e = .panicked [{ v,recovered:=false }]/\VRel G h r v
def JQ(P:qb)(f:j1)(args:List AV)(V:AEnd->Prop):Prop:=ym P f /\
 ∀(i:Nat->Prop) (w:qh) (l:Array zS),Sim ⟨i,[]⟩ [] w.heap->zC ⟨i,[]⟩ w.heap args l ->
  Calls P f l w fun e j=>∃ g a,V a/\EndR ⟨g,[]⟩ j.heap a e/\(∀ b,i b->g b)/\(∀ b,g b->b<j.heap.size/\(i b\/w.heap.size<=b))/\ZJ w.heap.size w j
abbrev UR(P:qb)(f:j1)(args:List AV)(e:AEnd):Prop:=JQ P f args (·=e)
theorem UR.toP{r:AV}(h:UR P f args (.ret r)):qe P f args r:=by
 refine⟨h.1,fun i w l o p=>(h.2 i w l o p).mono fun e T ⟨g,a,j,t,C,I,J⟩=>?_⟩;subst j;obtain⟨v,R,j⟩:=t;exact⟨g,v,R,C,I,J,j⟩
def RdE(mu:Mu):AEnd->AEnd->Prop
 | .ret x,.ret y=>Rd mu x y
 | .pan x,.pan y=>Rd mu x y
 |_,_=>False
theorem JQ.of_sound{V:AEnd->Prop}(h:qP P f args [] fun e l=>∃ C,V C/\RdE l e C):JQ P f args V:=by
 obtain⟨I,h⟩:=h;refine⟨I,fun p w vs hi ra=>?_⟩;refine(h ⟨p,[]⟩ w vs hi ra).mono fun e R ⟨T,l,st,hR⟩=>?_
 have g:∀ b,¬Live ⟨p,[]⟩ [] b:=fun b ⟨i,c,t,hc,_⟩=>by simp at hc
 have fin:∀ a,V a->EndR ⟨fun b=>T.imm b\/Live T l b,[]⟩ R.heap a e->∃ j a,V a/\EndR ⟨j,[]⟩ R.heap a e/\(∀ b,p b->j b)/\(∀ b,j b->b<R.heap.size/\(p b\/w.heap.size<=b))/\ZJ w.heap.size w R:=by
  intro a J hr;refine⟨fun b=>T.imm b\/Live T l b,a,J,hr,fun b r => .inl (st.le.imm b r),fun b r=>?_,⟨st.os,st.tape,st.output,st.size,fun k hk=>st.keep k hk (g k)⟩,st.drawn⟩;rcases r with r|r
  .refine ⟨st.sim.imm b r,?_⟩
   rcases st.inew b r with h|h|h
   .exact .inl h
   .exact absurd h (g b)
   .exact .inr h
  .refine ⟨st.sim.livesize r,?_⟩
   rcases st.live b r with h|h
   .exact absurd h (g b)
   .exact .inr h
 rcases hR with ⟨r',v,⟨C,J,o⟩,rfl,U⟩|⟨r',v,⟨C,J,o⟩,rfl,U⟩
 .cases C with
  |ret y=>exact fin _ J ⟨v,rfl,o.sound st.sim U⟩
  |pan y=>exact o.elim
 .cases C with
  |ret y=>exact o.elim
  |pan y=>exact fin _ J ⟨v,rfl,o.sound st.sim U⟩
@[go_sem] theorem RdE_ret(mu:Mu)(x y:AV):RdE mu (.ret x) (.ret y)=Rd mu x y:=eqS rfl
theorem qd.eff0{K i:AV->Mu->Prop}(j:qP P g args mu R)(k:∀ r m,R (.ret r) m->K r m)(kp:∀ r m,R (.pan r) m->i r m) :
  qd P false mu (.fn (.func g) [] []) args K i:=
 .inr ⟨rfl,.inl ⟨g,[],[],R,rfl,by simpa using j,k,kp⟩⟩
theorem qP.hid{i:Nat}{c:Cell}(C:mu[i]?=some c)(I:c ≠ .dead)(h:qP P f args (mu.set i .dead) R) :
  qP P f args mu fun e m=>∃ g,R e g/\g[i]?=some .dead/\m=g.set i c:=by
 refine⟨h.1,fun G w J s T=>?_⟩;have j:i<G.blk.length:=by rw[s.len];exact(qj.1 C).1
 refine(h.2 G w J (s.hid i) T).mono fun e w' ⟨U,g,t,hR⟩=>?_
 obtain⟨g1,g2,g3⟩:=t.unhid s C I (b:=(G.blk[i]'j).1) (t:=(G.blk[i]'j).2) (by simp[j]);refine⟨U,g.set i c,g3,?_⟩;rcases hR with ⟨r,v,l,o,p⟩|⟨r,v,l,o,p⟩
 .exact .inl ⟨r,v,⟨g,l,g1,rfl⟩,o,p⟩
 .exact .inr ⟨r,v,⟨g,l,g1,rfl⟩,o,p⟩
theorem qP.monoR{R':AEnd->Mu->Prop}(h:qP P f args mu R)(k:∀ e m,R e m->R' e m):qP P f args mu R':=by
 refine⟨h.1,fun G w l s o=>(h.2 G w l s o).mono fun e J ⟨p,C,t,I⟩=>⟨p,C,t,?_⟩⟩;rcases I with ⟨r,v,g,i,j⟩|⟨r,v,g,i,j⟩
 .exact .inl ⟨r,v,k _ _ g,i,j⟩
 .exact .inr ⟨r,v,k _ _ g,i,j⟩
attribute [go_sem] wU
def JR(P:qb)(pl:Pol)(i:List ResultVar)(R:AEnd->Mu->Prop)(ops:Array us)(g:j3)(st:St):Option (List us×us)->Prop
 |some (pre,o)=>awpS P pl false ops pre (fun st=>wV P pl i R o g st) (fun v st=>R (.pan v) st.mu) st
 |none=>awpS P pl false ops ops.toList (fun st=>awpD P pl i R g st) (fun v st=>R (.pan v) st.mu) st
@[go_sem ↓] theorem awpD_seq{id:Nat}{g:j3}{st:St} :
  awpD P pl i R (.seq (.region id ops false) g) st=JR P pl i R ops g st (wU ops):=by
 cases h:wU ops<;>simp only[awpD,JR,h]
@[go_sem] theorem qnI{g:j3}{st:St}{pre:List us}{o:us} :
  JR P pl i R ops g st (some (pre,o))=awpS P pl false ops pre (fun st=>wV P pl i R o g st) (fun v st=>R (.pan v) st.mu) st:=eqS rfl
@[go_sem] theorem qnJ{g:j3}{st:St} :
  JR P pl i R ops g st none=awpS P pl false ops ops.toList (fun st=>awpD P pl i R g st) (fun v st=>R (.pan v) st.mu) st:=eqS rfl
theorem wV.intro{p:List ResultVar}{x:zT}{args:Array zT}{l:Array qf}{ty:qf}{pos:String}{r:Array Edge}{t:Option (Nat×Bool)}{d:Option Tmp}{i:j3}{st:St}{first caps:List AV}
  (C:st.ev x = .fn (.func g) first caps) (o:ym P g) (h:awp P pl i (UQ P p g (first++evs st.ev args.toList++caps) R) st) :
  wV P pl p R { dst:=d,op := .defer { callee := .value x,args:=args,argTypes:=l },type:=ty,pos:=pos,after:=r,guard:=t } i st:=
 ⟨x,args,l,g,first,caps,rfl,C,o,h⟩
@[go_sem] theorem PostD_ret{j:List ResultVar}{i:List AV}{st:St}:UQ P j g i R .ret st=jp P g i st.mu none fun l=>OptK (yX P ⟨st.tm,l⟩ j) fun r=>R (.ret r) l:=eqS rfl
theorem jp.mono{m:Option AV}{R R':Mu->Prop}(h:jp P g args mu m R)(k:∀ l,R l->R' l):jp P g args mu m R':=
 ⟨h.1,fun G w i u s j o=>(h.2 G w i u s j o).mono fun e J T ⟨v,p,l,r,t,C,I⟩=>⟨v,p,l,r,t,C,k _ I⟩⟩
@[go_sem] theorem ofV_mnone:ofV (.map none) = .sc (.map none):=eqS rfl
theorem Rd.aggs{xs ys:List AV}(h:Rds mu xs ys):Rd mu (.agg xs) (.agg ys) := .agg _ _ h.get.1 h.get.2
end
end Go.Ev
namespace Go.Proofs.YtpagnklaanbmbaaGreatDoor
open Go Go.Ev Go.Proofs Tryz
namespace Y1
inductive Nd where
 |mk (op:Int) (name:ByteArray) (n:Int) (kids:List Nd) (pos:Int)
def Nd.op:Nd->Int | .mk o _ _ _ _=>o
def Nd.name:Nd->ByteArray | .mk _ s _ _ _=>s
def Nd.n:Nd->Int | .mk _ _ n _ _=>n
def Nd.kids:Nd->List Nd | .mk _ _ _ ks _=>ks
def Nd.pos:Nd->Int | .mk _ _ _ _ p=>p
abbrev aS(s:ByteArray):AV := .sc (.string s)
mutual
def cNd:Nd->List AV
 | .mk op t n ks p=>[aI op,aS t,aI n,.lst false (cNds ks),aI p]
def cNds:List Nd->List (List AV)
 | []=>[]
 |k :: ks=>cNd k :: cNds ks
end
theorem US:∀ ks:List Nd,cNds ks=ks.map cNd
 | []=>by simp[cNds]
 |k :: ks=>by simp[cNds,US ks]
theorem yw(n:Nd):cNd n=[aI n.op,aS n.name,aI n.n,.lst false (n.kids.map cNd),aI n.pos]:=by
 obtain⟨op,t,k,ks,p⟩:=n;simp[cNd,US,Nd.op,Nd.name,Nd.n,Nd.kids,Nd.pos]
@[go_sem] theorem Z3(n:Nd):(cNd n).length=5:=by rw[yw];rfl
@[go_sem] theorem cNd_take(n:Nd):(cNd n).take 5=cNd n:=zN (by rw[Z3];exact qs _)
@[go_sem] theorem JS(n:Nd):(cNd n).all AV.one=true:=by rw[yw];rfl
@[go_sem] theorem qR(n:Nd):(∀ x,x∈cNd n->x.one=true)=True:=eq_true fun x g=>by have:=qH.1 (JS n) x g;simpa using this
@[go_sem] theorem cNd_f0(n:Nd):(cNd n).take 1=[aI n.op]:=by rw[yw];rfl
@[go_sem] theorem cNd_f1t(n:Nd):(cNd n).tail.take 1=[aS n.name]:=by rw[yw];rfl
@[go_sem] theorem cNd_f2(n:Nd):((cNd n).drop 2).take 1=[aI n.n]:=by rw[yw];rfl
@[go_sem] theorem cNd_f3(n:Nd):((cNd n).drop 3).take 1=[.lst false (n.kids.map cNd)]:=by rw[yw];rfl
@[go_sem] theorem kn(n:Nd):((cNd n).drop 4).take 1=[aI n.pos]:=by rw[yw];rfl
@[go_sem high] theorem put_cNd(z:List AV)(o:Nat)(n:Nd):putCells z o (cNd n)=z.take o++(cNd n++z.drop (o+5)):=by
 rw[yw];simp[putCells]
abbrev eNd(n:Nd):AV := .agg (cNd n)
abbrev lNd(ks:List Nd):AV := .lst false (ks.map cNd)
mutual
theorem wW:∀(n:Nd),∀ c,c∈cNd n->HF c
 | .mk op t n ks p=>by
  intro c g;simp only[cNd,qw,qI,or_false]at g;rcases g with rfl|rfl|rfl|rfl|rfl
  .exact HF.sc _
  .exact HF.sc _
  .exact HF.sc _
  .exact HF.lst (UT ks)
  .exact HF.sc _
theorem UT:∀(ks:List Nd),∀ r,r∈cNds ks->∀ c,c∈r->HF c
 | []=>by intro r g;simp[cNds]at g
 |k :: ks=>by
  intro r g;simp only[cNds,qw]at g;rcases g with rfl|g
  .exact wW k
  .exact UT ks r g
end
theorem ze(n:Nd):HF (eNd n):=HF.agg (wW n)
theorem kq(ks:List Nd):HF (lNd ks):=HF.lst (by rw[<-US];exact UT ks)
abbrev JT(e p:Int):AV := .ifc 285 (.agg [aI e,aI p])
theorem qdF(mu:Mu)(b:Nat)(x y:AV)(g:mu[b]?=some (.arr [x,y])):jp qc 216 [.ptr b 0] mu none fun l=>l=mu:=by
 refine jp.of_awp call216 func216 rfl ⟨_,_,_,_,rfl⟩ (yj (by kernel_rfl)) (by kernel_rfl) (by kernel_rfl) (pl:={}) ?_;simp[go_sem]
end Y1
namespace Y2
open Y1
abbrev aT(t:List Int):AV := .agg (t.map fun x => .sc (.int .i8 x))
structure Kd where
 ar:Int
 ts:List (List Int)
abbrev mKd(ts:List (List Int)):AV := .ims (ts.map fun t=>(aT t,aB true))
abbrev cKd(k:Kd):List AV:=[aI k.ar,mKd k.ts]
theorem hf_aT(t:List Int):HF (aT t):=HF.agg fun c g=>by
 obtain⟨x,_,rfl⟩:=qp.1 g;exact HF.sc _
theorem jO{a b:ByteArray}(h:¬a=b):(a.toList == b.toList)=false:=by
 cases g:(a.toList == b.toList) with
 |false=>rfl
 |true=>exact absurd (Ke (by rw[beq_toListBytes];exact g)) h
def aSc:List (ByteArray×Kd)->AV
 | [] => .sc (.pointer none)
 |v :: s => .ip [aS v.1,aI v.2.ar,mKd v.2.ts,aSc s]
def jE(name:ByteArray):List (ByteArray×Kd)->List (ByteArray×Kd)
 | []=>[]
 |v :: s=>if v.1=name then v :: s else jE name s
end Y2
namespace Y3
def pad(l:List Int):List Int:=[l.getD 0 0,l.getD 1 0,l.getD 2 0]
abbrev i8s(l:List Int):List AV:=l.map fun x => .sc (.int .i8 x)
end Y3
namespace Y4
end Y4
namespace P1
open Y1 Y2 Y3
section
abbrev Tp:=List Int
variable {a b:List Tp}
structure Pd where
 name:ByteArray
 params:List (ByteArray×Int)
 body:Nd
structure TS where
 sorts:List (ByteArray×Bool)
 fields:List Fld
 preds:List Pd
 facts:List (ByteArray×Nd)
def ins(l:List Tp)(t:Tp):List Tp:=if t∈l then l else l++[t]
def uni(a b:List Tp):List Tp:=b.foldl ins a
theorem qdG{l:List Tp}{t x:Tp}:x∈ins l t↔x∈l\/x=t:=by
 unfold ins;split
 .exact ⟨.inl,fun h=>h.elim id fun e=>by rw[e];assumption⟩
 .simp
theorem vq{x:Tp}:x∈uni a b↔x∈a\/x∈b:=by
 unfold uni;induction b generalizing a with
 |nil=>simp
 |cons t b g =>
  rw[List.foldl_cons,g,qdG,qw,or_assoc]
theorem qdH{l:List Tp}{t:Tp}(h:l.Nodup):(ins l t).Nodup:=by
 unfold ins;split
 .exact h
 .rename_i i
  rw[List.nodup_append];exact⟨h,by simp,fun x j y g e=>by simp at g;subst g;subst e;exact i j⟩
theorem Z4(h:a.Nodup):(uni a b).Nodup:=by
 unfold uni;induction b generalizing a with
 |nil=>exact h
 |cons t b g=>exact g (qdH h)
def kOf(l:List Int):Kd:=⟨l.length,[pad l]⟩
def kSum(a b:Kd):Kd:=⟨a.ar,uni (uni [] a.ts) b.ts⟩
def conc(x:Tp)(n:Nat)(y:Tp)(m skip:Nat):Tp:=pad (x.take (n-skip)++(y.take m).drop skip)
def pairs(a b:List Tp):List (Tp×Tp):=a.flatMap fun x=>b.map fun y=>(x,y)
theorem Qv{x y:Tp}:(x,y)∈pairs a b↔x∈a/\y∈b:=by
 simp[pairs]
def v7(n m:Nat)(a b:List Tp):List Tp:=uni [] ((pairs a b).filterMap fun q=>if q.1.getD (n-1) 0=q.2.getD 0 0 then some (conc q.1 n q.2 m 1) else none)
def zD(a b:Kd):Kd:=⟨a.ar+b.ar-2,v7 a.ar.toNat b.ar.toNat a.ts b.ts⟩
def uH(n m:Nat)(a b:List Tp):List Tp:=uni [] ((pairs a b).map fun q=>conc q.1 n q.2 m 0)
def v8(a b:Kd):Kd:=⟨a.ar+b.ar,uH a.ar.toNat b.ar.toNat a.ts b.ts⟩
def cloN:Nat->Nat->Kd->Kd
 | 0,_,a=>a
 |f+1,n,a=>if n<a.ts.length then cloN f a.ts.length (kSum a (zD a a)) else a
def kClo(a:Kd):Kd:=cloN 70 0 a
def zx(ns g:Nat):Kd:=⟨g,(qt ns).map fun (i:Nat)=>pad (zt g (i:Int))⟩
def Qw(a b:Kd):Kd:=⟨a.ar,a.ts.filter fun t=>decide (t∈b.ts)⟩
def kTr(a:Kd):Kd:=⟨2,uni [] (a.ts.map fun t=>[t.getD 1 0,t.getD 0 0,0])⟩
def uI:ByteArray:=⟨#[95,102,105,114,115,116]⟩
def uJ:ByteArray:=⟨#[95,110,101,120,116]⟩
def j7(fs:List Fld)(nm:ByteArray):List Kd:=fs.filterMap fun f=>if f.name=nm then some (kOf f.sorts) else none
def wX(i:Nat)(s:ByteArray×Bool)(nm:ByteArray):List Kd:=
 (if s.1=nm then [kOf [(i:Int)]] else [])++((if s.2=true/\s.1++uI=nm then [kOf [(i:Int)]] else [])++(if s.2=true/\s.1++uJ=nm then [kOf [(i:Int),(i:Int)]] else []))
def ua:Nat->List (ByteArray×Bool)->ByteArray->List Kd
 |_,[],_=>[]
 |i,s :: r,t=>wX i s t++ua (i+1) r t
def means(ts:TS)(nm:ByteArray):List Kd:=j7 ts.fields nm++ua 0 ts.sorts nm
structure Ck where
 ts:TS
 calls:Nat
 timed:List Bool
def zf(c:Ck)(nm:ByteArray):Option Nat:=(c.ts.preds.take c.calls).findIdx? fun p=>decide (p.name=nm)
def zQ(op:Int):Bool:=decide (op=5)||decide (op=48)||decide (op=49)||decide (op=50)||decide (op=51)
def zK(c:Ck)(op:Int)(nm:ByteArray):Bool:=zQ op||(decide (op=47)&&(match zf c nm with|some p=>c.timed.getD p false|none=>false))
mutual
def yn(c:Ck):Nd->Bool
 | .mk op t n ks p=>zK c op t||JU c ks
def JU(c:Ck):List Nd->Bool
 | []=>false
 |k :: ks=>yn c k||JU c ks
end
end
def tmsL(ts:TS):Nat->List Bool
 | 0=>[]
 |k+1=>tmsL ts k++(match ts.preds[k]? with|some p=>[yn ⟨ts,k,tmsL ts k⟩ p.body] | none=>[])
def mkCk(ts:TS)(g:Nat):Ck:=⟨ts,g,tmsL ts g⟩
abbrev Scp:=List (ByteArray×Kd)
abbrev Dg:=Int×Int
abbrev Res:=Except Dg (Option Kd)
def yY(c:Ck)(s:Scp)(nm:ByteArray)(pos:Int):Res:=
 match jE nm s with
 |v :: _ => .ok (some v.2)
 | []=>match means c.ts nm with
  | [] => .error (40,pos)
  | [k] => .ok (some k)
  |_ => .error (44,pos)
def ub(op:Int)(a b:Kd):Kd:=if op=6\/op=14 then kSum a b else if op=7 then Qw a b else a
def binK(ns:Nat)(op:Int)(a:Kd):Kd:=if op=12 then kClo a else if op=13 then kSum (kClo a) (zx ns 2) else kTr a
def zL(ns:Nat)(op n pos:Int)(l:List (Option Kd)):Res:=
 if op=2 then .ok (some ⟨n,[]⟩)
 else if op=3 then .ok (some (zx ns 1))
 else if op=4 then .ok (some (zx ns 2))
 else match l with
  | [a]=>if op=5 then .ok a else match a with
   |some a=>if op=11\/op=12\/op=13 then (if a.ar=2 then .ok (some (binK ns op a)) else .error (42,pos)) else .ok none
   |none => .ok none
  | [some a,some b] =>
   if op=6\/op=14\/op=7\/op=8\/op=32\/op=33 then (if a.ar=b.ar then .ok (some (ub op a b)) else .error (42,pos))
   else if op=9 then (if 1<=a.ar+b.ar-2/\a.ar+b.ar-2<=3 then .ok (some (zD a b)) else .error (42,pos))
   else if op=10 then (if a.ar+b.ar<=3 then .ok (some (v8 a b)) else .error (42,pos))
   else .ok none
  |_ => .ok none
def wY(i:Int)(k:Kd):Bool:=k.ts.all fun t=>decide (t.getD 0 0=i)
mutual
def exam(c:Ck)(s:Scp)(inn:Bool):Nd->Res
 | .mk op t n ks pos =>
  if (inn&&zK c op t)=true then .error (46,pos)
  else if op=1 then yY c s t pos
  else if op=47 then
   if (c.ts.preds.any fun p=>decide (p.name=t))=true then
    match zf c t with
    |none => .error (45,pos)
    |some p=>match c.ts.preds[p]? with
     |none => .error (45,pos)
     |some g=>if g.params.length=ks.length then ya c s pos g.params ks else .error (45,pos)
   else .error (40,pos)
  else if op=15\/op=45\/op=46 then zM c s (inn||decide (op=15)) t pos ks
  else match qS c s (inn||decide (op=12)||decide (op=13)) ks with
   | .error e => .error e
   | .ok l=>zL c.ts.sorts.length op n pos l
def qS(c:Ck)(s:Scp)(inn:Bool):List Nd->Except Dg (List (Option Kd))
 | [] => .ok []
 |k :: ks=>match exam c s inn k with
  | .error e => .error e
  | .ok a=>match qS c s inn ks with
   | .error e => .error e
   | .ok l => .ok (a :: l)
def ya(c:Ck)(s:Scp)(pos:Int):List (ByteArray×Int)->List Nd->Res
 |_,[] => .ok none
 | [],_ => .ok none
 |p :: g,k :: ks=>match exam c s true k with
  | .error e => .error e
  | .ok none => .error (42,pos)
  | .ok (some a)=>if a.ar=1 then (if wY p.2 a=true then ya c s pos g ks else .error (43,pos)) else .error (42,pos)
def zM(c:Ck)(s:Scp)(inn:Bool)(nm:ByteArray)(pos:Int):List Nd->Res
 | [] => .ok none
 |k :: ks=>match exam c s inn k with
  | .error e => .error e
  | .ok none => .error (42,pos)
  | .ok (some a)=>if a.ar=1 then (match qS c ((nm,a) :: s) inn ks with
    | .error e => .error e
    | .ok _ => .ok (some a)) else .error (42,pos)
end
def yP(env:List (ByteArray×Int)):Scp:=env.foldl (fun s p=>(p.1,kOf [p.2]) :: s) []
def dgOf:Res->Dg
 | .ok _=>(0,0)
 | .error e=>e
def jP(c:Ck)(env:List (ByteArray×Int))(n:Nd):Dg:=if 30<=n.op then dgOf (exam c (yP env) false n) else (43,n.pos)
def yg(ts:TS)(env:List (ByteArray×Int))(n:Nd):Dg:=jP (mkCk ts ts.preds.length) env n
end P1
end Go.Proofs.YtpagnklaanbmbaaGreatDoor
namespace Go.Ev
open Go
structure KeyT (P:qb) (kt:qf) {κ:Type} [DecidableEq κ] (kenc:κ->AV) (ok:κ->Prop):Prop where
 eq:∀ a b,ok a->ok b->jc P kt (kenc a) (kenc b)=some (decide (a=b))
 kok:∀ a,ok a->yJ P kt (kenc a)=true
section
variable {κ α:Type} [DecidableEq κ]
def jq(k:κ):List (κ×α)->Nat->Option Nat
 | [],_=>none
 |e :: T,i=>if k=e.1 then some i else jq k T (i+1)
def getK(k:κ):List (κ×α)->Option α
 | []=>none
 |e :: T=>if k=e.1 then some e.2 else getK k T
def setK(k:κ)(v:α):List (κ×α)->List (κ×α)
 | []=>[(k,v)]
 |e :: T=>if k=e.1 then (k,v) :: T else e :: setK k v T
theorem UU{k:κ}:∀{es:List (κ×α)} {i:Nat} {j:Nat},jq k es i=some j->∃ n v,j=i+n/\es[n]?=some (k,v)/\getK k es=some v
 | [],_,_,h=>by simp[jq]at h
 |e :: es,i,j,h=>by
  unfold jq at h;unfold getK;split at h
  .rename_i g
   subst g;simp only[qo]at h;subst h;exact⟨0,e.2,rfl,rfl,by simp⟩
  .rename_i g
   obtain⟨n,v,rfl,l,o⟩:=UU h;exact⟨n+1,v,by omega,by simpa using l,by rw[if_neg g];exact o⟩
theorem UV{k:κ}:∀{es:List (κ×α)} {i:Nat},jq k es i=none->getK k es=none/\∀ v,setK k v es=es++[(k,v)]
 | [],_,_=>⟨rfl,fun _=>rfl⟩
 |e :: es,i,h=>by
  unfold jq at h;split at h
  .exact absurd h (by simp)
  .rename_i g
   obtain⟨j,l⟩:=UV h;refine⟨by unfold getK;rw[if_neg g];exact j,fun v=>?_⟩;simp only[setK,if_neg g,l v,yD]
theorem kr{k:κ}{v:α}:∀{es:List (κ×α)} {i n:Nat},jq k es i=some (i+n)->setK k v es=es.set n (k,v)
 | [],_,_,h=>by simp[jq]at h
 |e :: es,i,n,h=>by
  unfold jq at h;split at h
  .rename_i g
   have:n=0:=by simp only[qo]at h;omega
   subst this;simp[setK,g]
  .rename_i g
   obtain⟨m,l,o,_⟩:=UU h;have:n=m+1:=by omega
   subst this;have j:jq k es (i+1)=some (i+1+m):=by rw[h,Nat.add_assoc,Nat.add_comm 1 m]
   simp only[setK,if_neg g,kr (v:=v) j,List.set_cons_succ]
theorem ku{k:κ}{v:α}:∀{es:List (κ×α)} {x:κ},x∈(setK k v es).map Prod.fst↔x=k\/x∈es.map Prod.fst
 | [],x=>by simp[setK]
 |e :: es,x=>by
  unfold setK;split
  .rename_i g;subst g;simp
  .simp only[yV,qw,ku]
   constructor
   .rintro (h|h|h)
    .exact .inr (.inl h)
    .exact .inl h
    .exact .inr (.inr h)
   .rintro (h|h|h)
    .exact .inr (.inl h)
    .exact .inl h
    .exact .inr (.inr h)
theorem UW{k:κ}{v:α}:∀{es:List (κ×α)},(es.map Prod.fst).Nodup->((setK k v es).map Prod.fst).Nodup
 | [],_=>by simp[setK]
 |e :: es,h=>by
  unfold setK;split
  .rename_i g;subst g;simpa using h
  .rename_i g
   rw[yV,jx]at h⊢;exact⟨fun i=>(ku.1 i).elim (fun e=>g e.symm) h.1,UW h.2⟩
theorem uc{k x:κ}{v:α}:∀{es:List (κ×α)},getK x (setK k v es)=if x=k then some v else getK x es
 | []=>by simp[setK,getK]
 |e :: es=>by
  unfold setK;split
  .rename_i i
   subst i;by_cases g:x=e.1
   .simp [getK,g]
   .simp [getK,g]
  .rename_i i
   by_cases g:x=e.1
   .have:x≠k:=fun h=>i (by rw[<-h,g])
    rw[if_neg this];simp[getK,g]
   .simp only[getK,if_neg g,uc]
theorem Z5{k:κ}{v:α}:∀{es:List (κ×α)},(es.map Prod.fst).Nodup->(getK k es=some v↔(k,v)∈es)
 | [],_=>by simp[getK]
 |e :: es,h=>by
  rw[yV,jx]at h;unfold getK;by_cases g:k=e.1
  .rw [if_pos g]
   subst g;refine⟨fun h=>?_,fun j=>?_⟩
   .cases h;exact qU
   .rcases qw.1 j with i|i
    .rw [<-i]
    .exact absurd (qp.2 ⟨_,i,rfl⟩) h.1
  .rw [if_neg g,Z5 h.2,qw]
   exact⟨.inr,fun h=>h.elim (fun e=>absurd (congrArg Prod.fst e) g) id⟩
def delK(k:κ):List (κ×α)->List (κ×α)
 | []=>[]
 |e :: T=>if k=e.1 then T else e :: delK k T
theorem kv{k:κ}:∀{es:List (κ×α)},(es.map Prod.fst).Nodup->∀{x:κ×α},x∈delK k es↔x∈es/\x.1≠k
 | [],_,x=>by simp[delK]
 |e :: es,h,x=>by
  rw[yV,jx]at h;unfold delK;by_cases i:k=e.1
  .rw [if_pos i]
   refine⟨fun j=>⟨qO _ j,fun l=>?_⟩,fun j=>?_⟩
   .exact h.1 (qp.2 ⟨x,j,by rw[l,i]⟩)
   .rcases qw.1 j.1 with g|g
    .exact absurd (by rw[g,i]) j.2
    .exact g
  .rw [if_neg i,qw,qw,kv h.2]
   refine⟨fun g=>?_,fun g=>?_⟩
   .rcases g with rfl|g
    .exact ⟨.inl rfl,fun e=>i e.symm⟩
    .exact ⟨.inr g.1,g.2⟩
   .rcases g with ⟨g|g,o⟩
    .exact .inl g
    .exact .inr ⟨g,o⟩
theorem UX{k:κ}:∀{es:List (κ×α)},(delK k es).Sublist es
 | []=>by simp[delK]
 |e :: es=>by
  unfold delK;split
  .exact List.sublist_cons_self _ _
  .exact UX.cons_cons _
theorem qdI{k:κ}{es:List (κ×α)}(h:(es.map Prod.fst).Nodup):((delK k es).map Prod.fst).Nodup:=h.sublist (UX.map _)
theorem wh{k x:κ}:∀{es:List (κ×α)},(es.map Prod.fst).Nodup->getK x (delK k es)=if x=k then none else getK x es
 | [],_=>by simp[delK,getK]
 |e :: es,h=>by
  rw[yV,jx]at h;unfold delK;by_cases i:k=e.1
  .rw [if_pos i]
   by_cases g:x=k
   .rw [if_pos g]
    cases l:getK x es with
    |none=>rfl
    |some v=>exact absurd (qp.2 ⟨_,(Z5 h.2).1 l,by rw[g,i]⟩) h.1
   .rw [if_neg g]
    have:x≠e.1:=fun j=>g (by rw[j,i])
    simp[getK,this]
  .rw [if_neg i]
   by_cases g:x=e.1
   .have:x≠k:=fun j=>i (by rw[<-j,g])
    rw[if_neg this];simp[getK,g]
   .simp only[getK,if_neg g,wh h.2]
abbrev encK(g:κ->AV)(venc:α->AV)(es:List (κ×α)):List (AV×AV):=es.map fun e=>(g e.1,venc e.2)
variable {P:qb} {kt:qf} {kenc:κ->AV} {ok:κ->Prop} {venc:α->AV}
theorem KeyT.find(h:KeyT P kt kenc ok){k:κ}(g:ok k):∀{es:List (κ×α)} {i:Nat},(∀ e,e∈es->ok e.1)->zd P kt (kenc k) (encK kenc venc es) i=some (jq k es i)
 | [],i,_=>rfl
 |e :: es,i,j=>by
  simp only[encK,yV,zd,h.eq k e.1 g (j e (by simp)),jq];by_cases l:k=e.1
  .simp [l]
  .simp only[l,decide_false,if_false]
   exact KeyT.find h g (fun e o=>j e (by simp[o]))
theorem KeyT.update(h:KeyT P kt kenc ok){et:qf}{t:qf}(l:mapT P t=some (kt,et)){mu:Mu}{b:Nat}{es:List (κ×α)}(o:mu[b]?=some (.mp (encK kenc venc es))){k:κ}{v:α}(g:ok k)(p:∀ e,e∈es->ok e.1) :
  vR P mu t (.mp b) (kenc k) (venc v)=some (mu.set b (.mp (encK kenc venc (setK k v es)))):=by
 simp only[vR,l,o,h.kok k g,if_true,h.find (venc:=venc) g p,qW];cases i:jq k es 0 with
 |none=>simp only[Jd,(UV i).2 v,encK,zg,yV,List.map_nil]
 |some j =>
  have r:jq k es 0=some (0+j):=by rw[i,yf]
  simp only[Jd,kr (v:=v) r,encK,List.map_set]
theorem KeyT.look(h:KeyT P kt kenc ok){et:qf}{t:qf}(o:mapT P t=some (kt,et)){mu:Mu}{m:AV}{es:List (κ×α)}(p:jA mu m=some (encK kenc venc es)){k:κ}(g:ok k)(r:∀ e,e∈es->ok e.1){z:AV}(C:qB P et=some z)(b:Bool) :
  yE P mu t m (kenc k) b=some (match getK k es with|some v=>if b then .tup [venc v,.sc (.bool true)] else venc v|none=>if b then .tup [z,.sc (.bool false)] else z):=by
 simp only[yE,o,p,h.kok k g,if_true,h.find (venc:=venc) g r];cases i:jq k es 0 with
 |none=>simp only[(UV i).1,C,qW]
 |some j =>
  obtain⟨n,v,l,I,J⟩:=UU i;rw[yf]at l;subst l;simp only[J,encK,zp,I,qW]
end
section
variable (n:Nat) (J:List Nat->St->Prop) (seen:List Nat) (Q:qQ->St->Prop) (st:St)
end
theorem qk.upK{P:qb}{pl:Pol}{body:j3}{Q:qQ->St->Prop}{st:St}(N:Nat)(I:Nat->St->Prop)(g:I 0 st)(h:∀ k st,k<=N->I k st->awp P pl body (upQ (fun k=>Keep (I k) .mk) N k Q) st):qk P pl body Q st:=
 qk.up N (fun k=>Keep (I k) .mk) g h
theorem Keep.mk'{p:St->Prop}{st:St}(h:p st):Keep p .mk st:=h
end Go.Ev
namespace Go.Proofs.YtpagnklaanbmbaaGreatDoor
open Go Go.Ev Go.Proofs Tryz
namespace YM
open Y2 P1
def okT(t:Tp):Prop:=t.length=3
abbrev eT(l:List Tp):List (AV×AV):=l.map fun t=>(aT t,aB true)
end YM
namespace Y5
end Y5
namespace Y6
open Y2 Y3 P1 YM
section
variable {a b:List Tp}{m:Nat}
structure okK (k:Kd):Prop where
 ar:1<=k.ar/\k.ar<=3
 len:∀ t,t∈k.ts->okT t
 nd:k.ts.Nodup
theorem kw{l:List Tp}(h:l.Nodup):((eT l).map Prod.fst).Nodup:=by
 have e:(eT l).map Prod.fst=l.map aT:=by simp[eT]
 rw[e];refine(List.pairwise_map (f:=aT)).2 (h.imp fun g e=>g ?_);have inj:∀(a b:List Int),i8s a=i8s b->a=b:=by
  intro a;induction a with
  |nil=>intro b h;cases b with
   |nil=>rfl
   |cons=>simp at h
  |cons x a i=>intro b h;cases b with
   |nil=>simp at h
   |cons y b =>
    simp only[i8s,yV,List.cons.injEq,AV.sc.injEq,Value.int.injEq,true_and]at h;rw[h.1,i b h.2]
 exact inj _ _ (AV.agg.inj e)
theorem Rd.setT{mu:Mu}{l k:List Tp}(i:mu[m]?=some (.mp (eT l)))(j:l.Nodup)(o:k.Nodup)(h:∀ t,t∈l↔t∈k):Rd mu (.mp m) (mKd k):=
 Rd.mps i (kw j) (kw o) (fun x=>by
  simp only[eT,qp];constructor
  .rintro ⟨t,g,rfl⟩;exact⟨t,(h t).1 g,rfl⟩
  .rintro ⟨t,g,rfl⟩;exact⟨t,(h t).2 g,rfl⟩) (fun x p=>by
  obtain⟨t,_,rfl⟩:=qp.1 p;exact⟨hf_aT t,HF.sc _⟩)
def UY(n m:Nat)(x y:Tp):Option Tp:=if x.getD (n-1) 0=y.getD 0 0 then some (conc x n y m 1) else none
theorem wZ{n:Nat}{t:Tp}:t∈v7 n m a b↔∃ x y,(x∈a/\y∈b)/\UY n m x y=some t:=by
 unfold v7 UY;rw[vq];simp only[qI,false_or,List.mem_filterMap];constructor
 .rintro ⟨⟨x,y⟩,g,i⟩;exact⟨x,y,Qv.1 g,i⟩
 .rintro ⟨x,y,g,i⟩;exact⟨(x,y),Qv.2 g,i⟩
theorem qdJ{n:Nat}:(v7 n m a b).Nodup:=Z4 (by simp)
def wm(n m:Nat)(x y:Tp):Option Tp:=some (conc x n y m 0)
theorem Z6{n:Nat}{t:Tp}:t∈uH n m a b↔∃ x y,(x∈a/\y∈b)/\wm n m x y=some t:=by
 unfold uH wm;rw[vq];simp only[qI,false_or,qp];constructor
 .rintro ⟨⟨x,y⟩,g,i⟩;exact⟨x,y,Qv.1 g,by rw[<-i]⟩
 .rintro ⟨x,y,g,i⟩;exact⟨(x,y),Qv.2 g,Option.some.inj i⟩
theorem qdK{n:Nat}:(uH n m a b).Nodup:=Z4 (by simp)
end
end Y6
namespace Y7
end Y7
namespace Y8
open Y2
structure ok2 (k:Kd):Prop where
 ar:k.ar=2
 nd:k.ts.Nodup
 ts:∀ t,t∈k.ts->∃ x y:Int,t=[x,y,0]/\0<=x/\x<4/\0<=y/\y<4
end Y8
end Go.Proofs.YtpagnklaanbmbaaGreatDoor
namespace Go.Ev
open Go Go.RowKit
theorem UZ(w:qh)(os:Array Obj)(b:Nat)(h:b<w.heap.size):(Sort.grow w os).heap[b]?=w.heap[b]?:=by
 show (w.heap++os)[b]?=_;rw[Array.getElem?_append_left h]
theorem Stp.grow{G:Gh}{mu:Mu}{w:qh}(s:Sim G mu w.heap)(os:Array Obj):Stp G mu w G mu (Sort.grow w os):=by
 have g:w.heap.size<=(Sort.grow w os).heap.size:=by show _<=(w.heap++os).size;simp
 have r:Ext G w.heap (Sort.grow w os).heap:=⟨g,fun b j=>UZ w os b (s.imm b j)⟩;refine⟨.refl G,⟨s.len,fun b j=>Nat.lt_of_lt_of_le (s.imm b j) g,?_,s.live,s.inj,s.tab.mono (fun _ h=>h) r.keep⟩,fun b j _=>UZ w os b j,g,fun b h => .inl h,fun b h => .inl h,rfl,rfl,rfl,qs _⟩;intro i c l p C I J;obtain⟨o,t,P⟩:=s.obj i c l p C I J;exact⟨o,by rw[UZ w os l (zJ.1 t).1];exact t,P.mono (.refl G) r⟩
def srtI(zs:List Int):List Int:=zs.mergeSort fun x y=>decide (x<=y)
theorem Z7(zs:List Int):(srtI zs).length=zs.length:=List.length_mergeSort ..
theorem qdL{P:qb}{f:j1}(I:ym P f)
  (r:∀(g off cap:Nat) (zs:List Int) (w:qh),Sort.Holds (Value.int .i64) w g off zs.toArray->g<w.heap.size->zs.length<4611686018427387904 ->
   Calls P f #[.slice (some ⟨g,off,none⟩) zs.length cap] w fun e w'=>e = .returned (.tuple #[])/\∃ n os,w'=Sort.grow (Sort.putRow (Value.int .i64) (Sort.ahead w n) g off (zs.mergeSort fun x y=>decide (x<=y)).toArray) os)
  {mu:Mu} {b off:Nat} {cells:List AV} {zs:List Int} (hc:mu[b]?=some (.arr cells)) (hz:∀(k:Nat) (n:Int),zs[k]?=some n->cells[off+k]?=some (.sc (.int .i64 n))) (hl:zs.length<4611686018427387904) (J:off+zs.length<=cells.length) :
  qP P f [.sl b 1 off zs.length] mu fun e m=>e = .ret (.tup [])/\m=mu.set b (.arr (putCells cells off ((srtI zs).map fun n => .sc (.int .i64 n)))):=by
 refine⟨I,fun G w vs s ra=>?_⟩;obtain⟨v,rfl,rv⟩:=ra.one_inv;cases rv with
 |sl _ _ _ _ g R cap hb ht a6 =>
 obtain⟨arr,e0,h1,h2,h3,h4⟩:=s.arr b cells g R hc hb;have t:∀(k:Nat) (n:Int),zs[k]?=some n->arr[off+k]?=some (.int .i64 n):=by
  intro k n hk;have hx:=hz k n hk;have hr:=(h4 _ _ hx).2;have a7:off+k<cells.length:=(qj.1 hx).1;have o:off+k<arr.size:=by omega
  have:arr.getD (off+k) j2 = .int .i64 n:=by generalize arr.getD (off+k) j2=u at hr;cases hr;rfl
  rw[qF,vM o]at this;rw[vM o];exact congrArg some this
 have hH:Sort.Holds (Value.int .i64) w g off zs.toArray:=by
  intro j i;have a2:j<zs.length:=by simpa using i
  refine⟨?_,?_⟩
  .have:=t j zs[j] (qz a2)
   simp only[World.cell?,h1,Option.isSome_none,Bool.false_eq_true,if_false,this];rw[getElem!_pos zs.toArray j i];rfl
  .simp only[World.frozen?,h1]
   simp
 have T:g<w.heap.size:=(zJ.1 h1).1;refine(r g off cap zs w hH T hl).mono fun e w' ⟨he,n,os,hw⟩=>?_
 have U:=Z7 zs
 have a0:(Sort.putRow (Value.int .i64) (Sort.ahead w n) g off (srtI zs).toArray).heap[g]?=some (.cells (Sort.putCells (Value.int .i64) off (srtI zs).toArray arr) e0 (0,0)):=by
  show (w.heap.modify g (Sort.onCells _))[g]?=_;rw[Array.getElem?_modify,if_pos rfl,h1];rfl
 have a1:∀ k,k≠g->(Sort.putRow (Value.int .i64) (Sort.ahead w n) g off (srtI zs).toArray).heap[k]?=w.heap[k]?:=by
  intro k hk;show (w.heap.modify g (Sort.onCells _))[k]?=_;rw[Array.getElem?_modify,if_neg (fun e=>hk e.symm)]
 have st1:Stp G mu w G (mu.set b (.arr (putCells cells off ((srtI zs).map fun n => .sc (.int .i64 n))))) (Sort.putRow (Value.int .i64) (Sort.ahead w n) g off (srtI zs).toArray):=by
  refine Stp.write (hdr:=Nat.le_add_right _ _) s b (.arr cells) _ g R _ hc (by simp) (by simp) hb (by simp) a0 a1 rfl rfl rfl ?_;have p:off+((srtI zs).map fun n=>AV.sc (.int .i64 n)).length<=cells.length:=by simp[U];exact J
  refine⟨_,e0,rfl,by simp[Sort.putCells,h2],by rw[yu _ _ _ p];simp;omega,fun j y i=>?_⟩;rw[yu _ _ _ p,zc]at i;have C:j<arr.size:=by
   have:=(qj.1 i).1;simp[U]at this;omega
  have a3:(Sort.putCells (Value.int .i64) off (srtI zs).toArray arr).getD j j2=if off<=j/\j<off+(srtI zs).toArray.size then (Value.int .i64) (srtI zs).toArray[j-off]! else arr[j]:=by
   rw[qF,Sort.putCells,Array.getElem?_mapIdx,vM C];rfl
  rw[a3];have a4:(cells.take off).length=off:=by simp;omega
  by_cases a5:j<off
  .rw [qx (by omega),yT,if_pos a5]at i
   rw[if_neg (by omega)];have:=h4 j y i;rw[qF,vM C]at this;exact this
  .rw [qV (by omega),a4]at i
   by_cases l:j-off<(srtI zs).length
   .rw [qx (by simpa using l),zp,qz l]at i
    simp only[qW,qo]at i;subst i;rw[if_pos (by simp;omega)];refine⟨rfl,?_⟩;rw[getElem!_pos (srtI zs).toArray (j-off) (by simpa using l)];exact .sc _ rfl
   .rw [qV (by simp;omega),yU]at i
    rw[if_neg (by simp;omega)];have e1:off+((srtI zs).map fun n=>AV.sc (.int .i64 n)).length+(j-off-((srtI zs).map fun n=>AV.sc (.int .i64 n)).length)=j:=by simp at l⊢;omega
    rw[e1]at i;have:=h4 j y i;rw[qF,vM C]at this;exact this
 have st2:=st1.trans s (Stp.grow st1.sim os);rw[show (srtI zs).toArray=(zs.mergeSort fun x y=>decide (x<=y)).toArray from rfl]at st2;rw[<-hw]at st2;exact⟨G,_,st2,.inl ⟨_,_,⟨rfl,rfl⟩,he,.tup [] #[] rfl (by simp)⟩⟩
end Go.Ev
namespace Go.Proofs
open Go.Shelf
def Tryz.lays189_ren:Go.Shelf.Ren:=⟨fun|189=>183|125=>247|257=>246|128=>291|129=>292|294=>283|295=>284|296=>285|297=>286|298=>287|299=>288|216=>159|300=>289|301=>290|328=>313|329=>314|330=>315|331=>316|332=>317|215=>237|343=>332|n=>n,fun|28=>28|3=>3|46=>226|0=>0|51=>95|53=>359|4=>4|183=>352|182=>351|131=>142|5=>5|9=>9|218=>372|222=>376|228=>390|229=>391|n=>n,fun|n=>n⟩
theorem Tryz.lays189:Go.Proofs.Lays.n189 qc Tryz.lays189_ren:={
 mixed:=by kernel_rfl
 f125:=func247.trans (congrArg some (by kernel_rfl))
 f128:=func291.trans (congrArg some (by kernel_rfl))
 f129:=func292.trans (congrArg some (by kernel_rfl))
 f189:=func183.trans (congrArg some (by kernel_rfl))
 f215:=func237.trans (congrArg some (by kernel_rfl))
 f216:=func159.trans (congrArg some (by kernel_rfl))
 f257:=func246.trans (congrArg some (by kernel_rfl))
 f294:=func283.trans (congrArg some (by kernel_rfl))
 f295:=func284.trans (congrArg some (by kernel_rfl))
 f296:=func285.trans (congrArg some (by kernel_rfl))
 f297:=func286.trans (congrArg some (by kernel_rfl))
 f298:=func287.trans (congrArg some (by kernel_rfl))
 f299:=func288.trans (congrArg some (by kernel_rfl))
 f300:=func289.trans (congrArg some (by kernel_rfl))
 f301:=func290.trans (congrArg some (by kernel_rfl))
 f328:=func313.trans (congrArg some (by kernel_rfl))
 f329:=func314.trans (congrArg some (by kernel_rfl))
 f330:=func315.trans (congrArg some (by kernel_rfl))
 f331:=func316.trans (congrArg some (by kernel_rfl))
 f332:=func317.trans (congrArg some (by kernel_rfl))
 f343:=func332.trans (congrArg some (by kernel_rfl))
 t0:=Tryz.underlying0
 a0:=Tryz.isAgg0
 z0:=Tryz.sizeOf0
 v0:=Tryz.zeroValue0
 t3:=Tryz.underlying3
 a3:=Tryz.isAgg3
 z3:=Tryz.sizeOf3
 v3:=Tryz.zeroValue3
 t4:=Tryz.underlying4
 a4:=Tryz.isAgg4
 z4:=Tryz.sizeOf4
 v4:=Tryz.zeroValue4
 t5:=Tryz.underlying5
 a5:=Tryz.isAgg5
 z5:=Tryz.sizeOf5
 v5:=Tryz.zeroValue5
 t9:=Tryz.underlying9
 a9:=Tryz.isAgg9
 z9:=Tryz.sizeOf9
 v9:=Tryz.zeroValue9
 t28:=Tryz.underlying28
 a28:=Tryz.isAgg28
 z28:=Tryz.sizeOf28
 v28:=Tryz.zeroValue28
 t46:=Tryz.underlying226
 a46:=Tryz.isAgg226
 z46:=Tryz.sizeOf226
 v46:=Tryz.zeroValue226
 t51:=Tryz.underlying95
 a51:=Tryz.isAgg95
 z51:=Tryz.sizeOf95
 v51:=Tryz.zeroValue95
 t53:=Tryz.underlying359
 a53:=Tryz.isAgg359
 z53:=Tryz.sizeOf359
 v53:=Tryz.zeroValue359
 t131:=Tryz.underlying142
 a131:=Tryz.isAgg142
 z131:=Tryz.sizeOf142
 v131:=Tryz.zeroValue142
 t182:=Tryz.underlying351
 a182:=Tryz.isAgg351
 z182:=Tryz.sizeOf351
 v182:=Tryz.zeroValue351
 t183:=Tryz.underlying352
 a183:=Tryz.isAgg352
 z183:=Tryz.sizeOf352
 v183:=Tryz.zeroValue352
 t218:=Tryz.underlying372
 a218:=Tryz.isAgg372
 z218:=Tryz.sizeOf372
 v218:=Tryz.zeroValue372
 t222:=Tryz.underlying376
 a222:=Tryz.isAgg376
 z222:=Tryz.sizeOf376
 v222:=Tryz.zeroValue376
 t228:=Tryz.underlying390
 a228:=Tryz.isAgg390
 z228:=Tryz.sizeOf390
 v228:=Tryz.zeroValue390
 t229:=Tryz.underlying391
 a229:=Tryz.isAgg391
 z229:=Tryz.sizeOf391
 v229:=Tryz.zeroValue391 }
open Go.Sort Go.RowKit in
theorem Tryz.slices_Sort_int(g off cap:Nat)(zs:List Int)(w:qh)(l:Holds (Value.int .i64) w g off zs.toArray)(i:g<w.heap.size)(j:zs.length<4611686018427387904) :
  Calls qc 183 #[.slice (some ⟨g,off,none⟩) zs.length cap] w fun e w' =>
   e = .returned (.tuple #[])/\∃ n os,w'=grow (putRow (Value.int .i64) (Sort.ahead w n) g off (zs.mergeSort fun x y=>decide (x<=y)).toArray) os:=Any.slices_Sort_int Tryz.lays189 g off cap zs w l i j
def Tryz.laysNm225_ren:Go.Shelf.Ren:=⟨fun|25=>78|31=>159|32=>160|37=>237|n=>n,fun|22=>28|3=>3|4=>4|40=>226|0=>0|n=>n,fun|n=>n⟩
theorem Tryz.laysNm225:Go.Proofs.Lays2.n25 qc Tryz.laysNm225_ren:={
 mixed:=by kernel_rfl
 f25:=func78.trans (congrArg some (by kernel_rfl))
 f31:=func159.trans (congrArg some (by kernel_rfl))
 f32:=func160.trans (congrArg some (by kernel_rfl))
 f37:=func237.trans (congrArg some (by kernel_rfl))
 t0:=Tryz.underlying0
 a0:=Tryz.isAgg0
 z0:=Tryz.sizeOf0
 v0:=Tryz.zeroValue0
 t3:=Tryz.underlying3
 a3:=Tryz.isAgg3
 z3:=Tryz.sizeOf3
 v3:=Tryz.zeroValue3
 t4:=Tryz.underlying4
 a4:=Tryz.isAgg4
 z4:=Tryz.sizeOf4
 v4:=Tryz.zeroValue4
 t22:=Tryz.underlying28
 a22:=Tryz.isAgg28
 z22:=Tryz.sizeOf28
 v22:=Tryz.zeroValue28
 t40:=Tryz.underlying226
 a40:=Tryz.isAgg226
 z40:=Tryz.sizeOf226
 v40:=Tryz.zeroValue226 }
open Go.RowKit Go.Lib in
theorem Tryz.slices_BinarySearch_int(b off n c:Nat)(zs:List Int)(x:Int)(w:qh)(i:n<=zs.length)(g:n<4611686018427387904)(l:∀ j,j<zs.length->w.cell? ⟨b,off+j,none⟩=some (.int .i64 (zs.getD j 0)))(o:(zs.take n).Pairwise (·<=·)) :
  Calls qc 78 #[.slice (some ⟨b,off,none⟩) n c,.int .i64 x] w fun e w'=>e = .returned (.tuple #[.int .i64 ((zs.take n).countP (·<x):Nat),.bool ((zs.take n).contains x)])/\∃ q,w'=w.drewN q:=Any.slices_BinarySearch_int Tryz.laysNm225 b off n c zs x w i g l o
open Go.RowKit Go.Sort in
theorem Tryz.slices_Sort_int_none(p:Option Addr)(cap:Nat)(w:qh) :
  Calls qc 183 #[.slice p 0 cap] w fun e w'=>e = .returned (.tuple #[])/\w'=w:=Any.slices_Sort_int_none Tryz.lays189 p cap w
open Go.RowKit Go.Lib in
theorem Tryz.slices_BinarySearch_int_empty(a:Option Addr)(c:Nat)(x:Int)(w:qh) :
  Calls qc 78 #[.slice a 0 c,.int .i64 x] w fun e w'=>e = .returned (.tuple #[.int .i64 0,.bool false])/\w'=w:=Any.slices_BinarySearch_int_empty Tryz.laysNm225 a c x w
end Go.Proofs
namespace Go.Proofs.YtpagnklaanbmbaaGreatDoor
open Go Go.Ev Go.Proofs Tryz
namespace YS
theorem Qx(xs:List Int):(xs.map rI).flatten=xs.map aI:=by
 induction xs with
 |nil=>rfl
 |cons x xs g=>simp[g]
def jf(n:Int):ByteArray:=⟨(Lib.itoa n).toArray⟩
end YS
namespace YF
open Y1 P1
abbrev cPm(p:ByteArray×Int):List AV:=[aS p.1,aI p.2]
abbrev lPm(l:List (ByteArray×Int)):AV := .lst false (l.map cPm)
abbrev cPd(p:Pd):List AV:=aS p.name :: lPm p.params :: cNd p.body
abbrev lPd(l:List Pd):AV := .lst false (l.map cPd)
abbrev cFa(f:ByteArray×Nd):List AV:=aS f.1 :: cNd f.2
abbrev lSo(l:List (ByteArray×Bool)):AV := .lst false (l.map uF)
abbrev lFl(l:List Fld):AV := .lst false (l.map jo)
abbrev lFa(l:List (ByteArray×Nd)):AV := .lst false (l.map cFa)
abbrev cTS(s:TS):List AV:=[lSo s.sorts,lFl s.fields,lPd s.preds,lFa s.facts]
abbrev eTS(s:TS):AV := .agg (cTS s)
theorem qdM(p:ByteArray×Int):∀ c,c∈cPm p->HF c:=by
 intro c g;simp at g;rcases g with rfl|rfl<;>exact HF.sc _
theorem Z8(l:List (ByteArray×Int)):HF (lPm l):=HF.lst fun r g c i=>by
 obtain⟨p,_,rfl⟩:=qp.1 g;exact qdM p c i
theorem qdN(p:Pd):∀ c,c∈cPd p->HF c:=by
 intro c g;simp only[cPd,qw]at g;rcases g with rfl|rfl|g
 .exact HF.sc _
 .exact Z8 _
 .exact wW p.body c g
theorem kx(l:List Pd):HF (lPd l):=HF.lst fun r g c i=>by
 obtain⟨p,_,rfl⟩:=qp.1 g;exact qdN p c i
theorem qdO(p:ByteArray×Nd):∀ c,c∈cFa p->HF c:=by
 intro c g;simp only[cFa,qw]at g;rcases g with rfl|g
 .exact HF.sc _
 .exact wW p.2 c g
theorem ky(l:List (ByteArray×Nd)):HF (lFa l):=HF.lst fun r g c i=>by
 obtain⟨p,_,rfl⟩:=qp.1 g;exact qdO p c i
theorem qdP(p:ByteArray×Bool):∀ c,c∈uF p->HF c:=by
 intro c g;simp at g;rcases g with rfl|rfl<;>exact HF.sc _
theorem kz(l:List (ByteArray×Bool)):HF (lSo l):=HF.lst fun r g c i=>by
 obtain⟨p,_,rfl⟩:=qp.1 g;exact qdP p c i
theorem U0(l:List Fld):HF (lFl l):=HF.lst fun r g c i=>by
 obtain⟨p,_,rfl⟩:=qp.1 g;exact kf p c i
theorem JV(s:TS):∀ c,c∈cTS s->HF c:=by
 intro c g;simp only[cTS,qw,qI,or_false]at g;rcases g with rfl|rfl|rfl|rfl
 .exact kz _
 .exact U0 _
 .exact kx _
 .exact ky _
theorem zq(s:TS):HF (eTS s):=HF.agg (JV s)
theorem JW(p:Pd):(cPd p).length=7/\(cPd p).all AV.one=true:=⟨by simp[cPd,Z3],by simp only[cPd,List.all_cons,JS];rfl⟩
theorem kA(p:ByteArray×Nd):(cFa p).length=6/\(cFa p).all AV.one=true:=⟨by simp[cFa,Z3],by simp only[cFa,List.all_cons,JS];rfl⟩
end YF
namespace JB
open Y1
def U1:je:=fun F args I=>match args with
 | [.fn (.func g) [] i]=>match F g i (I++[.dead]) with
  |some (r,m)=>some (.agg [aI 0,aI 0],m.set I.length (.arr [aI 0,aI 0]))
  |none=>none
 |_=>none
theorem qdQ:jn qc 142 U1:=by
 intro F P args I v m h;unfold U1 at h;split at h
 .rename_i g j
  split at h
  .rename_i r m' R
   cases h;have T:=P _ _ _ _ _ R;refine qP.of_awpD call142 func142 rfl (yj (by kernel_rfl)) (by kernel_rfl) (pl:={}) ?_;simp[go_sem];refine wV.intro (g:=216) (first:=[]) (caps:=[.ptr I.length 0]) (by simp[go_sem]) call216 ?_;simp[go_sem];refine qd.eff (qP.hid (i:=I.length) (c := .arr [aI 0,aI 0]) (by simp) (by simp) (by simpa using T)) ?_ ?_
   .rintro r1 m1 ⟨l,⟨t,C⟩,J,rfl⟩
    subst C;have o:I.length<l.length:=(qj.1 J).1;have p:(l.set I.length (.arr [aI 0,aI 0]))[I.length]?=some (.arr [aI 0,aI 0]):=zr o;simp[go_sem,p,o];refine jp.mono (qdF _ I.length (aI 0) (aI 0) p) ?_;rintro _ rfl;simp[go_sem,p,o]
   .rintro r1 m1 ⟨l,⟨t,C⟩,J,rfl⟩
    cases t
  .cases h
 .cases h
def calL:List {f:j1 // ym qc f}:=[⟨41,call41⟩,⟨74,call74⟩,⟨18,call18⟩,⟨49,call49⟩,⟨46,call46⟩,⟨45,call45⟩,⟨59,call59⟩,⟨60,call60⟩,⟨280,call280⟩,⟨44,call44⟩,⟨28,call28⟩,⟨72,call72⟩,⟨112,call112⟩,⟨43,call43⟩,⟨47,call47⟩,⟨48,call48⟩,⟨156,call156⟩,⟨76,call76⟩,⟨121,call121⟩,⟨114,call114⟩,⟨119,call119⟩,⟨122,call122⟩,⟨118,call118⟩,⟨120,call120⟩,⟨78,call78⟩,⟨130,call130⟩,⟨131,call131⟩,⟨132,call132⟩,⟨133,call133⟩,⟨57,call57⟩,⟨206,call206⟩,⟨117,call117⟩,⟨80,call80⟩,⟨81,call81⟩,⟨155,call155⟩,⟨40,call40⟩,⟨115,call115⟩,⟨116,call116⟩,⟨123,call123⟩,⟨231,call231⟩,⟨158,call158⟩,⟨191,call191⟩,⟨111,call111⟩,⟨58,call58⟩,⟨61,call61⟩,⟨296,call296⟩,⟨227,call227⟩,⟨159,call159⟩,⟨160,call160⟩,⟨179,call179⟩,⟨228,call228⟩,⟨229,call229⟩,⟨230,call230⟩,⟨82,call82⟩,⟨107,call107⟩,⟨108,call108⟩,⟨109,call109⟩,⟨97,call97⟩,⟨110,call110⟩,⟨30,call30⟩,⟨190,call190⟩,⟨192,call192⟩,⟨236,call236⟩,⟨129,call129⟩,⟨31,call31⟩,⟨134,call134⟩,⟨135,call135⟩,⟨75,call75⟩,⟨271,call271⟩,⟨270,call270⟩,⟨237,call237⟩,⟨272,call272⟩,⟨162,call162⟩,⟨185,call185⟩,⟨186,call186⟩,⟨187,call187⟩,⟨188,call188⟩,⟨177,call177⟩,⟨189,call189⟩,⟨29,call29⟩,⟨20,call20⟩,⟨87,call87⟩,⟨88,call88⟩,⟨207,call207⟩,⟨208,call208⟩,⟨157,call157⟩,⟨305,call305⟩,⟨248,call248⟩,⟨173,call173⟩,⟨174,call174⟩,⟨175,call175⟩,⟨243,call243⟩,⟨249,call249⟩,⟨250,call250⟩,⟨83,call83⟩,⟨84,call84⟩,⟨85,call85⟩,⟨86,call86⟩,⟨68,call68⟩,⟨23,call23⟩,⟨168,call168⟩,⟨169,call169⟩,⟨232,call232⟩,⟨233,call233⟩,⟨234,call234⟩,⟨235,call235⟩,⟨163,call163⟩,⟨164,call164⟩,⟨79,call79⟩,⟨165,call165⟩,⟨166,call166⟩,⟨167,call167⟩,⟨95,call95⟩,⟨138,call138⟩,⟨139,call139⟩,⟨140,call140⟩,⟨141,call141⟩,⟨142,call142⟩,⟨143,call143⟩,⟨144,call144⟩,⟨145,call145⟩,⟨146,call146⟩,⟨69,call69⟩,⟨70,call70⟩,⟨71,call71⟩,⟨239,call239⟩,⟨240,call240⟩,⟨65,call65⟩,⟨273,call273⟩,⟨274,call274⟩,⟨275,call275⟩,⟨276,call276⟩,⟨277,call277⟩,⟨278,call278⟩,⟨279,call279⟩,⟨261,call261⟩,⟨161,call161⟩,⟨171,call171⟩,⟨172,call172⟩,⟨214,call214⟩,⟨215,call215⟩,⟨216,call216⟩,⟨217,call217⟩,⟨218,call218⟩,⟨219,call219⟩,⟨220,call220⟩,⟨221,call221⟩,⟨222,call222⟩,⟨223,call223⟩,⟨147,call147⟩,⟨127,call127⟩,⟨128,call128⟩,⟨148,call148⟩,⟨149,call149⟩,⟨150,call150⟩,⟨151,call151⟩,⟨152,call152⟩,⟨153,call153⟩,⟨154,call154⟩,⟨281,call281⟩,⟨211,call211⟩,⟨306,call306⟩,⟨307,call307⟩,⟨308,call308⟩,⟨309,call309⟩,⟨310,call310⟩,⟨311,call311⟩,⟨312,call312⟩,⟨238,call238⟩,⟨183,call183⟩,⟨241,call241⟩,⟨242,call242⟩,⟨264,call264⟩,⟨265,call265⟩,⟨266,call266⟩,⟨267,call267⟩,⟨268,call268⟩,⟨269,call269⟩,⟨193,call193⟩,⟨194,call194⟩,⟨195,call195⟩,⟨196,call196⟩,⟨197,call197⟩,⟨198,call198⟩,⟨199,call199⟩,⟨200,call200⟩,⟨201,call201⟩,⟨202,call202⟩,⟨203,call203⟩,⟨204,call204⟩,⟨205,call205⟩,⟨224,call224⟩,⟨225,call225⟩,⟨226,call226⟩,⟨331,call331⟩,⟨246,call246⟩,⟨247,call247⟩,⟨298,call298⟩,⟨299,call299⟩,⟨300,call300⟩,⟨301,call301⟩,⟨302,call302⟩,⟨303,call303⟩,⟨96,call96⟩,⟨251,call251⟩,⟨252,call252⟩,⟨253,call253⟩,⟨254,call254⟩,⟨255,call255⟩,⟨256,call256⟩,⟨257,call257⟩,⟨258,call258⟩,⟨259,call259⟩,⟨260,call260⟩,⟨283,call283⟩,⟨284,call284⟩,⟨285,call285⟩,⟨286,call286⟩,⟨287,call287⟩,⟨288,call288⟩,⟨289,call289⟩,⟨290,call290⟩,⟨291,call291⟩,⟨292,call292⟩,⟨319,call319⟩,⟨320,call320⟩,⟨321,call321⟩,⟨322,call322⟩,⟨323,call323⟩,⟨324,call324⟩,⟨325,call325⟩,⟨326,call326⟩,⟨327,call327⟩,⟨328,call328⟩,⟨329,call329⟩,⟨176,call176⟩,⟨293,call293⟩,⟨294,call294⟩,⟨295,call295⟩,⟨297,call297⟩,⟨313,call313⟩,⟨314,call314⟩,⟨316,call316⟩,⟨317,call317⟩,⟨333,call333⟩,⟨334,call334⟩,⟨335,call335⟩,⟨336,call336⟩,⟨337,call337⟩,⟨338,call338⟩,⟨339,call339⟩,⟨340,call340⟩,⟨318,call318⟩,⟨332,call332⟩,⟨343,call343⟩,⟨14,call14⟩,⟨16,call16⟩,⟨17,call17⟩,⟨19,call19⟩,⟨21,call21⟩,⟨22,call22⟩,⟨24,call24⟩,⟨27,call27⟩,⟨32,call32⟩,⟨34,call34⟩,⟨35,call35⟩,⟨37,call37⟩,⟨38,call38⟩,⟨39,call39⟩,⟨50,call50⟩,⟨51,call51⟩,⟨52,call52⟩,⟨53,call53⟩,⟨54,call54⟩,⟨55,call55⟩,⟨56,call56⟩,⟨63,call63⟩,⟨64,call64⟩,⟨66,call66⟩,⟨67,call67⟩,⟨73,call73⟩,⟨77,call77⟩,⟨89,call89⟩,⟨90,call90⟩,⟨91,call91⟩,⟨92,call92⟩,⟨93,call93⟩,⟨94,call94⟩,⟨98,call98⟩,⟨99,call99⟩,⟨100,call100⟩,⟨101,call101⟩,⟨102,call102⟩,⟨103,call103⟩,⟨104,call104⟩,⟨105,call105⟩,⟨106,call106⟩,⟨113,call113⟩,⟨124,call124⟩,⟨125,call125⟩,⟨126,call126⟩,⟨136,call136⟩,⟨137,call137⟩,⟨170,call170⟩,⟨178,call178⟩,⟨180,call180⟩,⟨181,call181⟩,⟨182,call182⟩,⟨184,call184⟩,⟨209,call209⟩,⟨210,call210⟩,⟨212,call212⟩,⟨213,call213⟩,⟨244,call244⟩,⟨245,call245⟩,⟨262,call262⟩,⟨263,call263⟩,⟨282,call282⟩,⟨15,call15⟩,⟨25,call25⟩,⟨26,call26⟩,⟨33,call33⟩,⟨36,call36⟩,⟨42,call42⟩,⟨62,call62⟩]
end JB
namespace Y9
open Y1 P1
structure okTS (s:TS):Prop where
 ns:s.sorts.length<=4
 nf:s.fields.length<=6
 np:s.preds.length<=8
 nfa:s.facts.length<=16
 sl:∀ x,x∈s.sorts->x.1.size<=4611686018427387904
 fl:∀ f,f∈s.fields->1<=f.sorts.length/\f.sorts.length<=3/\∀ x,x∈f.sorts->0<=x/\x<s.sorts.length
 pl:∀ p,p∈s.preds->p.params.length<=8/\∀ x,x∈p.params->0<=x.2/\x.2<s.sorts.length
structure okCk (c:Ck):Prop where
 ts:okTS c.ts
 calls:c.calls<=c.ts.preds.length
 timed:c.calls<=c.timed.length
theorem Qy{c:Ck}(i:okCk c){nm:ByteArray}{p:Nat}(h:zf c nm=some p):p<c.calls/\p<c.ts.preds.length:=by
 unfold zf at h;rw[List.findIdx?_eq_some_iff_getElem]at h;obtain⟨g,_⟩:=h;simp at g;omega
theorem kB(c:Ck):∀ ks:List Nd,JU c ks=ks.any (yn c)
 | []=>rfl
 |k :: ks=>by simp[JU,kB c ks]
noncomputable abbrev szN(n:Nd):Nat:=SizeOf.sizeOf n
theorem yx{n k:Nd}(h:k∈n.kids):szN k<szN n:=by
 obtain⟨op,t,i,ks,p⟩:=n;have:SizeOf.sizeOf k<SizeOf.sizeOf ks:=List.sizeOf_lt_of_mem h;simp only[szN,Nd.mk.sizeOf_spec];omega
inductive Small:Nd->Prop where
 |mk (n:Nd) (h:n.kids.length<=1000) (hk:∀ k,k∈n.kids->Small k):Small n
theorem Small.len{n:Nd}(h:Small n):n.kids.length<=1000:=by cases h;assumption
theorem Small.kid{n k:Nd}(h:Small n)(g:k∈n.kids):Small k:=by
 cases h with
 |mk _ _ h=>exact h k g
theorem U2(c:Ck)(n:Nd):yn c n=(zK c n.op n.name||n.kids.any (yn c)):=by
 obtain⟨op,t,i,ks,p⟩:=n;simp[yn,kB,Nd.op,Nd.name,Nd.kids]
end Y9
namespace E1
section
variable {l:List Int}
theorem qdR{n:Int}(g:0<=n)(j:n<=20):∀ i:Nat,i<=3->0<=n ^ i/\n ^ i<=8000:=by
 have l:0<=n*n:=Int.mul_nonneg g g;have o:n*n<=20*20:=Int.mul_le_mul j j g (by omega);have r:0<=n*n*n:=Int.mul_nonneg l g;have t:n*n*n<=20*20*20:=Int.mul_le_mul o j g (by omega);intro i p
 match i,p with
 | 0,_=>rw[Int.pow_zero];omega
 | 1,_=>rw[Int.pow_succ,Int.pow_zero];omega
 | 2,_=>rw[Int.pow_succ,Int.pow_succ,Int.pow_zero,Int.one_mul];omega
 | 3,_=>rw[Int.pow_succ,Int.pow_succ,Int.pow_succ,Int.pow_zero,Int.one_mul];omega
def powN(k:Int):Nat:=(min k 3).toNat
def powI(n k:Int):Int:=n ^ powN k
def sorted(l:List Int):Prop:=l.Pairwise (·<·)
instance (l:List Int):Decidable (sorted l):=inferInstanceAs (Decidable (l.Pairwise (·<·)))
theorem U3(h:sorted l){i j:Nat}(g:i<j)(o:j<l.length):l[i]'(by omega)<l[j]:=List.pairwise_iff_getElem.1 h i j (by omega) o g
def inOk(a b:Rl):Bool:=a.ts.all (fun t=>decide (t∈b.ts))
theorem kC(h:sorted l):l.Nodup:=List.Pairwise.imp (fun h e=>by omega) h
theorem kD{m:List Int}(g:sorted l)(i:sorted m)(h:∀ x,x∈l↔x∈m):l=m:=
 List.Perm.eq_of_pairwise (le:=fun a b:Int=>a<b) (fun a b _ _ g i=>by omega) g i ((List.perm_ext_iff_of_nodup (kC g) (kC i)).2 h)
def atN(l:List Int)(r:Int):Nat->Nat
 | 0=>0
 |n+1=>if r<=gI l n then atN l r n else n+1
theorem kE(l:List Int)(r:Int):∀ n,atN l r n<=n
 | 0=>qs _
 |n+1=>by
  have:=kE l r n;rw[atN];split<;>omega
def addL(l:List Int)(r:Int):List Int:=if l[atN l r l.length]?=some r then l else l.take (atN l r l.length)++[r]++l.drop (atN l r l.length)
def ofL(ts:List Int):List Int:=ts.foldl addL []
theorem kF(l:List Int)(r:Int):∀ n,(∀ i,atN l r n<=i->i<n->r<=gI l i)/\(0<atN l r n->gI l (atN l r n-1)<r)
 | 0=>⟨fun i _ h=>by omega,fun h=>by simp[atN]at h⟩
 |n+1=>by
  obtain⟨j,o⟩:=kF l r n;rw[atN];by_cases h:r<=gI l n
  .rw [if_pos h]
   refine⟨fun i g p=>?_,o⟩;by_cases e:i=n
   .rw [e];exact h
   .exact j i g (by omega)
  .rw [if_neg h]
   exact⟨fun i g p=>by omega,fun _=>by simp;omega⟩
theorem qdS(p:sorted l)(r:Int):sorted (addL l r)/\∀ x,x∈addL l r↔x∈l\/x=r:=by
 obtain⟨U,h2⟩:=kF l r l.length;have hk:=kE l r l.length;unfold addL;generalize atN l r l.length=k at *
 by_cases t:l[k]?=some r
 .rw [if_pos t]
  exact⟨p,fun x=>⟨.inl,fun h=>h.elim id fun e=>by rw[e];exact q9 t⟩⟩
 .rw [if_neg t]
  have o:∀ i j (g:i<l.length) (T:j<l.length),i<j->l[i]<l[j]:=fun i j g T I=>List.pairwise_iff_getElem.1 p i j g T I
  have lo:∀ x,x∈l.take k->x<r:=by
   intro x J;obtain⟨i,g,e⟩:=vE.1 J;rw[List.getElem_take]at e;have a0:i<k:=by simp at g;omega
   have:=h2 (by omega);rw[v6 (by omega)]at this;by_cases P:i=k-1
   .subst P;omega
   .have:=o i (k-1) (by omega) (by omega) (by omega);omega
  have g:∀ x,x∈l.drop k->r<x:=by
   intro x J;obtain⟨i,g,e⟩:=vE.1 J;rw[List.getElem_drop]at e;have R:k+i<l.length:=by simp at g;omega
   have h0:=U k (by omega) (by omega);rw[v6 (by omega)]at h0;have a1:l[k]'(by omega)≠r:=fun e=>t (by rw[qz (by omega),e])
   by_cases P:i=0
   .subst P;simp at e;omega
   .have:=o k (k+i) (by omega) R (by omega);omega
  refine⟨?_,fun x=>?_⟩
  .unfold sorted at *
   rw[zc,List.pairwise_append];refine⟨p.sublist (List.take_sublist _ _),?_,fun a ha b C=>?_⟩
   .rw [List.singleton_append,VS]
    exact⟨g,p.sublist (List.drop_sublist _ _)⟩
   .rw [List.singleton_append,qw]at C
    have:=lo a ha;rcases C with e|C
    .omega
    .have:=g b C;omega
  .have:x∈l↔x∈l.take k\/x∈l.drop k:=by
    rw[<-qG,u3]
   rw[this,qG,qG,qN];constructor
   .rintro ((h|h)|h)
    .exact .inl (.inl h)
    .exact .inr h
    .exact .inl (.inr h)
   .rintro ((h|h)|h)
    .exact .inl (.inl h)
    .exact .inr h
    .exact .inl (.inr h)
theorem kG:∀(ts l:List Int),sorted l->sorted (ts.foldl addL l)/\∀ x,x∈ts.foldl addL l↔x∈l\/x∈ts
 | [],l,h=>⟨h,fun x=>by simp⟩
 |t :: ts,l,h=>by
  obtain⟨g,i⟩:=qdS h t;obtain⟨j,o⟩:=kG ts _ g;refine⟨j,fun x=>?_⟩;rw[List.foldl_cons,o,i,qw];constructor
  .rintro ((h|h)|h)
   .exact .inl h
   .exact .inr (.inl h)
   .exact .inr (.inr h)
  .rintro (h|h|h)
   .exact .inl (.inl h)
   .exact .inl (.inr h)
   .exact .inr h
theorem JY(ts:List Int):sorted (ofL ts)/\∀ x,x∈ofL ts↔x∈ts:=by
 obtain⟨g,i⟩:=kG ts [] (by unfold sorted;exact .nil);exact⟨g,fun x=>by rw[ofL,i];simp⟩
structure GR (n:Int) (r:Rl):Prop where
 ar1:1<=r.ar
 ar3:r.ar<=3
 val:∀ t,t∈r.ts->0<=t/\t<powI n r.ar
 srt:sorted r.ts
def unR(a b:Rl):Rl:=⟨a.ar,ofL (a.ts++b.ts)⟩
def diR(a b:Rl):Rl:=⟨a.ar,a.ts.filter fun t=>decide (¬t∈b.ts)⟩
end
end E1
namespace E3
open P1
structure Md where
 sc:Sc
 states:List (List Rl)
 loop:Int
abbrev cSt(s:List Rl):List AV:=[lRel s]
abbrev lSt(l:List (List Rl)):AV := .lst false (l.map cSt)
abbrev cMd(m:Md):List AV:=[lI m.sc.atoms,aI m.sc.steps,lSt m.states,aI m.loop]
abbrev eMd(m:Md):AV := .agg (cMd m)
abbrev XE(C:Type):=Except Int C
structure Pl where
 st:Nat
 env:List (ByteArray×Int)
structure Mo where
 ts:TS
 m:Md
end E3
namespace E5
open Y1 E3
variable (x:Mo) (p:Pl) (f g d e:Nd) (nm:ByteArray)
end E5
namespace E7
end E7
namespace EL
open E1
theorem qdT(n:Int)(t:0<=n)(C:n<=20)(k:Nat)(T:k<=3):qe qc 188 [aI n,aI k] (aI (n ^ k)):=by
 refine qSV call188 func188 rfl ?_;simp[go_sem];refine qk.up k (fun i st=>st.tm 0=aI n/\st.tm 5=aI (n ^ i)/\st.tm 6=aI k/\st.tm 7=aI i/\st.mu=[]) ?_ ?_
 .simp [go_sem]
 rintro i st U ⟨I,l,o,p,r⟩;by_cases g:i<k
 .have J:=qdR t C (i+1) (by omega)
  have P:qi.wrap ((i:Int)+1)=(i:Int)+1:=qg (by omega) (by omega);rw[Int.pow_succ]at J;have R:qi.wrap (n ^ i*n)=n ^ i*n:=qg (by omega) (by omega);simp[go_sem,I,l,o,p,r,g,P,R];rw[Int.pow_succ]
 .have j:i=k:=by omega
  subst j;simp[go_sem,l,o,p,r];exact .hf _ (HF.sc _)
end EL
namespace EJ
open E1
section
variable {g:Type}
def jg(p:g->g->Bool):g->List g->List g
 |_,[]=>[]
 |x,y :: l=>if p y x=true then jg p y l else y :: jg p y l
def cmpc(p:g->g->Bool):List g->List g
 | []=>[]
 |x :: l=>x :: jg p x l
theorem kH(p:g->g->Bool):∀(l:List g) (x y:g),jg p x (l++[y])=jg p x l++(if p y ((x :: l).getLast (by simp))=true then [] else [y])
 | [],x,y=>by
  by_cases i:p y x=true<;>simp[jg,i]
 |z :: l,x,y=>by
  have j:=kH p l z y;have e:(x :: z :: l).getLast (by simp)=(z :: l).getLast (by simp):=List.getLast_cons (by simp);simp only[yD,jg,e,j];split
  .rfl
  .rfl
theorem kI{j:Type}(p:j->j->Bool)(l:List j)(k:Nat)(I:1<=k)(C:k<l.length):cmpc p (l.take (k+1))=cmpc p (l.take k)++(if p l[k] (l[k-1]'(by omega))=true then [] else [l[k]]):=by
 have o:l.take (k+1)=l.take k++[l[k]]:=by rw[List.take_add_one,qz C];rfl
 have g:∀(q:l.take k≠[]),(l.take k).getLast q=l[k-1]'(by omega):=by
  intro q;rw[List.getLast_eq_getElem,List.getElem_take];congr 1;simp;omega
 rw[o];cases t:l.take k with
 |nil =>
  have i:=congrArg List.length t;rw[vK,List.length_nil]at i;omega
 |cons x r =>
  have:=g (by rw[t];simp);simp only[t]at this;simp only[yD,cmpc,kH,this]
abbrev eqI:Int->Int->Bool:=fun y x=>decide (y=x)
theorem U4:∀(l:List Int) (x:Int),(x :: l).Pairwise (·<=·)->sorted (x :: jg eqI x l)/\∀ t,t∈x :: jg eqI x l↔t∈x :: l
 | [],x,_=>⟨List.pairwise_singleton _ _,fun t=>Iff.rfl⟩
 |y :: l,x,h=>by
  obtain⟨r,g⟩:=VS.1 h;have C:=r y (qU ..);by_cases e:y=x
  .have j:jg eqI x (y :: l)=jg eqI y l:=by simp[jg,e]
   rw[j,e];have I:(x :: l).Pairwise (·<=·):=by rw[e]at g;exact g
   obtain⟨o,i⟩:=U4 l x I;refine⟨o,fun t=>?_⟩;rw[i];simp
  .have j:jg eqI x (y :: l)=y :: jg eqI y l:=by simp[jg,e]
   rw[j];obtain⟨o,i⟩:=U4 l y g;refine⟨VS.2 ⟨fun t p=>?_,o⟩,fun t=>?_⟩
   .rcases qw.1 ((i t).1 p) with rfl|p
    .omega
    .have:=(VS.1 g).1 t p;omega
   .rw [qw,i,qw (l:=y :: l)]
theorem qdU(l:List Int)(h:l.Pairwise (·<=·)):sorted (cmpc eqI l)/\∀ t,t∈cmpc eqI l↔t∈l:=by
 cases l with
 |nil=>exact⟨List.Pairwise.nil,fun t=>Iff.rfl⟩
 |cons x l=>exact U4 l x h
theorem qdV(l:List Int):(srtI l).Pairwise (·<=·):=by
 have:=List.pairwise_mergeSort (le:=fun x y:Int=>decide (x<=y)) (fun a b c g i=>by simp at *;omega) (fun a b=>by simp;omega) l;exact this.imp fun h=>by simpa using h
theorem qdW(l:List Int)(t:Int):t∈srtI l↔t∈l:=(List.mergeSort_perm l _).mem_iff
theorem qdX(l:List Int):cmpc eqI (srtI l)=ofL l:=by
 obtain⟨g,i⟩:=qdU _ (qdV l);obtain⟨j,o⟩:=JY l;exact kD g j fun t=>by rw[i,o,qdW]
end
end EJ
namespace EM
theorem sortE{mu:Mu}{b:Nat}{zs:List Int}(i:mu[b]?=some (.arr (zs.map aI)))(p:zs.length<=1000000000) :
  qP qc 183 [.sl b 1 0 zs.length] mu fun e m=>e = .ret (.tup [])/\m=mu.set b (.arr ((srtI zs).map aI)):=by
 have:=qdL (P:=qc) call183 (fun g off cap zs w j l o=>Tryz.slices_Sort_int g off cap zs w j l o) (mu:=mu) (b:=b) (off:=0) (cells:=zs.map aI) (zs:=zs) i
  (fun k n h=>by rw[yf,zp,h];rfl) (by omega) (by simp)
 have e:putCells (zs.map aI) 0 ((srtI zs).map fun n => .sc (.int .i64 n))=(srtI zs).map aI:=by
  rw[yu _ _ _ (by simp[Z7])];simp[Z7]
 rw[e]at this;exact this
end EM
end Go.Proofs.YtpagnklaanbmbaaGreatDoor
namespace Go.Ev
open Go Go.RowKit
@[go_sem ↓] theorem qnK(P:qb)(pl:Pol)(det:Bool)(i:Option Tmp)(ev:zT->AV)(mu:Mu)(K j:AV->Mu->Prop)(l:List zT)(g:Array qf):qA P pl det i (.call ⟨.builtin .clear,l.toArray,g⟩) ev mu K j=wJ P mu .clear g (evs ev l) K:=eqS rfl
theorem qdY{P:qb}{mu:Mu}{K:AV->Mu->Prop}{t e:qf}{sz bt b off len:Nat}{cells:List AV}{zv:AV}(o:qC P t=some (e,sz,bt))(p:qB P e=some zv)(g:zv.cells.length=sz)(j:zv.cells.all AV.one=true)(l:sz≠0)
  (r:mu[b]?=some (.arr cells)) (C:off+len*sz<=cells.length) (I:0<len) (k:K (.tup []) (mu.set b (.arr (putCells cells off ((qt (len*sz)).map fun i=>zv.cells.getD (i % sz) .any))))):wJ P mu .clear #[t] [.sl b sz off len] K:=
 ⟨_,_,.clear o p g j l r C I,k⟩
end Go.Ev
namespace Go.Proofs.YtpagnklaanbmbaaGreatDoor
open Go Go.Ev Go.Proofs Tryz
namespace EN
open EJ
theorem U5{mu:Mu}{b:Nat}{c:Cell}(h:mu[b]?=some c):mu.set b c=mu:=by
 obtain⟨i,g⟩:=qj.1 h;rw[<-g];simp
theorem JZ(l:List Int)(i:Nat)(h:i<l.length):List.take 1 (List.drop i (l.map aI))=[aI l[i]]:=by
 rw[zG (by simpa using h)];simp
theorem qdZ(mu:Mu)(b:Nat)(g:List Int)(hl:g.length<=1000000)(hb:mu[b]?=some (.arr (g.map aI))) :
  qP qc 241 [.sl b 1 0 g.length] mu fun e m=>∃ cells,e = .ret (.sl b 1 0 (cmpc eqI g).length)/\m=mu.set b (.arr cells)/\cells.length=g.length/\cells.take (cmpc eqI g).length=(cmpc eqI g).map aI:=by
 refine qSW call241 func241 rfl {} ?_;simp[go_sem];by_cases h2:g.length<2
 .have hc:cmpc eqI g=g:=by
   match g,h2 with
   | [],_=>rfl
   | [x],_=>rfl
   |_ :: _ :: _,h=>simp only[zu]at h;omega
  simp[go_sem,show (g.length:Int)<2 by omega];rw[hc];exact⟨rfl,g.map aI,(U5 hb).symm,by simp,by rw[zN (by simp)]⟩
 simp[go_sem,show ¬(g.length:Int)<2 by omega];refine qk.keep (fun m st=>∃ k,m=g.length-k/\1<=k/\k<=g.length/\st.tm 0 = .sl b 1 0 g.length/\st.tm 3=aI (k:Nat)/\st.mu=mu/\cmpc eqI (g.take k)=g.take k) (g.length-1) ?_ ?_
 .refine ⟨1,by omega,by omega,by omega,by simp[go_sem],by simp[go_sem],by simp[go_sem],?_⟩
  match g,h2 with
  | [],h=>simp at h
  |x :: l,_=>simp[cmpc,jg]
 rintro m st ⟨k,rfl,a5,hk,e0,e3,hm,hi⟩;by_cases r:k<g.length
 .have hw:qi.wrap ((k:Int)-1)=((k-1:Nat):Int):=by rw[qg (by omega) (by omega)];omega
  have C:k-1<g.length:=by omega
  have r1:=JZ g k r;have r2:=JZ g (k-1) C;have g1:k+1<=g.length:=r;have g2:k-1+1<=g.length:=C;have p:=kI eqI g k a5 r;rw[hi]at p;simp[go_sem,e0,e3,hm,r];refine qm.intro (by kernel_rfl) ?_;by_cases hp:g[k]=g[k-1]
  .simp [go_sem,e0,e3,r,hb,hw,C,hp,r1,r2,g1,g2]
   rw[if_pos (by simpa using hp),zO]at p;simp[go_sem,hk];refine qk.keep (fun m2 st2=>∃(j i:Nat) (o:List Int),m2=g.length-(k+j)/\1<=j/\k+j<=g.length/\st2.tm 0 = .sl b 1 0 g.length/\st2.tm 3=aI (i:Nat)/\st2.tm 4 = .sl b 1 k (g.length-k)/\st2.tm 5=aI (j:Nat)/\o.length=g.length/\st2.mu=mu.set b (.arr (o.map aI))/\i=(cmpc eqI (g.take (k+j))).length/\i<=k+j-1/\o.take i=cmpc eqI (g.take (k+j))/\o.drop (k+j-1)=g.drop (k+j-1)) (g.length-(k+1)) ?_ ?_
   .refine ⟨1,k,g,by omega,by omega,by omega,by simp[go_sem,e0],by simp[go_sem,e3],by simp[go_sem],by simp[go_sem],rfl,?_,?_,by omega,?_,rfl⟩
    .simp [go_sem];exact(U5 hb).symm
    .rw [p,vK];omega
    .exact p.symm
   rintro m2 st2 ⟨j,i,o,rfl,af,hj,f0,f3,f4,f5,a0,a1,I,ag,J,T⟩;have U:b<mu.length:=(qj.1 hb).1;by_cases P:j<g.length-k
   .have a6:k+j<g.length:=by omega
    have c1:o[k+j]'(by omega)=g[k+j]:=by
     have:=congrArg (fun l=>l[1]?) T;simp only[yU]at this;rw[show k+j-1+1=k+j by omega,qz (by omega),qz (by omega)]at this;exact Option.some.inj this
    have c2:o[k+j-1]'(by omega)=g[k+j-1]:=by
     have:=congrArg (fun l=>l[0]?) T;simp only[yU,Nat.add_zero]at this;rw[qz (by omega),qz (by omega)]at this;exact Option.some.inj this
    have r1:=JZ o (k+j) (by omega);have r2:List.take 1 (List.drop (k+(j-1)) (o.map aI))=[aI (g[k+j-1]'(by omega))]:=by rw[show k+(j-1)=k+j-1 by omega,JZ o (k+j-1) (by omega),c2]
    rw[c1]at r1;have a2:qi.wrap ((j:Int)-1)=((j-1:Nat):Int):=by rw[qg (by omega) (by omega)];omega
    have a3:qi.wrap ((j:Int)+1)=((j+1:Nat):Int):=by rw[qg (by omega) (by omega)];omega
    have g3:j-1<g.length-k:=by omega
    have g4:k+j+1<=o.length:=by omega
    have g5:k+(j-1)+1<=o.length:=by omega
    have t:=kI eqI g (k+j) (by omega) a6;have a4:o.drop (k+j)=g.drop (k+j):=by
     have:=congrArg (List.drop 1) T;rw[List.drop_drop,List.drop_drop,show k+j-1+1=k+j by omega]at this;exact this
    simp[go_sem,f4,f5,a1,P];refine qm.intro (by kernel_rfl) ?_;by_cases R:g[k+j]=g[k+j-1]
    .rw [if_pos (by simpa using R),zO]at t
     simp[go_sem,f4,f5,P,U,r1,r2,a2,a3,g3,g4,g5,R];refine Keep.loop (g.length-(k+(j+1))) (by omega) ⟨j+1,i,o,rfl,by omega,by omega,by simp[go_sem,f0],by simp[go_sem,f3],by simp[go_sem,f4],by simp[go_sem],a0,by simp[go_sem],?_,by omega,?_,?_⟩
     .rw [show k+(j+1)=k+j+1 by omega,t];exact I
     .rw [show k+(j+1)=k+j+1 by omega,t];exact J
     .rw [show k+(j+1)-1=k+j by omega];exact a4
    .rw [if_neg (by simpa using R)]at t
     have a7:i<g.length:=by omega
     have a8:i+1<=o.length:=by omega
     have ae:i<o.length:=by omega
     have a9:qi.wrap ((i:Int)+1)=((i+1:Nat):Int):=by rw[qg (by omega) (by omega)];omega
     simp[go_sem,f0,f3,f4,f5,P,U,r1,r2,a2,a3,a9,g3,g4,g5,R,a7,a8];refine Keep.loop (g.length-(k+(j+1))) (by omega) ⟨j+1,i+1,o.set i g[k+j],rfl,by omega,by omega,by simp[go_sem,f0],by simp[go_sem],by simp[go_sem,f4],by simp[go_sem],by simp[a0],?_,?_,by omega,?_,?_⟩
     .simp [go_sem,List.map_set]
     .rw [show k+(j+1)=k+j+1 by omega,t,List.length_append];simp;omega
     .rw [show k+(j+1)=k+j+1 by omega,t,<-J,List.take_add_one,zr (by omega),List.take_set_of_le (by omega)];rfl
     .rw [show k+(j+1)-1=k+j by omega,List.drop_set_of_lt (by omega)];exact a4
   .have aa:k+j=g.length:=by omega
    rw[aa,q8]at I J;simp[go_sem,f0,f3,f4,f5,a1,P,show i<g.length by omega,show i<=g.length by omega];refine qdY (e:=3) (bt:=8) (zv:=aI 0) (cells:=o.map aI) (by simp[go_sem]) (by simp[go_sem]) rfl rfl (by omega) (by simp[U]) (by simp;omega) (by omega) ?_;have hZ:∀ zs:List AV,zs.length=g.length-i->(putCells (o.map aI) i zs).length=g.length/\(putCells (o.map aI) i zs).take i=(o.map aI).take i:=by
     intro zs hz;rw[yu _ _ _ (by simp;omega)];refine⟨by simp;omega,?_⟩;rw[zc,List.take_append,vK,Nat.min_eq_left (by simp;omega),Nat.sub_self,List.take_zero,zO,List.take_take,Nat.min_self]
    have hz:=hZ ((qt ((g.length-i)*1)).map fun j=>(aI 0).cells.getD (j % 1) .any) (by simp);generalize putCells (o.map aI) i _=Z at hz⊢;simp[go_sem,f0,f3,show i<=g.length by omega];refine⟨I,Z,rfl,hz.1,?_⟩;rw[<-I,hz.2,<-List.map_take,J]
  .rw [if_neg (by simpa using hp)]at p
   have ab:g.take (k+1)=g.take k++[g[k]]:=by rw[List.take_add_one,qz r];rfl
   simp[go_sem,e0,e3,r,hb,hw,C,hp,r1,r2,g1,g2];refine Keep.loop (g.length-(k+1)) (by omega) ⟨k+1,rfl,by omega,by omega,by simp[go_sem,e0],?_,by simp[go_sem],by rw[p,ab]⟩;simp[go_sem];exact qg (by omega) (by omega)
 .have ad:k=g.length:=by omega
  subst ad;rw[q8]at hi;simp[go_sem,e0,e3,hm];rw[hi];exact⟨rfl,g.map aI,(U5 hb).symm,by simp,by rw[zN (by simp)]⟩
end EN
end Go.Proofs.YtpagnklaanbmbaaGreatDoor
