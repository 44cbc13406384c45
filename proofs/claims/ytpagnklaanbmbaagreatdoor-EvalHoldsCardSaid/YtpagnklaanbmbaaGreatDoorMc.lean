/-
  Own library, part 3: an abstract reading of values and a calculus over it; contracts of functions; plain lemmas.
-/
import Derived.Test.YtpagnklaanbmbaaGreatDoorProg
import Derived.KernelRfl
import Derived.RecoverIn
import Derived.Sort.Grow
import Derived.Shelf.Small.Bits
import Derived.Shelf.Strconv.Itoa0
import Derived.Shelf.Strconv.Itoa1
import Derived.Shelf.LaysM
import Derived.Shelf.Strconv.Itoa2
import Derived.Shelf.Strconv.Itoa3
import Derived.Shelf.Sort.Plain
import Derived.Shelf.Bits.Mul64
import Derived.Ground.Names2Prog
import Derived.Shelf.Slices.Clone
import Derived.Shelf.Slices.CompactI
import Derived.Shelf.Slices.SearchI
import Derived.Shelf.Slices.Cells
import Derived.Shelf.Slices.In.SortNone
import Derived.Shelf.Slices.Empties
import Derived.Ground.SlgnProg
import Derived.Shelf.SlicesE.Clone
import Derived.Test.YtpagnklaanbmbaaGreatDoorMb
set_option linter.unusedVariables false
set_option linter.unusedSimpArgs false
set_option maxRecDepth 100000
open Go renaming Oper->xd,Program->j1,TypeId->j2,undef->xa,FuncId->wh,Operand->us,Value->uk,World->j3
open Go.Proofs.Tryz renaming prog->qb
open Nat renaming le_of_ble_eq_true->qh,le_refl->qm,zero_add->yy,lt_of_lt_of_le->ZL
open Go.IntKind renaming i64->qj
open List renaming getElem?_eq_some_iff->qk,getElem?_append_left->qo,mem_map->qr,mem_cons->qt,range->qu,getElem?_set_ne->qv,getElem_mem->qy,getElem?_eq_getElem->qA,not_mem_nil->qE,all_eq_true->qI,getElem?_set_self->qJ,mem_singleton->qL,mem_append->qM,mem_of_getElem?->qV,replicate->qZ,getElem?_append_right->zf,drop_eq_getElem_cons->zt,getElem?_map->zu,map_append->zx,length_cons->zG,map_cons->yc,take_of_length_le->ye,mem_range->yx,cons_append->jd,getElem?_eq_none->jj,getElem?_take->jp,getElem?_drop->jF,nodup_cons->vb,ext_getElem?->ui,getElem?_range->uH,nodup_append->uL,flatten_cons->wt,getElem?_toArray->Qf
open Option.some renaming injEq->qp
open Bool renaming and_eq_true->qB
open Array renaming getD_eq_getD_getElem?->qH,getElem?_eq_some_iff->yf,getElem?_eq_getElem->uM
open Option renaming map_some->zd
namespace Go.Ev
open Go Go.RowKit
section
variable {g:AV->St->Prop}{body:Code}{l:List xd}
theorem eqS{J:Sort _}{a b:J}(h:a=b):a=b:=h
abbrev aI(n:Int):AV := .sc (.int .i64 n)
abbrev aB(b:Bool):AV := .sc (.bool b)
def panQ(Q:qX->St->Prop):AV->St->Prop:=fun v U=>Q (.pan v) U
def retK(R:AEnd->Mu->Prop)(m:Mu):AV->Prop:=fun r=>R (.ret r) m
def qg(P:j1)(pl:Pol)(l:List xd)(Q:St->Prop)(i:AV->St->Prop)(st:St):Prop:=∃ g,Fz st g/\WC P pl l.toArray Q i g
theorem qg.intro{P:j1}{pl:Pol}{Q:St->Prop}{st:St}(h:Vs pl l.toArray=true)(k:awpS P pl true l.toArray l Q g st):qg P pl l Q g st:=⟨st,.refl st,.inl (.inl ⟨h,k⟩)⟩
theorem qg.move{P:j1}{pl:Pol}{Q:St->Prop}{st:St}(a d:Nat)(h:Vt pl l.toArray a (a+d)=true)(i:(Nat.blt 0 d&&Nat.blt (a+d) l.length)=true)(k:awpS P pl true l.toArray l Q g st)(j:awpS P pl true l.toArray (ju a d l) Q g st):qg P pl l Q g st:=by
 rw[qB]at i;exact⟨st,.refl st,.inl (.inr (.inr ⟨a,d,h,qh i.1,qh i.2,k,j⟩))⟩
theorem qg.tail{P:j1}{pl:Pol}{Q:St->Prop}{st:St}(n:Nat)(h:Wx pl l.toArray n=true)(k:awpS P pl true l.toArray (l.take n) (fun st=>awpS P pl false l.toArray (l.drop n) Q g st) g st):qg P pl l Q g st:=
 ⟨st,.refl st,.inl (.inr (.inl ⟨n,h,k⟩))⟩
@[go_sem ↓] theorem sameK_eq(st:St)(d:Tmp)(mu:Mu)(v:AV)(m:Mu):ZZ st d mu v m=(v=st.tm d/\m=mu):=eqS rfl
theorem qg.fz{P:j1}{pl:Pol}{Q:St->Prop}{st:St}(h:FzQ (fun _ st=>qg P pl l Q g st) (.exit 0) st):qg P pl l Q g st:=by
 obtain⟨i,f,_,st2,f2,j⟩:=h;exact⟨st2,.step f f2,j⟩
def panT(g:AV->St->Prop):AV->Mu->Prop:=fun v m=>∀ i,g v ⟨i,m⟩
@[go_sem ↓] theorem panT_eq(g:AV->St->Prop)(v:AV)(m:Mu):panT g v m=∀ i,g v ⟨i,m⟩:=eqS rfl
theorem qg.seg{P:j1}{pl:Pol}{Q:St->Prop}{st:St}(O:List Nat)(T:List (Nat×Nat×List Nat))(h:Vz pl l.toArray O=true)(i:plan pl l.toArray [] O=T)(j:wH P l.toArray T)(k:awpT P pl l.toArray Q g T st):qg P pl l Q g st:=by
 subst i;exact⟨st,.refl st,.inr ⟨O,h,j,k⟩⟩
def newO(P:j1):Nat->Option xd->Prop
 | 2,some o=>(match o.op with | .alloc e=>OptK (qC P e) fun z=>z.cells.all AV.one=true|_=>False)
 |_,_=>True
@[go_sem ↓] theorem newOk_nil(P:j1)(ops:Array xd):wH P ops []=True:=eqS rfl
@[go_sem ↓] theorem qpC(P:j1)(l:List xd)(j k:Nat)(r:List Nat)(T:List (Nat×Nat×List Nat)):wH P l.toArray ((j,k,r) :: T)=(newO P k l[j]?/\wH P l.toArray T):=by
 show ((match k,l.toArray[j]? with|2,some o=>(match o.op with | .alloc e=>OptK (qC P e) fun z=>z.cells.all AV.one=true|_=>False)|_,_=>True)/\wH P l.toArray T)=_;rw[Qf];congr 1
@[go_sem ↓] theorem newO_0(P:j1)(o:Option xd):newO P 0 o=True:=eqS rfl
@[go_sem ↓] theorem newO_1(P:j1)(o:Option xd):newO P 1 o=True:=eqS rfl
@[go_sem ↓] theorem newO_2(P:j1)(i:Option Tmp)(e:j2)(ty:j2)(pos:String)(after:Array Edge)(g:Option (Nat×Bool)):newO P 2 (some ⟨i,.alloc e,ty,pos,after,g⟩)=OptK (qC P e) (fun z=>z.cells.all AV.one=true):=eqS rfl
def segK(P:j1)(pl:Pol)(l:List xd)(Q:St->Prop)(i:AV->St->Prop)(r:List Nat)(T:List (Nat×Nat×List Nat))(g:Option Tmp)(st:St):AV->Mu->Prop:=fun v m=>uq P pl l.toArray r (st.put g v m)/\awpT P pl l.toArray Q i T (st.put g v m)
def segP(g:AV->St->Prop)(k:Nat):AV->Mu->Prop:=fun v m=>k=1/\∀ i,g v ⟨i,m⟩
def segO(P:j1)(pl:Pol)(l:List xd)(Q:St->Prop)(g:AV->St->Prop)(k:Nat)(r:List Nat)(T:List (Nat×Nat×List Nat))(st:St):Option xd->Prop
 |none=>False
 |some o=>OptK (yz l.toArray st o) fun b=>Br b (qD P pl (k != 1) o.dst o.op st.ev st.mu (segK P pl l Q g r T o.dst st) (segP g k)) (awpT P pl l.toArray Q g T (st.put o.dst (.sc xa) st.mu))
@[go_sem ↓] theorem awpT_nil(P:j1)(pl:Pol)(ops:Array xd)(Q:St->Prop)(g:AV->St->Prop)(st:St):awpT P pl ops Q g [] st=Q st:=eqS rfl
@[go_sem ↓] theorem awpT_cons(P:j1)(pl:Pol)(l:List xd)(Q:St->Prop)(g:AV->St->Prop)(j k:Nat)(r:List Nat)(T:List (Nat×Nat×List Nat))(st:St):awpT P pl l.toArray Q g ((j,k,r) :: T) st=segO P pl l Q g k r T st l[j]?:=by
 show (match l.toArray[j]? with|none=>False|some o=>OptK (yz l.toArray st o) fun b=>Br b (qD P pl (k != 1) o.dst o.op st.ev st.mu (fun v m=>uq P pl l.toArray r (st.put o.dst v m)/\awpT P pl l.toArray Q g T (st.put o.dst v m)) (fun v m=>k=1/\∀ i,g v ⟨i,m⟩)) (awpT P pl l.toArray Q g T (st.put o.dst (.sc xa) st.mu)))=_;rw[Qf];cases l[j]?<;>rfl
@[go_sem ↓] theorem segO_0(P:j1)(pl:Pol)(l:List xd)(Q:St->Prop)(i:AV->St->Prop)(r:List Nat)(T:List (Nat×Nat×List Nat))(st:St)(g:Option Tmp)(op:Op)(ty:j2)(pos:String)(after:Array Edge) :
  segO P pl l Q i 0 r T st (some ⟨g,op,ty,pos,after,none⟩)=qD P pl true g op st.ev st.mu (segK P pl l Q i r T g st) noK:=by
 have:segP i 0=noK:=by funext v m;simp[segP,noK]
 show OptK (some true) (fun b=>Br b (qD P pl true g op st.ev st.mu (segK P pl l Q i r T g st) (segP i 0)) _)=_;rw[this];simp[OptK,Br]
@[go_sem ↓] theorem segO_1(P:j1)(pl:Pol)(l:List xd)(Q:St->Prop)(i:AV->St->Prop)(r:List Nat)(T:List (Nat×Nat×List Nat))(st:St)(g:Option Tmp)(op:Op)(ty:j2)(pos:String)(after:Array Edge) :
  segO P pl l Q i 1 r T st (some ⟨g,op,ty,pos,after,none⟩)=qD P pl false g op st.ev st.mu (segK P pl l Q i r T g st) (panT i):=by
 have:segP i 1=panT i:=by funext v m;simp[segP,panT]
 show OptK (some true) (fun b=>Br b (qD P pl false g op st.ev st.mu (segK P pl l Q i r T g st) (segP i 1)) _)=_;rw[this];simp[OptK,Br]
@[go_sem ↓] theorem segO_2(P:j1)(pl:Pol)(l:List xd)(Q:St->Prop)(i:AV->St->Prop)(r:List Nat)(T:List (Nat×Nat×List Nat))(st:St)(g:Option Tmp)(op:Op)(ty:j2)(pos:String)(after:Array Edge) :
  segO P pl l Q i 2 r T st (some ⟨g,op,ty,pos,after,none⟩)=qD P pl true g op st.ev st.mu (segK P pl l Q i r T g st) noK:=by
 have:segP i 2=noK:=by funext v m;simp[segP,noK]
 show OptK (some true) (fun b=>Br b (qD P pl true g op st.ev st.mu (segK P pl l Q i r T g st) (segP i 2)) _)=_;rw[this];simp[OptK,Br]
@[go_sem ↓] theorem segK_eq(P:j1)(pl:Pol)(l:List xd)(Q:St->Prop)(i:AV->St->Prop)(r:List Nat)(T:List (Nat×Nat×List Nat))(g:Option Tmp)(st:St)(v:AV)(m:Mu):segK P pl l Q i r T g st v m=(uq P pl l.toArray r (st.put g v m)/\awpT P pl l.toArray Q i T (st.put g v m)):=eqS rfl
@[go_sem ↓] theorem qpD(P:j1)(pl:Pol)(ops:Array xd)(st:St):uq P pl ops [] st=True:=eqS rfl
def pE(P:j1)(pl:Pol)(l:List xd)(st:St):Option xd->Prop
 |some o=>OptK (yz l.toArray st o) fun b=>Br b (Y0 P pl o st) True
 |none=>True
@[go_sem ↓] theorem qpE(P:j1)(pl:Pol)(l:List xd)(p:Nat)(r:List Nat)(st:St):uq P pl l.toArray (p :: r) st=(pE P pl l st l[p]?/\uq P pl l.toArray r st):=by
 show ((match l.toArray[p]? with|some o=>OptK (yz l.toArray st o) (fun b=>Br b (Y0 P pl o st) True)|none=>True)/\uq P pl l.toArray r st)=_;rw[Qf];cases l[p]?<;>rfl
@[go_sem ↓] theorem qpF(P:j1)(pl:Pol)(l:List xd)(st:St)(d:Tmp)(op:Op)(ty:j2)(pos:String)(after:Array Edge):pE P pl l st (some ⟨some d,op,ty,pos,after,none⟩)=qD P pl true (some d) op st.ev st.mu (ZZ st d st.mu) noK:=by
 show OptK (some true) (fun b=>Br b (qD P pl true (some d) op st.ev st.mu (ZZ st d st.mu) noK) True)=_;simp[OptK,Br]
def qn(P:j1)(pl:Pol)(body:Code)(Q:qX->St->Prop)(st:St):Prop:=∃(z:Bool) (I:Nat->St->Prop) (n:Nat) (g:St),Fz st g/\I n g/\∀ n st,I n st->awp P pl body (wI I n (fzQ z Q)) st
theorem qn.intro{P:j1}{pl:Pol}{Q:qX->St->Prop}{st:St}(I:Nat->St->Prop)(n:Nat)(h:I n st)(k:∀ n st,I n st->awp P pl body (wI I n Q) st):qn P pl body Q st:=⟨false,I,n,st,.refl st,h,k⟩
theorem qn.introF{P:j1}{pl:Pol}{Q:qX->St->Prop}{st:St}(I:Nat->St->Prop)(n:Nat)(h:I n st)(k:∀ n st,I n st->awp P pl body (wI I n (FzQ Q)) st):qn P pl body Q st:=⟨true,I,n,st,.refl st,h,k⟩
theorem qn.fz{P:j1}{pl:Pol}{Q:qX->St->Prop}{st:St}(h:FzQ (fun _ st=>qn P pl body Q st) (.exit 0) st):qn P pl body Q st:=by
 obtain⟨g,f,_,z,I,n,st2,f2,i⟩:=h;exact⟨z,I,n,st2,.step f f2,i⟩
def vC(P:j1)(pl:Pol)(g:AV)(ps:Array Tmp)(j body:Code)(Q:qX->St->Prop)(st:St):Prop:=
 ∃(z:Bool) (o:wh) (i:List AV) (rows:List (List AV)) (I:Nat->Mu->Prop) (l:qX->Mu->Prop),
   g = .fn (.func o) [] i/\pA P o i rows I l/\I 0 (st.mu++[.dead]) /\
   (∀ k x C,rows[k]?=some x->I k C->x.length=ps.size/\awp P pl j (asQ (fun st=>awp P pl body (rndQ I l k) st)) ⟨ur st.tm ps.toList x,C⟩) /\
   (∀ C,I rows.length C->fzQ z Q .normal ⟨st.tm,C⟩)/\(∀ e C,l e C->fzQ z Q e ⟨st.tm,C⟩)
theorem vC.intro{P:j1}{pl:Pol}{j:wh}{caps:List AV}{ps:Array Tmp}{g:Code}{Q:qX->St->Prop}{st:St}{rows:List (List AV)}(l:jw P j caps rows)(I:Nat->Mu->Prop)(i:qX->Mu->Prop)
  (o:I 0 (st.mu++[.dead])) (p:∀ k mu,I k mu->I k (mu++[.dead])) (r:∀ e mu,i e mu->i e (mu++[.dead]))
  (t:∀ k x mu,rows[k]?=some x->I k mu->x.length=ps.size/\awp P pl g (asQ (fun st=>awp P pl body (rndQ I i k) st)) ⟨ur st.tm ps.toList x,mu⟩)
  (C:∀ mu,I rows.length mu->Q .normal ⟨st.tm,mu⟩) (hx:∀ e mu,i e mu->Q e ⟨st.tm,mu⟩):vC P pl (.fn (.func j) [] caps) ps g body Q st:=
 ⟨false,j,caps,rows,I,i,rfl,.inl ⟨l,p,r⟩,o,t,C,hx⟩
@[go_sem] theorem setPs_nil(g:Nat->AV)(xs:List AV):ur g [] xs=g:=eqS (by cases xs<;>rfl)
@[go_sem] theorem qpG(g:Nat->AV)(t:Tmp)(ts:List Tmp)(x:AV)(xs:List AV):ur g (t :: ts) (x :: xs)=ur (fun i=>if i=t then x else g i) ts xs:=eqS rfl
@[go_sem] theorem qpH(n:St->Prop)(st:St):asQ n .normal st=n st:=eqS rfl
@[go_sem] theorem qpI(I:Nat->Mu->Prop)(g:qX->Mu->Prop)(k:Nat)(st:St):rndQ I g k .normal st=I (k+1) st.mu:=eqS rfl
@[go_sem] theorem rndQ_ret(I:Nat->Mu->Prop)(g:qX->Mu->Prop)(k:Nat)(st:St):rndQ I g k .ret st=g .ret st.mu:=eqS rfl
section
variable (P:j1) (pl:Pol) (Q:qX->St->Prop) (st:St)
@[go_sem ↓] theorem awp_skip:awp P pl .skip Q st=Q .normal st:=eqS rfl
@[go_sem ↓] theorem awp_exit(id:Nat):awp P pl (.exit id) Q st=Q (.exit id) st:=eqS rfl
@[go_sem ↓] theorem awp_ret:awp P pl .ret Q st=Q .ret st:=eqS rfl
@[go_sem ↓] theorem qfG(a b:Code):awp P pl (.seq a b) Q st=awp P pl a (seqQ (awp P pl b Q) Q) st:=eqS rfl
@[go_sem ↓] theorem awp_block(id:Nat)(b:Code):awp P pl (.block id b) Q st=awp P pl b (vB id Q) st:=eqS rfl
@[go_sem ↓] theorem awp_loop(b:Code):awp P pl (.loop b) Q st=qn P pl b Q st:=eqS rfl
@[go_sem ↓] theorem qpJ(g:us)(ps:Array Tmp)(i body:Code):awp P pl (.rangeFunc g ps i body) Q st=vC P pl (st.ev g) ps i body Q st:=eqS rfl
@[go_sem ↓] theorem qpK(id:Nat)(l:List xd):awp P pl (.region id l.toArray false) Q st=awpS P pl false l.toArray l (Q .normal) (panQ Q) st:=
 propext ⟨fun h=>by rcases h with ⟨_,h⟩|⟨e,_⟩;exact h;exact absurd e zSp,fun h => .inl ⟨rfl,h⟩⟩
@[go_sem ↓] theorem qfH(id:Nat)(l:List xd):awp P pl (.region id l.toArray true) Q st=qg P pl l (Q .normal) (panQ Q) st:=
 propext ⟨fun h=>by rcases h with ⟨e,_⟩|⟨_,h⟩;exact absurd e zSp;exact h,fun h => .inr ⟨rfl,h⟩⟩
def BrS(b:Bool)(p q:St->Prop)(st:St):Prop:=Br b (p st) (q st)
@[go_sem ↓] theorem BrS_true(p q:St->Prop):BrS true p q st=p st:=by simp[BrS,Br]
@[go_sem ↓] theorem BrS_false(p q:St->Prop):BrS false p q st=q st:=by simp[BrS,Br]
@[go_sem] theorem BrS_true'(p q:St->Prop):BrS true p q st=p st:=by simp[BrS,Br]
@[go_sem] theorem qpL(p q:St->Prop):BrS false p q st=q st:=by simp[BrS,Br]
theorem BrS.intro{b:Bool}{p q:St->Prop}{st:St}(g:b=true->p st)(i:b=false->q st):BrS b p q st:=⟨g,i⟩
def WG(v:AV)(p q:St->Prop)(st:St):Prop:=∃ t,v = .sc (.bool t)/\Br t (p st) (q st)
@[go_sem ↓] theorem awp_cond(c:us)(a b:Code):awp P pl (.cond c a b) Q st=WG (st.ev c) (awp P pl a Q) (awp P pl b Q) st:=eqS rfl
@[go_sem] theorem qpM(t:Bool)(p q:St->Prop):WG (.sc (.bool t)) p q st=BrS t p q st:=by
 simp[WG,BrS]
@[go_sem ↓] theorem qpN(n:St->Prop):seqQ n Q .normal st=n st:=eqS rfl
@[go_sem ↓] theorem seqQ_exit(n:St->Prop)(i:Nat):seqQ n Q (.exit i) st=Q (.exit i) st:=eqS rfl
@[go_sem ↓] theorem seqQ_ret(n:St->Prop):seqQ n Q .ret st=Q .ret st:=eqS rfl
@[go_sem ↓] theorem seqQ_pan(n:St->Prop)(v:AV):seqQ n Q (.pan v) st=Q (.pan v) st:=eqS rfl
@[go_sem ↓] theorem qpO(i:Nat):vB i Q .normal st=Q .normal st:=eqS rfl
@[go_sem ↓] theorem qpP(i j:Nat):vB j Q (.exit i) st=if i=j then Q .normal st else Q (.exit i) st:=eqS rfl
@[go_sem ↓] theorem qpQ(i:Nat):vB i Q .ret st=Q .ret st:=eqS rfl
@[go_sem ↓] theorem qpR(i:Nat)(v:AV):vB i Q (.pan v) st=Q (.pan v) st:=eqS rfl
@[go_sem ↓] theorem qpS(I:Nat->St->Prop)(n:Nat):wI I n Q .normal st=∃ m,m<n/\I m st:=eqS rfl
@[go_sem ↓] theorem qpT(I:Nat->St->Prop)(n i:Nat):wI I n Q (.exit i) st=Q (.exit i) st:=eqS rfl
@[go_sem ↓] theorem loopQ_ret(I:Nat->St->Prop)(n:Nat):wI I n Q .ret st=Q .ret st:=eqS rfl
@[go_sem ↓] theorem panQ_eq(v:AV):panQ Q v st=Q (.pan v) st:=eqS rfl
@[go_sem ↓] theorem qpU(g:List ResultVar)(R:AEnd->Mu->Prop):Zo P g R .normal st=OptK (jL P st g) (retK R st.mu):=eqS rfl
@[go_sem ↓] theorem PostQ_ret(g:List ResultVar)(R:AEnd->Mu->Prop):Zo P g R .ret st=OptK (jL P st g) (retK R st.mu):=eqS rfl
@[go_sem ↓] theorem PostQ_pan(g:List ResultVar)(R:AEnd->Mu->Prop)(v:AV):Zo P g R (.pan v) st=R (.pan v) st.mu:=eqS rfl
@[go_sem ↓] theorem retK_eq(R:AEnd->Mu->Prop)(m:Mu)(r:AV):retK R m r=R (.ret r) m:=eqS rfl
@[go_sem] theorem qpV(r:ResultVar):jL P st [r]=resV P st r:=eqS rfl
@[go_sem] theorem qpW:jL P st []=some (.tup []):=eqS rfl
@[go_sem] theorem qpX(r s:ResultVar):jL P st [r,s]=(match resV P st r,resV P st s with|some x,some y=>some (.tup [x,y])|_,_=>none):=by
 grind [jL,resL,resV]
@[go_sem] theorem qpY(r s t:ResultVar):jL P st [r,s,t]=(match resV P st r,resV P st s,resV P st t with|some x,some y,some z=>some (.tup [x,y,z])|_,_,_=>none):=by
 simp only[jL,resL]
 grind
@[go_sem] theorem resV_tmp(t:Tmp):resV P st (.tmp t)=some (st.tm t):=eqS rfl
@[go_sem] theorem resV_cell(a:Tmp)(t:j2):resV P st (.cell a t)=wu P st.mu t (st.tm a):=eqS rfl
end
end
section
variable {α:Type}
@[go_sem] theorem OptK_some(v:α)(k:α->Prop):OptK (some v) k=k v:=by simp[OptK]
theorem OptK.intro{o:Option α}{k:α->Prop}(v:α)(h:o=some v)(g:k v):OptK o k:=⟨v,h,g⟩
end
section
variable (P:j1) (pl:Pol) (det:Bool) (ops:Array xd) (Q:St->Prop) (Qp:AV->St->Prop) (st:St)
def VC(P:j1)(pl:Pol)(det:Bool)(ops:Array xd)(l:List xd)(Q:St->Prop)(Qp:AV->St->Prop)(st:St)(g:Option Tmp):AV->Mu->Prop:=fun v m=>awpS P pl det ops l Q Qp (st.put g v m)
def panS(Qp:AV->St->Prop)(st:St):AV->Mu->Prop:=fun v m=>Qp v ⟨st.tm,m⟩
@[go_sem ↓] theorem contK_eq(l:List xd)(g:Option Tmp)(v:AV)(m:Mu):VC P pl det ops l Q Qp st g v m=awpS P pl det ops l Q Qp (st.put g v m):=eqS rfl
@[go_sem ↓] theorem panS_eq(v:AV)(m:Mu):panS Qp st v m=Qp v ⟨st.tm,m⟩:=eqS rfl
@[go_sem ↓] theorem awpS_nil:awpS P pl det ops [] Q Qp st=Q st:=eqS rfl
@[go_sem ↓] theorem qpZ(g:Option Tmp)(op:Op)(ty:j2)(pos:String)(after:Array Edge)(l:List xd):awpS P pl det ops (⟨g,op,ty,pos,after,none⟩ :: l) Q Qp st =
  qD P pl det g op st.ev st.mu (VC P pl det ops l Q Qp st g) (panS Qp st):=by
 simp[awpS,yz,OptK,Br];rfl
def runK(P:j1)(pl:Pol)(det:Bool)(ops:Array xd)(g:Option Tmp)(op:Op)(l:List xd)(Q:St->Prop)(Qp:AV->St->Prop):St->Prop:=fun st=>qD P pl det g op st.ev st.mu (VC P pl det ops l Q Qp st g) (panS Qp st)
def pF(P:j1)(pl:Pol)(det:Bool)(ops:Array xd)(g:Option Tmp)(l:List xd)(Q:St->Prop)(Qp:AV->St->Prop):St->Prop:=fun st=>awpS P pl det ops l Q Qp (st.put g (.sc xa) st.mu)
@[go_sem ↓] theorem runK_eq(g:Option Tmp)(op:Op)(l:List xd):runK P pl det ops g op l Q Qp st=qD P pl det g op st.ev st.mu (VC P pl det ops l Q Qp st g) (panS Qp st):=eqS rfl
@[go_sem ↓] theorem passK_eq(g:Option Tmp)(l:List xd):pF P pl det ops g l Q Qp st=awpS P pl det ops l Q Qp (st.put g (.sc xa) st.mu):=eqS rfl
def brK(p q:St->Prop)(st:St):Bool->Prop:=fun b=>BrS b p q st
@[go_sem ↓] theorem brK_eq(p q:St->Prop)(b:Bool):brK p q st b=BrS b p q st:=eqS rfl
def WH(d:Option Tmp)(st:St)(g:Bool)(p q:St->Prop):Prop:=OptK (match d with|none=>some false|some d=>ZY (st.tm d) g) (brK p q st)
@[go_sem ↓] theorem qp0(i:Option Tmp)(op:Op)(ty:j2)(pos:String)(after:Array Edge)(l:List xd)(j:Nat)(g:Bool)(ol:List xd) :
  awpS P pl det ol.toArray (⟨i,op,ty,pos,after,some (j,g)⟩ :: l) Q Qp st=WH ((ol[j]?).bind (·.dst)) st g (runK P pl det ol.toArray i op l Q Qp) (pF P pl det ol.toArray i l Q Qp):=by
 simp only[awpS,yz,WH,Qf];rfl
@[go_sem] theorem qp1(d:Tmp)(g:Bool)(p q:St->Prop):WH (some d) st g p q=OptK (ZY (st.tm d) g) (brK p q st):=eqS rfl
@[go_sem] theorem qp2(b g:Bool):ZY (.sc (.bool b)) g=some (b == g):=eqS rfl
@[go_sem] theorem qp3(g:Bool):ZY (.sc xa) g=some false:=eqS rfl
end
def plc(l:List (Nat×Nat)):Nat->Option (Nat×Nat):=fun i=>l.toArray[i]?
def plA(s:Nat):Nat->Option (Nat×Nat):=fun i=>some (i*s,s)
@[go_sem] theorem plc_zero(p:Nat×Nat)(l:List (Nat×Nat)):plc (p :: l) 0=some p:=by simp[plc]
@[go_sem] theorem plc_succ(p:Nat×Nat)(l:List (Nat×Nat))(i:Nat):plc (p :: l) (i+1)=plc l i:=by simp[plc]
@[go_sem] theorem plA_eq(s i:Nat):plA s i=some (i*s,s):=eqS rfl
section
variable (st:St) (v:AV) (m:Mu)
@[go_sem] theorem pG(d i:Tmp):(st.put (some d) v m).tm i=if i=d then v else st.tm i:=eqS rfl
@[go_sem] theorem qp4(i:Tmp):(st.put none v m).tm i=st.tm i:=eqS rfl
@[go_sem] theorem qP(d:Option Tmp):(st.put d v m).mu=m:=eqS rfl
@[go_sem] theorem st0_tm(args:List AV)(i:Tmp):(st0 args m).tm i=(args[i]?).getD (.sc xa):=eqS rfl
@[go_sem] theorem st0_mu(args:List AV):(st0 args m).mu=m:=eqS rfl
@[go_sem] theorem ev_tmp(t:Tmp):st.ev (.tmp t)=st.tm t:=eqS rfl
@[go_sem] theorem ev_const(c:uk):st.ev (.const c)=ofV c:=eqS rfl
@[go_sem] theorem ev_func(f:wh):st.ev (.func f) = .fn (.func f) [] []:=eqS rfl
@[go_sem] theorem ofV_int(k:IntKind)(n:Int):ofV (.int k n) = .sc (.int k n):=eqS rfl
@[go_sem] theorem ofV_bool(b:Bool):ofV (.bool b) = .sc (.bool b):=eqS rfl
@[go_sem] theorem qp5(s:ByteArray):ofV (.string s) = .sc (.string s):=eqS rfl
@[go_sem] theorem qp6:ofV (.slice none 0 0) = .lst true []:=eqS rfl
@[go_sem] theorem qp7:ofV .nilIface = .sc .nilIface:=eqS rfl
@[go_sem] theorem qp8:ofV .nilFunc = .sc .nilFunc:=eqS rfl
end
section
variable (P:j1) (pl:Pol) (det:Bool) (dst:Option Tmp) (ev:us->AV) (mu:Mu) (K Kp:AV->Mu->Prop)
def km(K:AV->Mu->Prop)(mu:Mu):AV->Prop:=fun z=>K z mu
def ks(K:AV->Mu->Prop):Mu->Prop:=fun m=>K (.sc xa) m
def kp(K:AV->Mu->Prop):AV×Mu->Prop:=fun z=>K z.1 z.2
def pH(K:AV->Mu->Prop)(mu:Mu):AV->Prop:=fun z=>z.cells.all AV.one=true/\K (.ptr mu.length 0) (mu++[.arr z.cells])
@[go_sem ↓] theorem km_eq(z:AV):km K mu z=K z mu:=eqS rfl
@[go_sem ↓] theorem ks_eq(m:Mu):ks K m=K (.sc xa) m:=eqS rfl
@[go_sem ↓] theorem kp_eq(z:AV)(m:Mu):kp K (z,m)=K z m:=eqS rfl
@[go_sem ↓] theorem allocK_eq(z:AV):pH K mu z=(z.cells.all AV.one=true/\K (.ptr mu.length 0) (mu++[.arr z.cells])):=eqS rfl
@[go_sem ↓] theorem qp9(x:us):qD P pl det dst (.move x) ev mu K Kp=K (ev x) mu:=eqS rfl
@[go_sem ↓] theorem qqA(x:us):qD P pl det dst (.assign x) ev mu K Kp=K (ev x) mu:=eqS rfl
def WI(v a b:AV)(k:AV->Prop):Prop:=∃ t,v = .sc (.bool t)/\k (if t then a else b)
@[go_sem ↓] theorem qqB(c a b:us):qD P pl det dst (.pick c a b) ev mu K Kp=WI (ev c) (ev a) (ev b) (km K mu):=eqS rfl
@[go_sem] theorem qqC(t:Bool)(a b:AV)(k:AV->Prop):WI (.sc (.bool t)) a b k=k (if t then a else b):=by simp[WI]
@[go_sem ↓] theorem qqD(e:j2):qD P pl det dst (.alloc e) ev mu K Kp=OptK (qC P e) (pH K mu):=eqS rfl
@[go_sem ↓] theorem SStep_box(e:j2)(x:us):qD P pl det dst (.box e x) ev mu K Kp=((ev x).cells.all AV.one=true/\(if (dst.any pl.mt.contains)=true then K (.ptr mu.length 0) (mu++[.arr (ev x).cells]) else K (.ip (ev x).cells) mu)):=eqS rfl
@[go_sem ↓] theorem qqE(t:j2)(ps:List (Nat×us)):qD P pl det dst (.build t ps.toArray) ev mu K Kp=(ym P t=true/\OptK (Vc P t (ps.map fun p=>(p.1,ev p.2))) (km K mu)):=eqS rfl
@[go_sem ↓] theorem qqF(t:j2)(n:Nat)(ps:List (Nat×us)):qD P pl det dst (.buildSlice t n ps.toArray) ev mu K Kp=OptK (Vd P t n (ps.map fun p=>(p.1,ev p.2))) (km K mu):=eqS rfl
@[go_sem ↓] theorem qqG(t:j2)(x:us):qD P pl det dst (.load t x) ev mu K Kp=OptK (wu P mu t (ev x)) (km K mu):=eqS rfl
@[go_sem ↓] theorem qqH(t:j2)(a x:us):qD P pl det dst (.store t a x) ev mu K Kp=OptK (J4 P mu t (ev a) (ev x)) (ks K):=eqS rfl
@[go_sem ↓] theorem qqI(x:us):qD P pl det dst (.nilCheck x) ev mu K Kp=OptK (Vl (ev x)) (km K mu):=eqS rfl
def vD(P:j1)(det:Bool)(op:BinOp)(t:j2)(x y:us)(ev:us->AV)(mu:Mu)(K:AV->Mu->Prop):Prop:=if uR y=true then jJ P det op t (ev x) (km K mu) else OptK (wC P op t (ev x) (ev y)) (km K mu)
@[go_sem ↓] theorem qqJ(op:BinOp)(t g:j2)(x y:us):qD P pl det dst (.binOp op t x y g) ev mu K Kp=vD P det op t x y ev mu K:=eqS rfl
@[go_sem ↓] theorem BinGo_tmp(op:BinOp)(t:j2)(x:us)(u:Tmp):vD P det op t x (.tmp u) ev mu K=OptK (wC P op t (ev x) (ev (.tmp u))) (km K mu):=by simp[vD,uR]
@[go_sem ↓] theorem BinGo_int(op:BinOp)(t:j2)(x:us)(k:IntKind)(n:Int):vD P det op t x (.const (.int k n)) ev mu K=OptK (wC P op t (ev x) (ev (.const (.int k n)))) (km K mu):=by simp[vD,uR]
@[go_sem ↓] theorem qqK(op:BinOp)(t:j2)(x:us)(s:ByteArray):vD P det op t x (.const (.string s)) ev mu K=OptK (wC P op t (ev x) (ev (.const (.string s)))) (km K mu):=by simp[vD,uR]
@[go_sem ↓] theorem qqL(op:BinOp)(t:j2)(x:us):vD P det op t x (.const .nilIface) ev mu K=OptK (wC P op t (ev x) (ev (.const .nilIface))) (km K mu):=by simp[vD,uR]
@[go_sem ↓] theorem qqM(op:BinOp)(t:j2)(x:us):vD P det op t x (.const (.pointer none)) ev mu K=OptK (wC P op t (ev x) (ev (.const (.pointer none)))) (km K mu):=by simp[vD,uR]
@[go_sem ↓] theorem BinGo_nil(op:BinOp)(t:j2)(x:us):vD P det op t x (.const (.slice none 0 0)) ev mu K=jJ P det op t (ev x) (km K mu):=by simp[vD,uR]
@[go_sem] theorem qqN(op:BinOp)(t:j2)(f:Bool)(r:List AV)(xs:List (List AV))(k:AV->Prop):jJ P det op t (.lst f (r :: xs)) k=((qN P t).isSome=true/\(op = .eql\/op = .neq)/\k (.sc (.bool (decide (op = .neq))))):=eqS rfl
@[go_sem] theorem NilGo_nil(op:BinOp)(t:j2)(f:Bool)(k:AV->Prop):jJ P det op t (.lst f []) k=((qN P t).isSome=true/\(op = .eql\/op = .neq)/\det=false/\k (.sc (.bool true))/\k (.sc (.bool false))):=eqS rfl
@[go_sem ↓] theorem qqO(op:UnOp)(t:j2)(x:us):qD P pl det dst (.unOp op t x) ev mu K Kp=OptK (aUn op (ev x)) (km K mu):=eqS rfl
@[go_sem ↓] theorem qqP(s t:j2)(x:us):qD P pl det dst (.convert s t x) ev mu K Kp=((P.underlying s).isSome=true/\OptK (J5 P s t (ev x)) (km K mu)):=eqS rfl
@[go_sem ↓] theorem qqQ(t:j2)(x:us):qD P pl det dst (.makeInterface t x) ev mu K Kp=(Zl P t=true/\K (.ifc t (ev x)) mu):=eqS rfl
@[go_sem ↓] theorem qqR(f:Fn)(a b:List us):qD P pl det dst (.makeFunc f a.toArray b.toArray) ev mu K Kp=K (.fn f (evs ev a) (evs ev b)) mu:=eqS rfl
@[go_sem ↓] theorem qqS(t:j2)(l c:us):qD P pl det dst (.makeSlice t l c) ev mu K Kp=OptK (YN P mu t (ev l) (ev c)) (kp K):=eqS rfl
@[go_sem ↓] theorem qqT(t:j2)(x:us)(lo g mx:Option us):qD P pl det dst (.slice t x lo g mx) ev mu K Kp=(kX P t (ev x)/\OptK (Vb P t (ev x) (lo.map ev) (g.map ev) (mx.map ev)) (km K mu)):=eqS rfl
@[go_sem ↓] theorem qqU(t:j2)(x:us)(f:Nat):qD P pl det dst (.fieldAddr t x f) ev mu K Kp=OptK (J6 P t f (ev x)) (km K mu):=eqS rfl
@[go_sem ↓] theorem qqV(t:j2)(x:us)(f:Nat):qD P pl det dst (.field t x f) ev mu K Kp=OptK (J9 P t f (ev x)) (km K mu):=eqS rfl
@[go_sem ↓] theorem qqW(t:j2)(x i:us):qD P pl det dst (.indexAddr t x i) ev mu K Kp=OptK (J7 P t (ev x) (ev i)) (km K mu):=eqS rfl
@[go_sem ↓] theorem qqX(t:j2)(x i:us):qD P pl det dst (.index t x i) ev mu K Kp=OptK (Va P t (ev x) (ev i)) (km K mu):=eqS rfl
@[go_sem ↓] theorem qqY(x:us)(i:Nat):qD P pl det dst (.extract x i) ev mu K Kp=OptK (Wk i (ev x)) (km K mu):=eqS rfl
@[go_sem ↓] theorem qqZ(x:us)(g t:j2)(ok:Bool):qD P pl det dst (.typeAssert x g t ok) ev mu K Kp=OptK (Vm P t ok (ev x)) (km K mu):=eqS rfl
@[go_sem ↓] theorem qq0(t:j2):qD P pl det dst (.makeMap t none) ev mu K Kp=K (.mp mu.length) (mu++[.mp []]):=by
 simp only[qD,true_and]
@[go_sem ↓] theorem qq1(t:j2)(m k:us)(ok:Bool):qD P pl det dst (.lookup t m k ok) ev mu K Kp=OptK (yg P mu t (ev m) (ev k) ok) (km K mu):=eqS rfl
@[go_sem ↓] theorem qq2(t:j2)(m k v:us):qD P pl det dst (.mapUpdate t m k v) ev mu K Kp=OptK (jt P mu t (ev m) (ev k) (ev v)) (ks K):=eqS rfl
@[go_sem ↓] theorem qq3(t:j2)(m k v:us):qD P pl det dst (.insert t m k v) ev mu K Kp=OptK (jt P mu t (ev m) (ev k) (ev v)) (ks K):=eqS rfl
@[go_sem ↓] theorem qq4(t:j2)(m:us):qD P pl det dst (.range t m) ev mu K Kp=OptK (Vj P mu t (ev m)) (kp K):=eqS rfl
@[go_sem ↓] theorem qq5(i:us):qD P pl false dst (.next i false) ev mu K Kp=Wi mu (ev i) K:=by
 simp only[qD,true_and]
@[go_sem ↓] theorem qq6(i:us):qD P pl det dst (.entry i) ev mu K Kp=OptK (Zk mu (ev i)) (km K mu):=eqS rfl
@[go_sem ↓] theorem qq7(x:us):qD P pl det dst (.panic x) ev mu K Kp=(det=false/\∃ t v,ev x = .ifc t v/\Kp (.ifc t v) mu):=eqS rfl
@[go_sem ↓] theorem qq8(f:us)(g:List us)(i:Array j2):qD P pl det dst (.call ⟨.value f,g.toArray,i⟩) ev mu K Kp=qc P det mu (ev f) (evs ev g) K Kp:=eqS rfl
def pI(P:j1)(mu:Mu)(g:Array j2)(l:List AV)(K:AV->Mu->Prop):Prop:=∃ s x,l=[s,x]/\qF P mu g s x K
@[go_sem ↓] theorem qq9(g:List us)(i:Array j2):qD P pl det dst (.call ⟨.builtin .append,g.toArray,i⟩) ev mu K Kp=pI P mu i (evs ev g) K:=eqS rfl
@[go_sem] theorem AppGo_eq(g:Array j2)(s x:AV):pI P mu g [s,x] K=qF P mu g s x K:=
 propext ⟨fun⟨_,_,e,h⟩=>by cases e;exact h,fun h=>⟨s,x,rfl,h⟩⟩
@[go_sem ↓] theorem qrA(g:List us)(i:Array j2):qD P pl det dst (.call ⟨.builtin .copy,g.toArray,i⟩) ev mu K Kp=un P mu .copy i (evs ev g) K:=eqS rfl
@[go_sem ↓] theorem qrB(g:List us)(i:Array j2):qD P pl det dst (.call ⟨.builtin .delete,g.toArray,i⟩) ev mu K Kp=un P mu .delete i (evs ev g) K:=eqS rfl
theorem qfI{P:j1}{mu:Mu}{K:AV->Mu->Prop}{t i g et:j2}{b:Nat}{es:List (AV×AV)}{k:AV}{r:Option Nat}(j:mapT P t=some (g,et))(l:mu[b]?=some (.mp es))(o:y6 P g k=true)(hf:zm P g k es 0=some r)
  (p:K (.tup []) (mu.set b (.md (delE es r)))):un P mu .delete #[t,i] [.mp b,k] K:=⟨_,_,.delete j l o hf,p⟩
theorem WJ{P : j1}{mu : Mu}{K : AV->Mu->Prop}{t l : j2}{sz g b off len : Nat}{cells : List AV}{ys : List (List AV)}{x : AV}(i : (qN P t).map (fun x => x.2.1) = some sz)(o : mu[b]? = some (.arr cells))(p : off + len * sz<=cells.length)
      (r:qO mu x=some ys) (C:zy sz ys) (k:K (.sc (.int .i64 ((min ys.length len:Nat):Int))) (mu.set b (.arr (putCells cells off (ys.take len).flatten)))):un P mu .copy #[t,l] [.sl b g off len,x] K:=by
  cases j:qN P t with
  |none=>simp[j]at i
  |some q =>
    obtain⟨e,I,J⟩:=q;simp only[j,zd,qp]at i;subst i;exact⟨_,_,.copy j o p r C,k⟩
@[go_sem ↓] theorem SStep_len(g:List us)(i:Array j2):qD P pl det dst (.call ⟨.builtin .len,g.toArray,i⟩) ev mu K Kp=OptK (um P mu .len i (evs ev g)) (km K mu):=eqS rfl
@[go_sem ↓] theorem SStep_cap(g:List us)(i:Array j2):qD P pl det dst (.call ⟨.builtin .cap,g.toArray,i⟩) ev mu K Kp=OptK (um P mu .cap i (evs ev g)) (km K mu):=eqS rfl
@[go_sem ↓] theorem SStep_min(g:List us)(i:Array j2):qD P pl det dst (.call ⟨.builtin .min,g.toArray,i⟩) ev mu K Kp=OptK (um P mu .min i (evs ev g)) (km K mu):=eqS rfl
@[go_sem ↓] theorem SStep_max(g:List us)(i:Array j2):qD P pl det dst (.call ⟨.builtin .max,g.toArray,i⟩) ev mu K Kp=OptK (um P mu .max i (evs ev g)) (km K mu):=eqS rfl
@[go_sem] theorem evs_nil:evs ev []=[]:=eqS rfl
@[go_sem] theorem evs_cons(x:us)(l:List us):evs ev (x :: l)=ev x :: evs ev l:=eqS rfl
end
@[go_sem] theorem cells_agg(cs:List AV):(AV.agg cs).cells=cs:=eqS rfl
@[go_sem] theorem cells_sc(v:uk):(AV.sc v).cells=[.sc v]:=eqS rfl
@[go_sem] theorem cells_lst(f:Bool)(xs:List (List AV)):(AV.lst f xs).cells=[.lst f xs]:=eqS rfl
@[go_sem] theorem cells_ip(cs:List AV):(AV.ip cs).cells=[.ip cs]:=eqS rfl
@[go_sem] theorem cells_ptr(b o:Nat):(AV.ptr b o).cells=[.ptr b o]:=eqS rfl
@[go_sem] theorem cells_mp(b:Nat):(AV.mp b).cells=[.mp b]:=eqS rfl
@[go_sem] theorem cells_fn(f:Fn)(a b:List AV):(AV.fn f a b).cells=[.fn f a b]:=eqS rfl
@[go_sem] theorem one_int(k:IntKind)(n:Int):(AV.sc (.int k n)).one=true:=eqS rfl
@[go_sem] theorem one_bool(b:Bool):(AV.sc (.bool b)).one=true:=eqS rfl
@[go_sem] theorem qrC(s:ByteArray):(AV.sc (.string s)).one=true:=eqS rfl
@[go_sem] theorem qrD:(AV.sc .nilFunc).one=true:=eqS rfl
@[go_sem] theorem qrE:(AV.sc (.pointer none)).one=true:=eqS rfl
@[go_sem] theorem qrF:(AV.sc (.map none)).one=true:=eqS rfl
@[go_sem] theorem one_lst(f:Bool)(xs:List (List AV)):(AV.lst f xs).one=true:=eqS rfl
@[go_sem] theorem one_ip(cs:List AV):(AV.ip cs).one=true:=eqS rfl
@[go_sem] theorem one_ptr(b o:Nat):(AV.ptr b o).one=true:=eqS rfl
@[go_sem] theorem one_mp(b:Nat):(AV.mp b).one=true:=eqS rfl
@[go_sem] theorem one_ims(es:List (AV×AV)):(AV.ims es).one=true:=eqS rfl
@[go_sem] theorem one_fn(f:Fn)(a b:List AV):(AV.fn f a b).one=true:=eqS rfl
@[go_sem] theorem qrG(x:xd)(l:List xd):jX 0 x l=x :: l:=eqS (by cases l<;>rfl)
@[go_sem] theorem qrH(d:Nat)(x y:xd)(l:List xd):jX (d+1) x (y :: l)=y :: jX d x l:=eqS rfl
@[go_sem] theorem qrI(d:Nat)(x:xd)(l:List xd):ju 0 d (x :: l)=jX d x l:=eqS rfl
@[go_sem] theorem qrJ(n d:Nat)(x:xd)(l:List xd):ju (n+1) d (x :: l)=x :: ju n d l:=eqS rfl
end Go.Ev
namespace Go.Ev
open Go Go.RowKit
section
variable {g:AV->St->Prop}{ops:Array xd}{pl:Pol}{P:j1}
theorem qD.mono{det:Bool}{J:Option Tmp}{op:Op}{ev:us->AV}{mu:Mu}{K K' Kp T:AV->Mu->Prop}(h:qD P pl det J op ev mu K Kp)
  (o:∀ v m,K v m->K' v m) (U:∀ v m,Kp v m->T v m):qD P pl det J op ev mu K' T:=by
 cases op<;>simp only[qD]at h⊢<;>try (exact h.elim)
 case move=>exact o _ _ h
 case assign=>exact o _ _ h
 case makeFunc=>exact o _ _ h
 case pick=>obtain⟨t,l,j⟩:=h;exact⟨t,l,o _ _ j⟩
 case alloc=>obtain⟨z,l,j,C⟩:=h;exact⟨z,l,j,o _ _ C⟩
 case box =>
  obtain⟨l,j⟩:=h;refine⟨l,?_⟩;split at j
  .rename_i hc;rw[if_pos hc];exact o _ _ j
  .rename_i hc;rw[if_neg hc];exact o _ _ j
 case build=>obtain⟨p,z,l,j⟩:=h;exact⟨p,z,l,o _ _ j⟩
 case buildSlice=>obtain⟨z,l,j⟩:=h;exact⟨z,l,o _ _ j⟩
 case load=>obtain⟨z,l,j⟩:=h;exact⟨z,l,o _ _ j⟩
 case store=>obtain⟨z,l,j⟩:=h;exact⟨z,l,o _ _ j⟩
 case nilCheck=>obtain⟨z,l,j⟩:=h;exact⟨z,l,o _ _ j⟩
 case binOp =>
  split at h
  .rename_i hy
   simp only[if_pos hy];exact h.mono fun z hz=>o _ _ hz
  .rename_i hy
   simp only[if_neg hy];obtain⟨z,l,j⟩:=h;exact⟨z,l,o _ _ j⟩
 case unOp=>obtain⟨z,l,j⟩:=h;exact⟨z,l,o _ _ j⟩
 case convert=>obtain⟨p,z,l,j⟩:=h;exact⟨p,z,l,o _ _ j⟩
 case makeInterface=>obtain⟨p,j⟩:=h;exact⟨p,o _ _ j⟩
 case makeSlice=>obtain⟨z,l,j⟩:=h;exact⟨z,l,o _ _ j⟩
 case slice=>obtain⟨p,z,l,j⟩:=h;exact⟨p,z,l,o _ _ j⟩
 case fieldAddr=>obtain⟨z,l,j⟩:=h;exact⟨z,l,o _ _ j⟩
 case field=>obtain⟨z,l,j⟩:=h;exact⟨z,l,o _ _ j⟩
 case indexAddr=>obtain⟨z,l,j⟩:=h;exact⟨z,l,o _ _ j⟩
 case index=>obtain⟨z,l,j⟩:=h;exact⟨z,l,o _ _ j⟩
 case extract=>obtain⟨z,l,j⟩:=h;exact⟨z,l,o _ _ j⟩
 case typeAssert=>obtain⟨z,l,j⟩:=h;exact⟨z,l,o _ _ j⟩
 case makeMap=>obtain⟨p,j⟩:=h;exact⟨p,o _ _ j⟩
 case lookup=>obtain⟨z,l,j⟩:=h;exact⟨z,l,o _ _ j⟩
 case mapUpdate=>obtain⟨z,l,j⟩:=h;exact⟨z,l,o _ _ j⟩
 case insert=>obtain⟨z,l,j⟩:=h;exact⟨z,l,o _ _ j⟩
 case mapEntry=>obtain⟨z,l,j⟩:=h;exact⟨z,l,o _ _ j⟩
 case entryStore=>obtain⟨z,l,j⟩:=h;exact⟨z,l,o _ _ j⟩
 case range=>obtain⟨z,l,j⟩:=h;exact⟨z,l,o _ _ j⟩
 case next=>obtain⟨p,a0,b,I,seen,l,j,C,h4⟩:=h;exact⟨p,a0,b,I,seen,l,j,fun i e a c=>o _ _ (C i e a c),fun a=>o _ _ (h4 a)⟩
 case entry=>obtain⟨z,l,j⟩:=h;exact⟨z,l,o _ _ j⟩
 case panic=>obtain⟨p,t,v,l,j⟩:=h;exact⟨p,t,v,l,U _ _ j⟩
 case call c =>
  obtain⟨callee,args,a1⟩:=c;cases callee with
  |invoke r m=>exact h.elim
  |value f =>
   rcases h with ⟨v,l,j⟩|⟨l,⟨g,fi,ca,R,j,C,h4,h5⟩|⟨i,R,j,C,h4⟩⟩
   .exact .inl ⟨v,l,o _ _ j⟩
   .exact .inr ⟨l,.inl ⟨g,fi,ca,R,j,C,fun r m h=>o _ _ (h4 r m h),fun r m h=>U _ _ (h5 r m h)⟩⟩
   .exact .inr ⟨l,.inr ⟨i,R,j,C,fun b m h=>o _ _ (h4 b m h)⟩⟩
  |builtin b =>
   cases b<;>simp only at h⊢<;>try (first | (obtain⟨z,m,l,j⟩:=h;exact⟨z,m,l,o _ _ j⟩) | (obtain⟨z,l,j⟩:=h;exact⟨z,l,o _ _ j⟩))
   obtain⟨s,x,l,h⟩:=h;exact⟨s,x,l,h.mono o⟩
theorem awpS.mono{det:Bool}{Q j:St->Prop}{p:AV->St->Prop}(t:∀ st,Q st->j st)(i:∀ v st,p v st->g v st) :
  ∀(l:List xd) (st:St),awpS P pl det ops l Q p st->awpS P pl det ops l j g st:=by
 intro l;induction l with
 |nil=>intro st h;exact t st h
 |cons o l r =>
  intro st ⟨b,C,I,J⟩;exact⟨b,C,fun e=>(I e).mono (fun v m h=>r _ h) (fun v m h=>i _ _ h),fun e=>r _ (J e)⟩
theorem awpT.mono{Q p:St->Prop}{t:AV->St->Prop}(J:∀ st,Q st->p st)(i:∀ v st,t v st->g v st) :
  ∀(l:List (Nat×Nat×List Nat)) (st:St),awpT P pl ops Q t l st->awpT P pl ops p g l st:=by
 intro l;induction l with
 |nil=>intro st h;exact J st h
 |cons e l C =>
  obtain⟨j,k,r⟩:=e;intro st h;simp only[awpT]at h⊢;cases I:ops[j]? with
  |none=>rw[I]at h;exact h
  |some o =>
   rw[I]at h;simp only at h⊢;obtain⟨b,R,T,U⟩:=h;exact⟨b,R,fun e=>qD.mono (T e) (fun v m h=>⟨h.1,C _ h.2⟩) (fun v m h=>⟨h.1,fun tm=>i _ _ (h.2 tm)⟩),fun e=>C _ (U e)⟩
theorem awp.mono:∀(c:Code) {Q o:qX->St->Prop} {st:St},awp P pl c Q st->(∀ e st,Q e st->o e st)->awp P pl c o st:=by
 intro c;induction c with
 |skip=>intro Q o st h j;exact j _ _ h
 |label l=>intro Q o st h j;exact j _ _ h
 |exit i=>intro Q o st h j;exact j _ _ h
 |ret=>intro Q o st h j;exact j _ _ h
 |region id g a3 =>
  intro Q o st h j;rcases h with ⟨p,r⟩|⟨p,r⟩
  .exact .inl ⟨p,awpS.mono (fun st h=>j _ _ h) (fun v st h=>j _ _ h) _ _ r⟩
  .obtain ⟨st1,J,r⟩:=r
   refine .inr ⟨p,st1,J,?_⟩;rcases r with (⟨R,h4⟩|⟨n,R,h4⟩|⟨a0,d,g1,g2,g3,g4,g5⟩)|⟨O,R,a2,h4⟩
   .exact .inl (.inl ⟨R,awpS.mono (fun st h=>j _ _ h) (fun v st h=>j _ _ h) _ _ h4⟩)
   .exact .inl (.inr (.inl ⟨n,R,awpS.mono (fun st h=>awpS.mono (fun st h=>j _ _ h) (fun v st h=>j _ _ h) _ _ h) (fun v st h=>j _ _ h) _ _ h4⟩))
   .exact .inl (.inr (.inr ⟨a0,d,g1,g2,g3,awpS.mono (fun st h=>j _ _ h) (fun v st h=>j _ _ h) _ _ g4,awpS.mono (fun st h=>j _ _ h) (fun v st h=>j _ _ h) _ _ g5⟩))
   .exact .inr ⟨O,R,a2,awpT.mono (fun st h=>j _ _ h) (fun v st h=>j _ _ h) _ _ h4⟩
 |seq a b T U =>
  intro Q o st h j;refine T (Q:=seqQ (awp P pl b Q) Q) h (fun e st h=>?_);cases e with
  |normal=>exact U h j
  |exit i=>exact j _ _ h
  |ret=>exact j _ _ h
  |pan v=>exact j _ _ h
 |cond a4 a b T U=>intro Q o st ⟨t,h0,p,r⟩ j;exact⟨t,h0,fun e=>T (p e) j,fun e=>U (r e) j⟩
 |block id b ih =>
  intro Q o st h j;refine ih (Q:=vB id Q) h (fun e st h=>?_);cases e with
  |normal=>exact j _ _ h
  |exit i =>
   simp only[vB]at h⊢;split at h
   .rename_i hi;rw[if_pos hi];exact j _ _ h
   .rename_i hi;rw[if_neg hi];exact j _ _ h
  |ret=>exact j _ _ h
  |pan v=>exact j _ _ h
 |loop b ih =>
  intro Q o st ⟨z,I,n,st1,J,h0,p⟩ j;have j:∀ e st,fzQ z Q e st->fzQ z o e st:=fun e st h=>by
   cases z with
   |false=>exact j e st h
   |true=>exact⟨h.choose,h.choose_spec.1,h.choose_spec.2.1,j e _ h.choose_spec.2.2⟩
  refine⟨z,I,n,st1,J,h0,fun n st hI=>ih (Q:=wI I n (fzQ z Q)) (p n st hI) (fun e st h=>?_)⟩;cases e with
  |normal=>exact h
  |exit i=>exact j _ _ h
  |ret=>exact j _ _ h
  |pan v=>exact j _ _ h
 |scope b ih=>intro Q o st h j;exact ih h j
 |rangeFunc f ps a5 b a6 a7 =>
  intro Q o st ⟨z,gf,a1,rows,I,Ix,p,r,R,h6,h7,h8⟩ j;have j:∀ e st,fzQ z Q e st->fzQ z o e st:=fun e st h=>by
   cases z with
   |false=>exact j e st h
   |true=>exact⟨h.choose,h.choose_spec.1,h.choose_spec.2.1,j e _ h.choose_spec.2.2⟩
  exact⟨z,gf,a1,rows,I,Ix,p,r,R,h6,fun C h=>j _ _ (h7 C h),fun e C h=>j _ _ (h8 e C h)⟩
 |goto l=>intro Q o st h j;exact h.elim
 |refuse w=>intro Q o st h j;exact h.elim
def upQ(I:Nat->St->Prop)(N k:Nat)(Q:qX->St->Prop):qX->St->Prop
 | .normal,U=>k<N/\I (k+1) U
 |e,U=>Q e U
section
variable (Q:qX->St->Prop) (st:St) (I:Nat->St->Prop) (N k:Nat)
@[go_sem ↓] theorem qrK:upQ I N k Q .normal st=(k<N/\I (k+1) st):=eqS rfl
@[go_sem ↓] theorem upQ_exit(i:Nat):upQ I N k Q (.exit i) st=Q (.exit i) st:=eqS rfl
@[go_sem ↓] theorem upQ_ret:upQ I N k Q .ret st=Q .ret st:=eqS rfl
@[go_sem ↓] theorem upQ_pan(v:AV):upQ I N k Q (.pan v) st=Q (.pan v) st:=eqS rfl
end
end
section
variable {K i:AV->Mu->Prop}{g:wh}{args args' caps xs ys:List AV}{mu:Mu}{P:j1}{st:St}{Q:qX->St->Prop}
theorem qn.up{pl:Pol}{body:Code}(N:Nat)(I:Nat->St->Prop)(j:I 0 st)(h:∀ k st,k<=N->I k st->awp P pl body (upQ I N k Q) st):qn P pl body Q st:=by
 refine qn.intro (fun n st=>∃ k,n=N-k/\k<=N/\I k st) N ⟨0,zOm,zOm,j⟩ ?_;rintro n st ⟨k,rfl,l,o⟩;refine awp.mono body (h k st l o) (fun e st g=>?_);cases e with
 |normal=>exact⟨N-(k+1),zW1 g.1,k+1,rfl,g.1,g.2⟩
 |exit i=>exact g
 |ret=>exact g
 |pan v=>exact g
theorem qn.upF{pl:Pol}{body:Code}(N:Nat)(I:Nat->St->Prop)(j:I 0 st)(h:∀ k st,k<=N->I k st->awp P pl body (upQ I N k (FzQ Q)) st):qn P pl body Q st:=by
 refine qn.introF (fun n st=>∃ k,n=N-k/\k<=N/\I k st) N ⟨0,zOm,zOm,j⟩ ?_;rintro n st ⟨k,rfl,l,o⟩;refine awp.mono body (h k st l o) (fun e st g=>?_);cases e with
 |normal=>exact⟨N-(k+1),zW1 g.1,k+1,rfl,g.1,g.2⟩
 |exit i=>exact g
 |ret=>exact g
 |pan v=>exact g
theorem qfJ(mu:Mu):∀ k,cutM (fun i=>!false) mu k=mu:=by
 induction mu with
 |nil=>intro k;rfl
 |cons c l g =>
  intro k;have:=g (k+1);simp[cutM]at this⊢;exact this
theorem FzQ.skip{e:qX}(h:Q e st):FzQ Q e st:=by
 refine⟨st,⟨fun _=>false,(qfJ _ 0).symm,fun i => .same _⟩,?_,h⟩;cases e<;>trivial
theorem FzQ.one{i d b:Nat}{x:AV}(g:Rd (cutM (fun j=>j == b) st.mu 0) (st.tm d) x)(k:Q (.exit i) (st.put (some d) x (cutM (fun j=>!(j == b)) st.mu 0))):FzQ Q (.exit i) st:=by
 refine⟨_,⟨fun j=>j == b,rfl,fun j=>?_⟩,trivial,k⟩;simp only[St.put];split
 .rename_i h;subst h;exact .rd _ _ g
 .exact .same _
theorem qc.pure{det:Bool}{v:AV}(j:qd P g args' v)(l:WKs args args')(k:K v mu) :
  qc P det mu (.fn (.func g) [] []) args K i:=
 .inl ⟨v,.inl ⟨g,[],[],args',rfl,j,.inl (zUs l)⟩,k⟩
theorem qc.clo{det:Bool}{v:AV}(j:qd P g args' v)(l:WKs (args++caps) args')(k:K v mu) :
  qc P det mu (.fn (.func g) [] caps) args K i:=
 .inl ⟨v,.inl ⟨g,[],caps,args',rfl,j,.inl (zUs l)⟩,k⟩
theorem qc.lend{det:Bool}{v:AV}(j:qd P g args' v)(l:Rds mu args args')(hf:FL v)(k:K v mu) :
  qc P det mu (.fn (.func g) [] []) args K i:=
 .inl ⟨v,.inl ⟨g,[],[],args',rfl,j,.inr ⟨zUs l,hf⟩⟩,k⟩
theorem qc.eff{R:AEnd->Mu->Prop}(j:qe P g (args++caps) mu R)(k:∀ r m,R (.ret r) m->K r m)(kp:∀ r m,R (.pan r) m->i r m) :
  qc P false mu (.fn (.func g) [] caps) args K i:=
 .inr ⟨rfl,.inl ⟨g,[],caps,R,rfl,zUs j,k,kp⟩⟩
theorem qc.yield{i:Nat}{R:Bool->Mu->Prop}{g:AV->Mu->Prop}(h:Vk P i args mu R)(k:∀ b m,R b m->K (.sc (.bool b)) m):qc P false mu (.yl i) args K g:=
 .inr ⟨rfl,.inr ⟨i,R,rfl,h,k⟩⟩
theorem jw.of{f:wh}{rows:List (List AV)}(g:je P f)
  (h:∀(i:Nat) (I:Nat->Mu->Prop) (j:Mu->Prop),(∀ k mu,I k mu->I k (mu++[.dead]))->(∀ mu,j mu->j (mu++[.dead]))->Yld P i rows I j->∀ mu,I 0 mu ->
   qe P f (.yl i :: caps) mu fun e mu'=>∃ r,e = .ret r/\(I rows.length mu'\/j mu')):jw P f caps rows:=⟨g,h⟩
theorem WKs.nil:WKs [] []:=trivial
theorem WKs.cons{x y:AV}(h:WK x y)(t:WKs xs ys):WKs (x :: xs) (y :: ys):=⟨h,t⟩
theorem WKs.zk{x:AV}(h:HF x)(t:WKs xs ys):WKs (x :: xs) (x :: ys):=⟨WK.hf h,t⟩
theorem WKs.zs{v:uk}(t:WKs xs ys):WKs (.sc v :: xs) (.sc v :: ys):=⟨WK.hf (HF.sc _),t⟩
def Own(mu:Mu)(sz:Nat)(av:AV)(xs:List (List AV)):Prop:=
 (av = .lst true xs)\/∃ b,av = .sl b sz 0 xs.length/\mu[b]?=some (.arr xs.flatten)
theorem Own.rows{sz:Nat}{av:AV}{xs:List (List AV)}(h:Own mu sz av xs)(w:jH sz xs):qO mu av=some xs:=by
 rcases h with rfl|⟨b,rfl,j⟩
 .rfl
 .have l:=jG w
  simp only[qO,j];rw[if_pos zOm];congr 1;apply ui;intro i;by_cases g:i<xs.length
  .simp only[zu,uH g,zd,yy]
   rw[qA g];congr 1;have o:=w _ (qy g);rw[<-kv w i,zt g,wt,List.take_append_of_le_length zOm,ye zOm]
  .rw [jj zSo,jj zOm]
theorem Own.rd{sz:Nat}{av:AV}{xs:List (List AV)}(h:Own mu sz av xs)(w:jH sz xs)(hf:∀ r,r∈xs->∀ c,c∈r->HF c):Rd mu av (.lst false xs):=by
 rcases h with rfl|⟨b,rfl,j⟩
 .exact .wk _ true _ (.hf _ (HF.lst hf))
 .have l:=jG w
  refine .sl b sz 0 xs.length xs.flatten xs j zOm rfl w (fun k x y hx i=>?_);rw[yy,i]at hx;cases hx;obtain⟨r,o,g⟩:=List.mem_flatten.1 (qV i);exact .hf _ (hf r o _ g)
end
end Go.Ev
namespace Go.Proofs.YtpagnklaanbmbaaGreatDoor
open Go Go.Ev Go.Proofs Tryz
namespace Ty
@[go_sem] theorem sz3:szOf qb 3=some 1:=eqS zKr
@[go_sem] theorem ag3:zg qb 3=some false:=eqS zKr
@[go_sem] theorem ze3:qC qb 3=some (.sc (.int .i64 0)):=eqS zKr
@[go_sem] theorem sz4:szOf qb 4=some 1:=eqS zKr
@[go_sem] theorem ag4:zg qb 4=some false:=eqS zKr
@[go_sem] theorem ze4:qC qb 4=some (.sc (.bool false)):=eqS zKr
@[go_sem] theorem bo4:UZ qb 4=true:=eqS zKr
@[go_sem] theorem ze5:qC qb 5=some (.sc (.int .u8 0)):=eqS zKr
@[go_sem] theorem sz9:szOf qb 9=some 1:=eqS zKr
@[go_sem] theorem ag9:zg qb 9=some false:=eqS zKr
@[go_sem] theorem ze9:qC qb 9=some (.sc (.string ⟨#[]⟩)):=eqS zKr
@[go_sem] theorem if20:U1 qb 20=true:=eqS zKr
@[go_sem] theorem ay20:U2 qb 20=true:=eqS zKr
@[go_sem] theorem sz22:szOf qb 22=some 1:=eqS zKr
@[go_sem] theorem ag22:zg qb 22=some false:=eqS zKr
@[go_sem] theorem sl22:qN qb 22=some (100,2,24):=eqS zKr
@[go_sem] theorem sz23:szOf qb 23=some 1:=eqS zKr
@[go_sem] theorem ag23:zg qb 23=some false:=eqS zKr
@[go_sem] theorem sl23:qN qb 23=some (102,3,48):=eqS zKr
@[go_sem] theorem sz24:szOf qb 24=some 1:=eqS zKr
@[go_sem] theorem ag24:zg qb 24=some false:=eqS zKr
@[go_sem] theorem sl24:qN qb 24=some (194,7,104):=eqS zKr
@[go_sem] theorem sz25:szOf qb 25=some 1:=eqS zKr
@[go_sem] theorem ag25:zg qb 25=some false:=eqS zKr
@[go_sem] theorem sl25:qN qb 25=some (123,6,80):=eqS zKr
@[go_sem] theorem sz27:szOf qb 27=some 4:=eqS zKr
@[go_sem] theorem ag27:zg qb 27=some true:=eqS zKr
@[go_sem] theorem ze27:qC qb 27=some (.agg [.lst true [],.lst true [],.lst true [],.lst true []]):=eqS zKr
@[go_sem] theorem pl27:yu qb 27=some (plc [(0,1),(1,1),(2,1),(3,1)]):=eqS zKr
@[go_sem] theorem fl27_0:qG qb 27 0=some (0,22,1):=eqS zKr
@[go_sem] theorem fl27_1:qG qb 27 1=some (1,23,1):=eqS zKr
@[go_sem] theorem fl27_2:qG qb 27 2=some (2,24,1):=eqS zKr
@[go_sem] theorem fl27_3:qG qb 27 3=some (3,25,1):=eqS zKr
@[go_sem] theorem zo27:ym qb 27=true:=eqS zKr
@[go_sem] theorem sz28:szOf qb 28=some 1:=eqS zKr
@[go_sem] theorem ag28:zg qb 28=some false:=eqS zKr
@[go_sem] theorem ze28:qC qb 28=some (.lst true []):=eqS zKr
@[go_sem] theorem sl28:qN qb 28=some (3,1,8):=eqS zKr
@[go_sem] theorem sz30:szOf qb 30=some 2:=eqS zKr
@[go_sem] theorem ag30:zg qb 30=some true:=eqS zKr
@[go_sem] theorem ze30:qC qb 30=some (.agg [.lst true [],.sc (.int .i64 0)]):=eqS zKr
@[go_sem] theorem pl30:yu qb 30=some (plc [(0,1),(1,1)]):=eqS zKr
@[go_sem] theorem fl30_0:qG qb 30 0=some (0,28,1):=eqS zKr
@[go_sem] theorem fl30_1:qG qb 30 1=some (1,3,1):=eqS zKr
@[go_sem] theorem zo30:ym qb 30=true:=eqS zKr
@[go_sem] theorem sz31:szOf qb 31=some 1:=eqS zKr
@[go_sem] theorem ag31:zg qb 31=some false:=eqS zKr
@[go_sem] theorem sl31:qN qb 31=some (105,1,24):=eqS zKr
@[go_sem] theorem sz33:szOf qb 33=some 4:=eqS zKr
@[go_sem] theorem ag33:zg qb 33=some true:=eqS zKr
@[go_sem] theorem ze33:qC qb 33=some (.agg [.lst true [],.sc (.int .i64 0),.lst true [],.sc (.int .i64 0)]):=eqS zKr
@[go_sem] theorem pl33:yu qb 33=some (plc [(0,2),(2,1),(3,1)]):=eqS zKr
@[go_sem] theorem fl33_0:qG qb 33 0=some (0,30,2):=eqS zKr
@[go_sem] theorem fl33_1:qG qb 33 1=some (2,31,1):=eqS zKr
@[go_sem] theorem fl33_2:qG qb 33 2=some (3,3,1):=eqS zKr
@[go_sem] theorem zo33:ym qb 33=true:=eqS zKr
@[go_sem] theorem sz34:szOf qb 34=some 1:=eqS zKr
@[go_sem] theorem ag34:zg qb 34=some false:=eqS zKr
@[go_sem] theorem sl34:qN qb 34=some (36,5,64):=eqS zKr
@[go_sem] theorem sz36:szOf qb 36=some 5:=eqS zKr
@[go_sem] theorem ag36:zg qb 36=some true:=eqS zKr
@[go_sem] theorem ze36:qC qb 36=some (.agg [.sc (.int .i64 0),.sc (.string ⟨#[]⟩),.sc (.int .i64 0),.lst true [],.sc (.int .i64 0)]):=eqS zKr
@[go_sem] theorem pl36:yu qb 36=some (plc [(0,1),(1,1),(2,1),(3,1),(4,1)]):=eqS zKr
@[go_sem] theorem fl36_0:qG qb 36 0=some (0,3,1):=eqS zKr
@[go_sem] theorem fl36_1:qG qb 36 1=some (1,9,1):=eqS zKr
@[go_sem] theorem fl36_2:qG qb 36 2=some (2,3,1):=eqS zKr
@[go_sem] theorem fl36_3:qG qb 36 3=some (3,34,1):=eqS zKr
@[go_sem] theorem fl36_4:qG qb 36 4=some (4,3,1):=eqS zKr
@[go_sem] theorem zo36:ym qb 36=true:=eqS zKr
@[go_sem] theorem sz43:szOf qb 43=some 1:=eqS zKr
@[go_sem] theorem ag43:zg qb 43=some false:=eqS zKr
@[go_sem] theorem ze43:qC qb 43=some (.sc (.int .i64 0)):=eqS zKr
@[go_sem] theorem co43:Zl qb 43=true:=eqS zKr
@[go_sem] theorem sl76:qN qb 76=some (28,1,24):=eqS zKr
@[go_sem] theorem sz89:szOf qb 89=some 1:=eqS zKr
@[go_sem] theorem ag89:zg qb 89=some false:=eqS zKr
@[go_sem] theorem ze89:qC qb 89=some (.lst true []):=eqS zKr
@[go_sem] theorem sl89:qN qb 89=some (4,1,1):=eqS zKr
@[go_sem] theorem sz100:szOf qb 100=some 2:=eqS zKr
@[go_sem] theorem ag100:zg qb 100=some true:=eqS zKr
@[go_sem] theorem ze100:qC qb 100=some (.agg [.sc (.string ⟨#[]⟩),.sc (.bool false)]):=eqS zKr
@[go_sem] theorem pl100:yu qb 100=some (plc [(0,1),(1,1)]):=eqS zKr
@[go_sem] theorem fl100_0:qG qb 100 0=some (0,9,1):=eqS zKr
@[go_sem] theorem fl100_1:qG qb 100 1=some (1,4,1):=eqS zKr
@[go_sem] theorem zo100:ym qb 100=true:=eqS zKr
@[go_sem] theorem sz102:szOf qb 102=some 3:=eqS zKr
@[go_sem] theorem ag102:zg qb 102=some true:=eqS zKr
@[go_sem] theorem ze102:qC qb 102=some (.agg [.sc (.string ⟨#[]⟩),.lst true [],.sc (.bool false)]):=eqS zKr
@[go_sem] theorem pl102:yu qb 102=some (plc [(0,1),(1,1),(2,1)]):=eqS zKr
@[go_sem] theorem fl102_0:qG qb 102 0=some (0,9,1):=eqS zKr
@[go_sem] theorem fl102_1:qG qb 102 1=some (1,28,1):=eqS zKr
@[go_sem] theorem fl102_2:qG qb 102 2=some (2,4,1):=eqS zKr
@[go_sem] theorem zo102:ym qb 102=true:=eqS zKr
@[go_sem] theorem sz104:szOf qb 104=some 2:=eqS zKr
@[go_sem] theorem ag104:zg qb 104=some true:=eqS zKr
@[go_sem] theorem ze104:qC qb 104=some (.agg [.sc (.int .i64 0),.lst true []]):=eqS zKr
@[go_sem] theorem pl104:yu qb 104=some (plc [(0,1),(1,1)]):=eqS zKr
@[go_sem] theorem fl104_0:qG qb 104 0=some (0,3,1):=eqS zKr
@[go_sem] theorem fl104_1:qG qb 104 1=some (1,28,1):=eqS zKr
@[go_sem] theorem zo104:ym qb 104=true:=eqS zKr
@[go_sem] theorem sz105:szOf qb 105=some 1:=eqS zKr
@[go_sem] theorem ag105:zg qb 105=some false:=eqS zKr
@[go_sem] theorem ze105:qC qb 105=some (.lst true []):=eqS zKr
@[go_sem] theorem sl105:qN qb 105=some (104,2,32):=eqS zKr
@[go_sem] theorem sz113:szOf qb 113=some 2:=eqS zKr
@[go_sem] theorem ag113:zg qb 113=some true:=eqS zKr
@[go_sem] theorem ze113:qC qb 113=some (.agg [.sc (.string ⟨#[]⟩),.sc (.int .i64 0)]):=eqS zKr
@[go_sem] theorem pl113:yu qb 113=some (plc [(0,1),(1,1)]):=eqS zKr
@[go_sem] theorem fl113_0:qG qb 113 0=some (0,9,1):=eqS zKr
@[go_sem] theorem fl113_1:qG qb 113 1=some (1,3,1):=eqS zKr
@[go_sem] theorem zo113:ym qb 113=true:=eqS zKr
@[go_sem] theorem sz114:szOf qb 114=some 1:=eqS zKr
@[go_sem] theorem ag114:zg qb 114=some false:=eqS zKr
@[go_sem] theorem sl114:qN qb 114=some (113,2,24):=eqS zKr
@[go_sem] theorem sl117:qN qb 117=some (137,2,16):=eqS zKr
@[go_sem] theorem sz123:szOf qb 123=some 6:=eqS zKr
@[go_sem] theorem ag123:zg qb 123=some true:=eqS zKr
@[go_sem] theorem ze123:qC qb 123=some (.agg [.sc (.string ⟨#[]⟩),.sc (.int .i64 0),.sc (.string ⟨#[]⟩),.sc (.int .i64 0),.lst true [],.sc (.int .i64 0)]):=eqS zKr
@[go_sem] theorem fl123_0:qG qb 123 0=some (0,9,1):=eqS zKr
@[go_sem] theorem fl123_1:qG qb 123 1=some (1,36,5):=eqS zKr
@[go_sem] theorem sz133:szOf qb 133=some 2:=eqS zKr
@[go_sem] theorem ag133:zg qb 133=some true:=eqS zKr
@[go_sem] theorem ze133:qC qb 133=some (.agg [.sc (.int .i64 0),.lst true []]):=eqS zKr
@[go_sem] theorem pl133:yu qb 133=some (plc [(0,1),(1,1)]):=eqS zKr
@[go_sem] theorem fl133_0:qG qb 133 0=some (0,3,1):=eqS zKr
@[go_sem] theorem fl133_1:qG qb 133 1=some (1,114,1):=eqS zKr
@[go_sem] theorem zo133:ym qb 133=true:=eqS zKr
@[go_sem] theorem sz137:szOf qb 137=some 2:=eqS zKr
@[go_sem] theorem ag137:zg qb 137=some true:=eqS zKr
@[go_sem] theorem ze137:qC qb 137=some (.agg [.sc (.int .i64 0),.sc (.int .i64 0)]):=eqS zKr
@[go_sem] theorem pl137:yu qb 137=some (plc [(0,1),(1,1)]):=eqS zKr
@[go_sem] theorem fl137_0:qG qb 137 0=some (0,43,1):=eqS zKr
@[go_sem] theorem zo137:ym qb 137=true:=eqS zKr
@[go_sem] theorem sl158:qN qb 158=some (5,1,1):=eqS zKr
@[go_sem] theorem sz192:szOf qb 192=some 1:=eqS zKr
@[go_sem] theorem ag192:zg qb 192=some false:=eqS zKr
@[go_sem] theorem sl192:qN qb 192=some (267,2,24):=eqS zKr
@[go_sem] theorem sz194:szOf qb 194=some 7:=eqS zKr
@[go_sem] theorem ag194:zg qb 194=some true:=eqS zKr
@[go_sem] theorem ze194:qC qb 194=some (.agg [.sc (.string ⟨#[]⟩),.lst true [],.sc (.int .i64 0),.sc (.string ⟨#[]⟩),.sc (.int .i64 0),.lst true [],.sc (.int .i64 0)]):=eqS zKr
@[go_sem] theorem fl194_0:qG qb 194 0=some (0,9,1):=eqS zKr
@[go_sem] theorem fl194_1:qG qb 194 1=some (1,192,1):=eqS zKr
@[go_sem] theorem fl194_2:qG qb 194 2=some (2,36,5):=eqS zKr
@[go_sem] theorem sz197:szOf qb 197=some 1:=eqS zKr
@[go_sem] theorem ag197:zg qb 197=some false:=eqS zKr
@[go_sem] theorem sl197:qN qb 197=some (9,1,16):=eqS zKr
@[go_sem] theorem sz199:szOf qb 199=some 7:=eqS zKr
@[go_sem] theorem ag199:zg qb 199=some true:=eqS zKr
@[go_sem] theorem ze199:qC qb 199=some (.agg [.lst true [],.lst true [],.lst true [],.lst true [],.lst true [],.sc (.int .i64 0),.sc (.int .i64 0)]):=eqS zKr
@[go_sem] theorem pl199:yu qb 199=some (plc [(0,4),(4,1),(5,1),(6,1)]):=eqS zKr
@[go_sem] theorem fl199_0:qG qb 199 0=some (0,27,4):=eqS zKr
@[go_sem] theorem fl199_1:qG qb 199 1=some (4,197,1):=eqS zKr
@[go_sem] theorem fl199_2:qG qb 199 2=some (5,3,1):=eqS zKr
@[go_sem] theorem fl199_3:qG qb 199 3=some (6,3,1):=eqS zKr
@[go_sem] theorem zo199:ym qb 199=true:=eqS zKr
@[go_sem] theorem sz203:szOf qb 203=some 1:=eqS zKr
@[go_sem] theorem ag203:zg qb 203=some false:=eqS zKr
@[go_sem] theorem ze203:qC qb 203=some (.sc (.pointer none)):=eqS zKr
@[go_sem] theorem sz204:szOf qb 204=some 1:=eqS zKr
@[go_sem] theorem ag204:zg qb 204=some false:=eqS zKr
@[go_sem] theorem mt204:mapT qb 204=some (9,4):=eqS zKr
@[go_sem] theorem ze206:qC qb 206=some (.agg [.lst true [],.lst true [],.lst true [],.lst true [],.sc (.map none),.sc (.int .i64 0),.sc (.int .i64 0)]):=eqS zKr
@[go_sem] theorem pl206:yu qb 206=some (plc [(0,4),(4,1),(5,1),(6,1)]):=eqS zKr
@[go_sem] theorem fl206_0:qG qb 206 0=some (0,27,4):=eqS zKr
@[go_sem] theorem fl206_1:qG qb 206 1=some (4,204,1):=eqS zKr
@[go_sem] theorem fl206_2:qG qb 206 2=some (5,3,1):=eqS zKr
@[go_sem] theorem fl206_3:qG qb 206 3=some (6,3,1):=eqS zKr
@[go_sem] theorem zo206:ym qb 206=true:=eqS zKr
@[go_sem] theorem mt212:mapT qb 212=some (9,292):=eqS zKr
@[go_sem] theorem ze215:qC qb 215=some (.agg [.lst true [],.sc (.int .i64 0),.lst true [],.sc (.int .i64 0),.lst true [],.lst true [],.lst true [],.lst true [],.sc (.int .i64 0)]):=eqS zKr
@[go_sem] theorem pl215:yu qb 215=some (plc [(0,4),(4,4),(8,1)]):=eqS zKr
@[go_sem] theorem fl215_0:qG qb 215 0=some (0,33,4):=eqS zKr
@[go_sem] theorem fl215_1:qG qb 215 1=some (4,27,4):=eqS zKr
@[go_sem] theorem fl215_2:qG qb 215 2=some (8,3,1):=eqS zKr
@[go_sem] theorem zo215:ym qb 215=true:=eqS zKr
@[go_sem] theorem sz228:szOf qb 228=some 1:=eqS zKr
@[go_sem] theorem ag228:zg qb 228=some false:=eqS zKr
@[go_sem] theorem sz243:szOf qb 243=some 1:=eqS zKr
@[go_sem] theorem ag243:zg qb 243=some false:=eqS zKr
@[go_sem] theorem ze243:qC qb 243=some (.sc (.map none)):=eqS zKr
@[go_sem] theorem mt243:mapT qb 243=some (3,3):=eqS zKr
@[go_sem] theorem sz245:szOf qb 245=some 1:=eqS zKr
@[go_sem] theorem ag245:zg qb 245=some false:=eqS zKr
@[go_sem] theorem ze245:qC qb 245=some (.sc .nilFunc):=eqS zKr
@[go_sem] theorem ze261:qC qb 261=some (.sc .nilFunc):=eqS zKr
@[go_sem] theorem mt262:mapT qb 262=some (3,261):=eqS zKr
@[go_sem] theorem sz267:szOf qb 267=some 2:=eqS zKr
@[go_sem] theorem ag267:zg qb 267=some true:=eqS zKr
@[go_sem] theorem ze267:qC qb 267=some (.agg [.sc (.string ⟨#[]⟩),.sc (.int .i64 0)]):=eqS zKr
@[go_sem] theorem fl267_0:qG qb 267 0=some (0,9,1):=eqS zKr
@[go_sem] theorem fl267_1:qG qb 267 1=some (1,3,1):=eqS zKr
@[go_sem] theorem sl269:qN qb 269=some (279,9,112):=eqS zKr
@[go_sem] theorem sl271:qN qb 271=none:=eqS zKr
@[go_sem] theorem ar271:ZO qb 271=some (64,4,1):=eqS zKr
@[go_sem] theorem sz273:szOf qb 273=some 65:=eqS zKr
@[go_sem] theorem ag273:zg qb 273=some true:=eqS zKr
@[go_sem] theorem ze273:qC qb 273=some (.agg [.sc (.int .i64 0),.sc (.bool false),.sc (.bool false),.sc (.bool false),.sc (.bool false),.sc (.bool false),.sc (.bool false),.sc (.bool false),.sc (.bool false),.sc (.bool false),.sc (.bool false),.sc (.bool false),.sc (.bool false),.sc (.bool false),.sc (.bool false),.sc (.bool false),.sc (.bool false),.sc (.bool false),.sc (.bool false),.sc (.bool false),.sc (.bool false),.sc (.bool false),.sc (.bool false),.sc (.bool false),.sc (.bool false),.sc (.bool false),.sc (.bool false),.sc (.bool false),.sc (.bool false),.sc (.bool false),.sc (.bool false),.sc (.bool false),.sc (.bool false),.sc (.bool false),.sc (.bool false),.sc (.bool false),.sc (.bool false),.sc (.bool false),.sc (.bool false),.sc (.bool false),.sc (.bool false),.sc (.bool false),.sc (.bool false),.sc (.bool false),.sc (.bool false),.sc (.bool false),.sc (.bool false),.sc (.bool false),.sc (.bool false),.sc (.bool false),.sc (.bool false),.sc (.bool false),.sc (.bool false),.sc (.bool false),.sc (.bool false),.sc (.bool false),.sc (.bool false),.sc (.bool false),.sc (.bool false),.sc (.bool false),.sc (.bool false),.sc (.bool false),.sc (.bool false),.sc (.bool false),.sc (.bool false)]):=eqS zKr
@[go_sem] theorem pl273:yu qb 273=some (plc [(0,1),(1,64)]):=eqS zKr
@[go_sem] theorem fl273_0:qG qb 273 0=some (0,3,1):=eqS zKr
@[go_sem] theorem fl273_1:qG qb 273 1=some (1,271,64):=eqS zKr
@[go_sem] theorem zo273:ym qb 273=true:=eqS zKr
@[go_sem] theorem ze279:qC qb 279=some (.agg [.sc (.string ⟨#[]⟩),.sc (.string ⟨#[]⟩),.sc (.bool false),.sc (.int .i64 0),.sc (.string ⟨#[]⟩),.sc (.int .i64 0),.lst true [],.sc (.int .i64 0),.sc (.int .i64 0)]):=eqS zKr
@[go_sem] theorem pl279:yu qb 279=some (plc [(0,1),(1,1),(2,1),(3,5),(8,1)]):=eqS zKr
@[go_sem] theorem fl279_0:qG qb 279 0=some (0,9,1):=eqS zKr
@[go_sem] theorem fl279_1:qG qb 279 1=some (1,9,1):=eqS zKr
@[go_sem] theorem fl279_2:qG qb 279 2=some (2,4,1):=eqS zKr
@[go_sem] theorem fl279_3:qG qb 279 3=some (3,36,5):=eqS zKr
@[go_sem] theorem fl279_4:qG qb 279 4=some (8,3,1):=eqS zKr
@[go_sem] theorem zo279:ym qb 279=true:=eqS zKr
@[go_sem] theorem sz281:szOf qb 281=some 1:=eqS zKr
@[go_sem] theorem ag281:zg qb 281=some false:=eqS zKr
@[go_sem] theorem sz285:szOf qb 285=some 2:=eqS zKr
@[go_sem] theorem ze285:qC qb 285=some (.agg [.sc (.int .i64 0),.sc (.int .i64 0)]):=eqS zKr
@[go_sem] theorem co285:Zl qb 285=true:=eqS zKr
@[go_sem] theorem pl285:yu qb 285=some (plc [(0,2)]):=eqS zKr
@[go_sem] theorem fl285_0:qG qb 285 0=some (0,137,2):=eqS zKr
@[go_sem] theorem zo285:ym qb 285=true:=eqS zKr
@[go_sem] theorem sz290:szOf qb 290=some 1:=eqS zKr
@[go_sem] theorem ag290:zg qb 290=some false:=eqS zKr
@[go_sem] theorem ptt290:Qg qb 290=true:=eqS zKr
@[go_sem] theorem sz292:szOf qb 292=some 3:=eqS zKr
@[go_sem] theorem ag292:zg qb 292=some true:=eqS zKr
@[go_sem] theorem ze292:qC qb 292=some (.agg [.sc (.pointer none),.sc (.int .i64 0),.sc (.string ⟨#[]⟩)]):=eqS zKr
@[go_sem] theorem pl292:yu qb 292=some (plc [(0,1),(1,1),(2,1)]):=eqS zKr
@[go_sem] theorem fl292_0:qG qb 292 0=some (0,290,1):=eqS zKr
@[go_sem] theorem fl292_1:qG qb 292 1=some (1,3,1):=eqS zKr
@[go_sem] theorem fl292_2:qG qb 292 2=some (2,9,1):=eqS zKr
@[go_sem] theorem zo292:ym qb 292=true:=eqS zKr
@[go_sem] theorem sz305:szOf qb 305=some 7:=eqS zKr
@[go_sem] theorem ag305:zg qb 305=some true:=eqS zKr
@[go_sem] theorem ze305:qC qb 305=some (.agg [.lst true [],.lst true [],.lst true [],.lst true [],.lst true [],.sc (.int .i64 0),.sc (.bool false)]):=eqS zKr
@[go_sem] theorem pl305:yu qb 305=some (plc [(0,4),(4,1),(5,1),(6,1)]):=eqS zKr
@[go_sem] theorem fl305_0:qG qb 305 0=some (0,27,4):=eqS zKr
@[go_sem] theorem fl305_1:qG qb 305 1=some (4,89,1):=eqS zKr
@[go_sem] theorem fl305_2:qG qb 305 2=some (5,3,1):=eqS zKr
@[go_sem] theorem fl305_3:qG qb 305 3=some (6,4,1):=eqS zKr
@[go_sem] theorem zo305:ym qb 305=true:=eqS zKr
@[go_sem] theorem sl306:qN qb 306=some (348,66,88):=eqS zKr
@[go_sem] theorem ze329:qC qb 329=some (.agg [.lst true [],.lst true [],.lst true [],.lst true [],.sc (.int .i64 0),.lst true []]):=eqS zKr
@[go_sem] theorem pl329:yu qb 329=some (plc [(0,4),(4,1),(5,1)]):=eqS zKr
@[go_sem] theorem fl329_0:qG qb 329 0=some (0,27,4):=eqS zKr
@[go_sem] theorem fl329_1:qG qb 329 1=some (4,3,1):=eqS zKr
@[go_sem] theorem fl329_2:qG qb 329 2=some (5,89,1):=eqS zKr
@[go_sem] theorem zo329:ym qb 329=true:=eqS zKr
@[go_sem] theorem sz330:szOf qb 330=some 1:=eqS zKr
@[go_sem] theorem ag330:zg qb 330=some false:=eqS zKr
@[go_sem] theorem mt330:mapT qb 330=some (385,4):=eqS zKr
@[go_sem] theorem sz332:szOf qb 332=some 2:=eqS zKr
@[go_sem] theorem ag332:zg qb 332=some true:=eqS zKr
@[go_sem] theorem ze332:qC qb 332=some (.agg [.sc (.int .i64 0),.sc (.map none)]):=eqS zKr
@[go_sem] theorem pl332:yu qb 332=some (plc [(0,1),(1,1)]):=eqS zKr
@[go_sem] theorem fl332_0:qG qb 332 0=some (0,3,1):=eqS zKr
@[go_sem] theorem fl332_1:qG qb 332 1=some (1,330,1):=eqS zKr
@[go_sem] theorem zo332:ym qb 332=true:=eqS zKr
@[go_sem] theorem sz334:szOf qb 334=some 1:=eqS zKr
@[go_sem] theorem ag334:zg qb 334=some false:=eqS zKr
@[go_sem] theorem ptt334:Qg qb 334=true:=eqS zKr
@[go_sem] theorem sl337:qN qb 337=some (332,2,16):=eqS zKr
@[go_sem] theorem sl343:qN qb 343=some (273,65,72):=eqS zKr
@[go_sem] theorem ze348:qC qb 348=some (.agg [.sc (.string ⟨#[]⟩),.sc (.int .i64 0),.sc (.bool false),.sc (.bool false),.sc (.bool false),.sc (.bool false),.sc (.bool false),.sc (.bool false),.sc (.bool false),.sc (.bool false),.sc (.bool false),.sc (.bool false),.sc (.bool false),.sc (.bool false),.sc (.bool false),.sc (.bool false),.sc (.bool false),.sc (.bool false),.sc (.bool false),.sc (.bool false),.sc (.bool false),.sc (.bool false),.sc (.bool false),.sc (.bool false),.sc (.bool false),.sc (.bool false),.sc (.bool false),.sc (.bool false),.sc (.bool false),.sc (.bool false),.sc (.bool false),.sc (.bool false),.sc (.bool false),.sc (.bool false),.sc (.bool false),.sc (.bool false),.sc (.bool false),.sc (.bool false),.sc (.bool false),.sc (.bool false),.sc (.bool false),.sc (.bool false),.sc (.bool false),.sc (.bool false),.sc (.bool false),.sc (.bool false),.sc (.bool false),.sc (.bool false),.sc (.bool false),.sc (.bool false),.sc (.bool false),.sc (.bool false),.sc (.bool false),.sc (.bool false),.sc (.bool false),.sc (.bool false),.sc (.bool false),.sc (.bool false),.sc (.bool false),.sc (.bool false),.sc (.bool false),.sc (.bool false),.sc (.bool false),.sc (.bool false),.sc (.bool false),.sc (.bool false)]):=eqS zKr
@[go_sem] theorem pl348:yu qb 348=some (plc [(0,1),(1,65)]):=eqS zKr
@[go_sem] theorem fl348_0:qG qb 348 0=some (0,9,1):=eqS zKr
@[go_sem] theorem fl348_1:qG qb 348 1=some (1,273,65):=eqS zKr
@[go_sem] theorem zo348:ym qb 348=true:=eqS zKr
@[go_sem] theorem ze366:qC qb 366=some (.agg [.sc (.string ⟨#[]⟩),.sc (.int .i64 0),.sc (.map none),.sc (.pointer none)]):=eqS zKr
@[go_sem] theorem pl366:yu qb 366=some (plc [(0,1),(1,2),(3,1)]):=eqS zKr
@[go_sem] theorem fl366_0:qG qb 366 0=some (0,9,1):=eqS zKr
@[go_sem] theorem fl366_1:qG qb 366 1=some (1,332,2):=eqS zKr
@[go_sem] theorem fl366_2:qG qb 366 2=some (3,334,1):=eqS zKr
@[go_sem] theorem zo366:ym qb 366=true:=eqS zKr
@[go_sem] theorem sz378:szOf qb 378=some 1:=eqS zKr
@[go_sem] theorem ag378:zg qb 378=some false:=eqS zKr
@[go_sem] theorem ze378:qC qb 378=some (.sc (.map none)):=eqS zKr
@[go_sem] theorem mt378:mapT qb 378=some (3,28):=eqS zKr
@[go_sem] theorem sz383:szOf qb 383=some 1:=eqS zKr
@[go_sem] theorem ag383:zg qb 383=some false:=eqS zKr
@[go_sem] theorem ze383:qC qb 383=some (.sc (.int .i8 0)):=eqS zKr
@[go_sem] theorem sz385:szOf qb 385=some 3:=eqS zKr
@[go_sem] theorem ag385:zg qb 385=some true:=eqS zKr
@[go_sem] theorem ze385:qC qb 385=some (.agg [.sc (.int .i8 0),.sc (.int .i8 0),.sc (.int .i8 0)]):=eqS zKr
@[go_sem] theorem sl385:qN qb 385=none:=eqS zKr
@[go_sem] theorem ar385:ZO qb 385=some (3,383,1):=eqS zKr
@[go_sem] theorem pl385:yu qb 385=some (plA 1):=eqS zKr
@[go_sem] theorem zo385:ym qb 385=true:=eqS zKr
@[go_sem] theorem sl401:qN qb 401=some (383,1,1):=eqS zKr
end Ty
end Go.Proofs.YtpagnklaanbmbaaGreatDoor
namespace Go.Ev
open Go Go.RowKit
section
variable {R:AEnd->Mu->Prop}{f:wh}{args args1:List AV}{mu mu':Mu}{P:j1}
def Jd(mu:Mu)(give:Nat->Bool):List AV->List AV->Prop
 | [],[]=>True
 |x :: p,y :: j=>(x=y\/Rd (cutM give mu 0) x y)/\Jd mu give p j
 |_,_=>False
theorem Jd.get{give:Nat->Bool}:∀{xs ys:List AV},Jd mu give xs ys->ys.length=xs.length/\∀(k:Nat) x y,xs[k]?=some x->ys[k]?=some y->x=y\/Rd (cutM give mu 0) x y
 | [],[],_=>⟨rfl,zSp⟩
 |x :: xs,y :: ys,⟨h,t⟩=>by
  obtain⟨j,l⟩:=Jd.get t;refine⟨zP1 j,fun k a b g i=>?_⟩;cases k with
  |zero=>simp at g i;subst g;subst i;exact h
  |succ k=>exact l k a b (zUs g) (zUs i)
 | [],_ :: _,h=>h.elim
 |_ :: _,[],h=>h.elim
theorem qe.freeze(give:Nat->Bool)(hg:Jd mu give args args1)(h:qe P f args1 (cutM (fun i=>!give i) mu 0) R):qe P f args mu R:=by
 obtain⟨g,h⟩:=h;obtain⟨o,hg⟩:=hg.get;refine⟨g,fun G w p s t=>?_⟩;have j:zM (frz G give mu) w.heap args1 p:=by
  refine⟨by rw[o];exact t.1,fun k y C=>?_⟩;have J:k<args.length:=by rw[<-o];exact(qk.1 C).1
  have hx:args[k]?=some args[k]:=qA J;have I:=t.2 k _ hx;rcases hg k _ y hx C with e|r
  .rw [<-e];exact I.mono (Qi s give).le (Ext.refl _ _)
  .exact U7 s give r I
 refine(h (frz G give mu) w p (Vg s give) j).mono fun e w' ⟨T,l,U,hR⟩=>⟨T,l,(Qi s give).trans s U,hR⟩
def Gvs(mu:Mu)(give:Nat->Bool):List AV->List AV->Prop
 | [],[]=>True
 |x :: p,y :: j=>Gv mu give x y/\Gvs mu give p j
 |_,_=>False
theorem Gvs.get{give:Nat->Bool}:∀{xs ys:List AV},Gvs mu give xs ys->ys.length=xs.length/\∀(k:Nat) x y,xs[k]?=some x->ys[k]?=some y->Gv mu give x y
 | [],[],_=>⟨rfl,zSp⟩
 |x :: xs,y :: ys,⟨h,t⟩=>by
  obtain⟨j,l⟩:=Gvs.get t;refine⟨zP1 j,fun k a b g i=>?_⟩;cases k with
  |zero=>simp at g i;subst g;subst i;exact h
  |succ k=>exact l k a b (zUs g) (zUs i)
 | [],_ :: _,h=>h.elim
 |_ :: _,[],h=>h.elim
def FrzM(mu:Mu)(give:Nat->Bool)(mu':Mu):Prop:=mu'.length=mu.length/\∀(i:Nat) (g:Cell),mu'[i]?=some g->g ≠ .dead->give i=false/\∃ c,mu[i]?=some c/\c ≠ .dead /\
 (g=c\/∃ p j,c = .arr p/\g = .arr j/\Gvs mu give p j/\j.all AV.one=true)
theorem FrzM.sim{G:Gh}{h:Array Obj}{give:Nat->Bool}(s:Sim G mu h)(f:FrzM mu give mu'):Sim (frz G give mu) mu' h:=by
 have a0:G.le (frz G give mu):=⟨fun b hb => .inl hb,fun _ _ h=>h⟩;have s0:=Vg s give;have kept:∀(i:Nat) (g:Cell),mu'[i]?=some g->g ≠ .dead->∃ c,(cutM (fun i=>!give i) mu 0)[i]?=some c/\c ≠ .dead:=by
  intro i g r t;obtain⟨hg,c,C,I,_⟩:=f.2 i g r t;exact⟨c,by rw[uP,C];simp[hg],I⟩
 refine⟨by rw[f.1];exact s.len,s0.imm,?_,?_,?_,s0.tab⟩
 .intro i g J P r t T
  obtain⟨hg,c,C,I,hr⟩:=f.2 i g r t;obtain⟨o,ho,l⟩:=s.obj i c J P C I T;refine⟨o,ho,?_⟩;rcases hr with rfl|⟨p,ys,rfl,rfl,R,U⟩
  .exact l.mono a0 (Ext.refl _ _)
  .obtain ⟨a1,R⟩:=R.get
   obtain⟨cs,e,rfl,k1,k2,k3⟩:=l;refine⟨cs,e,rfl,k1,zOm,fun j y hy=>?_⟩;have hj:j<p.length:=by rw[<-a1];exact(qk.1 hy).1
   have hx:p[j]?=some p[j]:=qA hj;exact⟨by simpa using qI.1 U y (qV hy),(R j _ y hx hy).sound s (k3 j _ hx).2⟩
 .intro i g J P r t T
  obtain⟨c,C,I⟩:=kept i g r t;exact s0.live i c J P C I T
 .intro i j ci cj b ti tj r t T h4 h5 h6
  obtain⟨c,C,I⟩:=kept i ci r T;obtain⟨g,a2,a3⟩:=kept j cj t h4;exact s0.inj i j c g b ti tj C a2 I a3 h5 h6
theorem FrzM.stp{G:Gh}{w:j3}{give:Nat->Bool}(s:Sim G mu w.heap)(f:FrzM mu give mu'):Stp G mu w (frz G give mu) mu' w:=by
 refine⟨⟨fun b g => .inl g,fun _ _ h=>h⟩,f.sim s,fun _ _ _=>rfl,qm _,?_,?_,rfl,rfl,rfl,qm _⟩
 .rintro b ⟨i,c,j,l,o,p⟩
  obtain⟨_,c0,r,t,_⟩:=f.2 i c l o;exact .inl ⟨i,c0,j,r,t,p⟩
 .rintro b (g|g)
  .exact .inl g
  .exact .inr (.inl g.cut)
theorem qe.give(h:qe P f args mu fun e m=>R e m\/∃(g:Nat->Bool) (x y:AV),e = .ret x/\Gv m g x y/\R (.ret y) (cutM (fun i=>!g i) m 0)):qe P f args mu R:=by
 obtain⟨o,h⟩:=h;refine⟨o,fun G w I s J=>(h G w I s J).mono fun e T ⟨C,l,U,j⟩=>?_⟩;rcases j with ⟨r,v,j,p,t⟩|⟨r,v,j,p,t⟩
 .rcases j with j|⟨g,x,y,hx,hg,j⟩
  .exact ⟨C,l,U,.inl ⟨r,v,j,p,t⟩⟩
  .cases hx
   exact⟨frz C g l,_,U.trans s (Qi U.sim g),.inl ⟨y,v,j,p,hg.sound U.sim t⟩⟩
 .rcases j with j|⟨g,x,y,hx,_⟩
  .exact ⟨C,l,U,.inr ⟨r,v,j,p,t⟩⟩
  .cases hx
theorem qe.freezeM(give:Nat->Bool)(hg:Gvs mu give args args1)(l:FrzM mu give mu')(h:qe P f args1 mu' R):qe P f args mu R:=by
 obtain⟨g,h⟩:=h;obtain⟨o,hg⟩:=hg.get;refine⟨g,fun G w p s r=>?_⟩;have i:zM (frz G give mu) w.heap args1 p:=by
  refine⟨by rw[o];exact r.1,fun k y t=>?_⟩;have C:k<args.length:=by rw[<-o];exact(qk.1 t).1
  have hx:args[k]?=some args[k]:=qA C;exact(hg k _ y hx t).sound s (r.2 k _ hx)
 refine(h (frz G give mu) w p (l.sim s) i).mono fun e T ⟨I,j,U,J⟩=>⟨I,j,(l.stp s).trans s U,J⟩
theorem qd.toSound{args':List AV}{v:AV}(mu:Mu)(h:qd P f args' v)(o:WKs args args'):qe P f args mu fun e m=>e = .ret v/\m=mu:=by
 refine⟨h.1,fun G w T s p=>?_⟩;have r:VRel G w.heap (.fn (.func f) [] []) (.func (.func f) #[] #[]) := .fn _ _ _ _ _ rfl rfl (fun k x hx=>by simp at hx) (fun k x hx=>by simp at hx);obtain⟨g,first,j,e,_,l⟩:=kZ s r p (.inl ⟨f,[],[],args',rfl,h,.inl (zUs o)⟩);injection e with i t C;injection i with i;subst i;subst t;subst C;simp at l;refine l.mono fun e w' ⟨I,u,J,U,R⟩=>⟨I,mu,U,.inl ⟨v,u,⟨rfl,rfl⟩,J,R⟩⟩
end
end Go.Ev
namespace Go.Ev
open Go
section
variable {av s x:AV}{K:AV->Mu->Prop}{xs ys:List (List AV)}{mu:Mu}{bt e i lo sz t:Nat}{P:j1}{st:St}{Q:qX->St->Prop}
abbrev rI(n:Int):List AV:=[.sc (.int .i64 n)]
abbrev lI(xs:List Int):AV := .lst false (xs.map rI)
structure Rl where
 ar:Int
 ts:List Int
 deriving DecidableEq
structure Sc where
 atoms:List Int
 steps:Int
structure Fld where
 name:ByteArray
 sorts:List Int
 var:Bool
structure Sp where
 sorts:List (ByteArray×Bool)
 fields:List Fld
 preds:List (List AV)
 facts:List (List AV)
 hp:HF (.lst false preds)
 hf:HF (.lst false facts)
abbrev cRel(r:Rl):List AV:=[aI r.ar,lI r.ts]
abbrev eRel(r:Rl):AV := .agg (cRel r)
abbrev lRel(g:List Rl):AV := .lst false (g.map cRel)
abbrev eSc(s:Sc):AV := .agg [lI s.atoms,aI s.steps]
abbrev Zp(s:ByteArray×Bool):List AV:=[.sc (.string s.1),aB s.2]
abbrev uu(f:Fld):List AV:=[.sc (.string f.name),lI f.sorts,aB f.var]
abbrev pJ(f:Fld):AV := .agg (uu f)
abbrev eSp(s:Sp):AV := .agg [.lst false (s.sorts.map Zp),.lst false (s.fields.map uu),.lst false s.preds,.lst false s.facts]
theorem yA(xs:List Int):HF (lI xs):=HF.lst fun r i c g=>by
 obtain⟨n,_,rfl⟩:=qr.1 i;simp at g;subst g;exact HF.sc _
theorem Je(r:Rl):∀ c,c∈cRel r->HF c:=by
 intro c g;simp at g;rcases g with rfl|rfl
 .exact HF.sc _
 .exact yA _
theorem q9(r:Rl):HF (eRel r):=HF.agg (Je r)
theorem qfK(g:List Rl):HF (lRel g):=HF.lst fun r i c j=>by
 obtain⟨n,_,rfl⟩:=qr.1 i;exact Je n c j
theorem jx(s:Sc):HF (eSc s):=HF.agg fun c g=>by
 simp at g;rcases g with rfl|rfl
 .exact yA _
 .exact HF.sc _
theorem WL(f:Fld):∀ c,c∈uu f->HF c:=by
 intro c g;simp at g;rcases g with rfl|rfl|rfl
 .exact HF.sc _
 .exact yA _
 .exact HF.sc _
theorem qfL(f:Fld):HF (pJ f):=HF.agg (WL f)
theorem pK(s:Sp):HF (eSp s):=HF.agg fun c g=>by
 simp at g;rcases g with rfl|rfl|rfl|rfl
 .refine HF.lst fun r i c g=>?_
  obtain⟨n,_,rfl⟩:=qr.1 i;simp at g;rcases g with rfl|rfl<;>exact HF.sc _
 .refine HF.lst fun r i c g=>?_
  obtain⟨n,_,rfl⟩:=qr.1 i;exact WL n c g
 .exact s.hp
 .exact s.hf
@[go_sem] theorem ieq(a b:Int):(a == b)=decide (a=b):=eqS rfl
@[go_sem] theorem ine(a b:Int):(a != b)=!decide (a=b):=eqS rfl
@[go_sem] theorem natEq(a b:Nat):((a:Int)=(b:Int))=(a=b):=propext ⟨Int.ofNat_inj.1,fun h=>by rw[h]⟩
inductive Tag (p:St->Prop):Type where
 |mk:Tag p
def Keep(p:St->Prop)(_:Tag p)(st:St):Prop:=p st
theorem Keep.loop{p:Nat->St->Prop}{n:Nat}(m:Nat)(g:m<n)(h:p m st):∃ m,m<n/\Keep (p m) .mk st:=⟨m,g,h⟩
theorem qn.keep{pl:Pol}{body:Code}(I:Nat->St->Prop)(n:Nat)(h:I n st)(k:∀ n st,I n st->awp P pl body (wI (fun n=>Keep (I n) .mk) n Q) st):qn P pl body Q st := .intro (fun n=>Keep (I n) .mk) n h k
theorem wJ(xs:List Int):zy 1 (xs.map rI):=fun r g=>by
 obtain⟨n,_,rfl⟩:=qr.1 g;exact⟨rfl,rfl⟩
theorem Zq(xs:List Rl):zy 2 (xs.map cRel):=fun r g=>by
 obtain⟨n,_,rfl⟩:=qr.1 g;exact⟨rfl,rfl⟩
def OwnF(lo:Nat)(mu:Mu)(sz:Nat)(av:AV)(xs:List (List AV)):Prop:=Own mu sz av xs/\(∀ b s o l,av = .sl b s o l->lo<=b)/\lo<=mu.length
theorem OwnF.one(h:OwnF lo mu sz av xs):av.one=true:=by
 rcases h.1 with rfl|⟨b,rfl,_⟩<;>rfl
theorem OwnF.cells(h:OwnF lo mu sz av xs):av.cells=[av]:=by
 rcases h.1 with rfl|⟨b,rfl,_⟩<;>rfl
theorem OwnF.nil(h:lo<=mu.length):OwnF lo mu sz (.lst true []) []:=⟨.inl rfl,fun _ _ _ _ e=>by simp at e,h⟩
theorem OwnF.set{c:Cell}(h:OwnF lo mu sz av xs)(p:i<lo):OwnF lo (mu.set i c) sz av xs:=by
 obtain⟨j,g,l⟩:=h;refine⟨?_,g,zUs l⟩;rcases j with rfl|⟨b,rfl,o⟩
 .exact .inl rfl
 .have:=g _ _ _ _ rfl
  exact .inr ⟨b,rfl,by rw[qv zOm];exact o⟩
theorem vR.ownF{g:Nat}{zv:AV}(hs:qN P t=some (e,sz,bt))(j:(qN P g).isSome=true)(hz:qC P e=some zv)
  (p:zv.cells.length=sz) (r:zv.cells.all AV.one=true) (C:sz≠0) (hb:bt<=16384) (I:OwnF lo mu sz s xs) (hx:qO mu x=some ys) (U:zy sz xs) (wy:zy sz ys) (hl:xs.length+ys.length<=4294967296)
  (k:∀ av mu',OwnF lo mu' sz av (xs++ys)->(∀ i,i<lo->mu'[i]?=mu[i]?)->K av mu'):vR P mu #[t,g] s x K:=by
 obtain⟨I,J,R⟩:=I;refine⟨t,g,e,sz,bt,ys,rfl,hs,j,⟨zv,hz,p,r⟩,C,hb,hx,wy,?_⟩;rcases I with rfl|⟨b,rfl,hc⟩
 .refine .inl ⟨xs,rfl,U,hl,fun h=>?_,fun h=>?_⟩
  .subst h
   exact k _ _ ⟨.inl zSp,fun _ _ _ _ e=>by simp at e,R⟩ (fun _ _=>rfl)
  .refine k _ _ ⟨.inr ⟨mu.length,zSp,zSp⟩,fun b s o l e=>?_,zSo⟩ (fun i hi=>?_)
   .injection e;omega
   .rw [qo zOm]
 .have a0:=jG U.ok
  have a1:=J _ _ _ _ rfl;refine .inr ⟨b,xs.length,xs.flatten,rfl,hc,zOm,hl,?_⟩;have T:xs.flatten.take (xs.length*sz)=xs.flatten:=ye zOm;refine k _ _ ⟨.inr ⟨mu.length,zSp,?_⟩,fun b s o l e=>?_,zSo⟩ (fun i hi=>?_)
  .rw [T,zf zSp];simp
  .injection e;omega
  .rw [qo zSo]
   rw[qv zOm]
theorem qF.ownF{p:Nat}{zv:AV}(r:qN P t=some (e,sz,bt))(g:(qN P p).isSome=true)(C:qC P e=some zv)
  (j:zv.cells.length=sz) (l:zv.cells.all AV.one=true) (o:sz≠0) (I:bt<=16384) (J:OwnF lo mu sz s xs) (hx:qO mu x=some ys) (R:zy sz xs) (T:zy sz ys) (U:xs.length+ys.length<=4294967296)
  (k:∀ av mu',OwnF lo mu' sz av (xs++ys)->(∀ i,i<lo->mu'[i]?=mu[i]?)->K av mu'):qF P mu #[t,p] s x K:=
 .inl (vR.ownF r g C j l o I J hx R T U k)
theorem qF.ints{j:Nat}{xs ys:List Int}{z:Int}(l:qN P t=some (e,1,bt))(g:(qN P j).isSome=true)(o:qC P e=some (aI z))
  (p:bt<=16384) (r:OwnF lo mu 1 s (xs.map rI)) (hx:qO mu x=some (ys.map rI)) (C:xs.length+ys.length<=4294967296)
  (k:∀ av mu',OwnF lo mu' 1 av ((xs++ys).map rI)->(∀ i,i<lo->mu'[i]?=mu[i]?)->K av mu'):qF P mu #[t,j] s x K:=
 qF.ownF l g o rfl rfl zOm p r hx (wJ _) (wJ _) (zUs C) (fun av mu' I J=>k av mu' (by rw[zx];exact I) J)
theorem qfM{low g mu':Mu}(l:low.length=lo)(o:lo<=mu'.length)(h:∀ i,i<lo->mu'[i]?=(low++g)[i]?):mu'=low++mu'.drop lo:=by
 have:mu'.take lo=low:=by
  apply ui;intro i;by_cases j:i<lo
  .rw [List.getElem?_take_of_lt j,h i j,qo zOm]
  .rw [jj zSo,jj zOm]
 rw[<-this,List.take_append_drop]
theorem qF.intsL{low g:Mu}{o:Nat}{xs ys:List Int}{z:Int}(p:qN P t=some (e,1,bt))(j:(qN P o).isSome=true)(C:qC P e=some (aI z))
  (I:bt<=16384) (J:OwnF low.length (low++g) 1 s (xs.map rI)) (hx:qO (low++g) x=some (ys.map rI)) (R:xs.length+ys.length<=4294967296)
  (k:∀ av i,OwnF low.length (low++i) 1 av ((xs++ys).map rI)->K av (low++i)):qF P (low++g) #[t,o] s x K:=
 qF.ints p j C I J hx R fun av r l T=>by
  have:=qfM rfl l.2.2 T;rw[this]at l⊢;exact k _ _ l
theorem OwnF.low{low low' g:Mu}(h:OwnF low.length (low++g) sz av xs)(i:low'.length=low.length):OwnF low'.length (low'++g) sz av xs:=by
 obtain⟨o,j,_⟩:=h;refine⟨?_,by rw[i];exact j,zSp⟩;rcases o with rfl|⟨b,rfl,l⟩
 .exact .inl rfl
 .have:=j _ _ _ _ rfl
  refine .inr ⟨b,rfl,?_⟩;rw[zf zOm]at l⊢;rw[i];exact l
theorem OwnF.rdI{xs:List Int}(h:OwnF lo mu 1 av (xs.map rI)):Rd mu av (lI xs):=
 h.1.rd (wJ xs).ok fun r i c g=>by
  obtain⟨n,_,rfl⟩:=qr.1 i;simp at g;subst g;exact HF.sc _
theorem Rd.rel{r:Rl}(h:Rd mu av (lI r.ts)):Rd mu (.agg [aI r.ar,av]) (eRel r):=by
 refine .agg _ _ rfl (fun k x y hx g=>?_)
 match k with
 | 0=>simp at hx g;subst hx;subst g;exact .zsc _
 | 1=>simp at hx g;subst hx;subst g;exact h
 |k+2=>simp at hx
theorem pL(b:Nat)(mu:Mu):(cutM (fun j=>j == b) mu 0)[b]?=mu[b]?:=by
 rw[uP];cases mu[b]?<;>simp
theorem VD{b:Nat}(h:i≠b)(mu:Mu):(cutM (fun j=>!(j == b)) mu 0)[i]?=mu[i]?:=by
 rw[uP];cases mu[i]?<;>simp[h]
theorem FzQ.own{d:Nat}(l:st.tm d=av)(g:OwnF lo st.mu sz av xs)(wf:zy sz xs)(hf:∀ r,r∈xs->∀ c,c∈r->HF c)
  (k:∀ mu' full,mu'.length=st.mu.length->(∀ j,j<lo->mu'[j]?=st.mu[j]?)->Q (.exit i) (st.put (some d) (.lst full xs) mu')):FzQ Q (.exit i) st:=by
 rcases g.1 with h|⟨b,h,o⟩
 .refine FzQ.one (b:=st.mu.length) (d:=d) (x := .lst true xs) ?_ (k _ _ (jr _ _ _) fun j p=>VD (zW1 g.2.2) _)
  rw[l,h];exact .hf _ (HF.lst hf)
 .refine FzQ.one (b:=b) (d:=d) (x := .lst false xs) ?_ (k _ _ (jr _ _ _) fun j p=>VD (zW1 (g.2.1 _ _ _ _ h)) _)
  rw[l];exact Own.rd (.inr ⟨b,h,by rw[pL];exact o⟩) wf.ok hf
def gI(xs:List Int)(i:Nat):Int:=(xs[i]?).getD 0
theorem Zr{xs:List Int}(h:i<xs.length):gI xs i=xs[i]:=by simp[gI,h]
def sumI(xs:List Int):Int:=xs.foldr (·+·) 0
theorem pM(a b:List Int):sumI (a++b)=sumI a+sumI b:=by
 induction a with
 |nil=>simp[sumI]
 |cons x a g=>simp only[sumI,jd,List.foldr_cons]at *;omega
theorem Zs(l:List Int)(k:Nat)(h:k<l.length):sumI (l.take (k+1))=sumI (l.take k)+l[k]:=by
 rw[List.take_add_one,qA h,pM];simp[sumI]
theorem qfN(l:List Int)(m:Int)(h:∀ a,a∈l->0<=a/\a<=m):0<=sumI l/\sumI l<=m*l.length:=by
 induction l with
 |nil=>simp[sumI]
 |cons x l g =>
  have j:=h x zSp;have o:=g (fun a i=>h a (zP1 i));simp only[sumI,List.foldr_cons,zG]at *
  have:m*((l.length+1:Nat):Int)=m*l.length+m:=by rw[Int.natCast_succ,Int.mul_add];simp
  omega
def GSc(s:Sc):Prop:=s.atoms.length<=4/\∀ a,a∈s.atoms->0<=a/\a<=5
theorem GSc.sum{s:Sc}(h:GSc s)(k:Nat):0<=sumI (s.atoms.take k)/\sumI (s.atoms.take k)<=20:=by
 have:=qfN (s.atoms.take k) 5 (fun a g=>h.2 a (List.mem_of_mem_take g));have i:=h.1;have j:=List.length_take_le k s.atoms;simp only[List.length_take]at *
 omega
theorem GSc.get{s:Sc}(h:GSc s){k:Nat}(g:k<s.atoms.length):0<=s.atoms[k]/\s.atoms[k]<=5:=h.2 _ (qy g)
end
end Go.Ev
namespace Go.Ev
open Go Go.RowKit
section
variable {es fs:List (AV×AV)}
theorem PIx.of_mem{J:Type}{es i:List J}(t:es.Nodup)(C:i.Nodup)(h:∀ x,x∈i↔x∈es):∃ T U,PIx T U es i:=by
 have l:i.length=es.length:=((List.perm_ext_iff_of_nodup C t).2 h).length_eq;have f:∀ k,∃ j,k<es.length->j<es.length/\i[j]?=es[k]?:=by
  intro k;by_cases o:k<es.length
  .obtain ⟨j,p⟩:=List.mem_iff_getElem?.1 ((h es[k]).2 zSp)
   exact⟨j,fun _=>⟨by have:=(qk.1 p).1;omega,by rw[p];simp[o]⟩⟩
  .exact ⟨0,fun h=>absurd h o⟩
 have g:∀ j,∃ k,j<es.length->k<es.length/\es[k]?=i[j]?:=by
  intro j;by_cases p:j<es.length
  .have r:j<i.length:=by omega
   obtain⟨k,o⟩:=List.mem_iff_getElem?.1 ((h i[j]).1 zSp);exact⟨k,fun _=>⟨(qk.1 o).1,by rw[o];simp[r]⟩⟩
  .exact ⟨0,fun h=>absurd h p⟩
 refine⟨fun k=>Classical.choose (f k),fun k=>Classical.choose (g k),l,fun k o=>?_⟩;obtain⟨I,P⟩:=Classical.choose_spec (f k) o;obtain⟨R,b2⟩:=Classical.choose_spec (g k) o;obtain⟨c1,c2⟩:=Classical.choose_spec (g (Classical.choose (f k))) I;obtain⟨d1,d2⟩:=Classical.choose_spec (f (Classical.choose (g k))) R;refine⟨I,R,?_,?_,P⟩
 .exact (List.getElem?_inj c1 t).1 (c2.trans P)
 .exact (List.getElem?_inj (by rw[l];exact d1) C).1 (d2.trans b2)
theorem VE(h:(es.map Prod.fst).Nodup):es.Nodup:=(List.pairwise_map.1 h).imp (fun g e=>g (by rw[e]))
theorem Rd.mps{mu:Mu}{b:Nat}(j:mu[b]?=some (.mp es))(l:(es.map Prod.fst).Nodup)(i:(fs.map Prod.fst).Nodup)(o:∀ x,x∈es↔x∈fs)(hf:∀ x,x∈es->HF x.1/\HF x.2):Rd mu (.mp b) (.ims fs):=by
 obtain⟨p,r,hp⟩:=PIx.of_mem (VE i) (VE l) o;refine .ims _ fs es p r hp i (.mp b es es j rfl (fun k x y hx g=>?_) (fun k x y hx g=>?_))
 .rw [hx]at g;cases g;exact .hf _ (hf x (qV hx)).1
 .rw [hx]at g;cases g;exact .hf _ (hf x (qV hx)).2
theorem Rd.mds{mu:Mu}{b:Nat}(j:mu[b]?=some (.md es))(l:(es.map Prod.fst).Nodup)(i:(fs.map Prod.fst).Nodup)(o:∀ x,x∈es↔x∈fs)(hf:∀ x,x∈es->HF x.1/\HF x.2):Rd mu (.mp b) (.ims fs):=by
 obtain⟨p,r,hp⟩:=PIx.of_mem (VE i) (VE l) o;refine .ims _ fs es p r hp i (.md b es es j rfl (fun k x y hx g=>?_) (fun k x y hx g=>?_))
 .rw [hx]at g;cases g;exact .hf _ (hf x (qV hx)).1
 .rw [hx]at g;cases g;exact .hf _ (hf x (qV hx)).2
end
end Go.Ev
namespace Go.Ev
open Go Go.RowKit
section
variable {R:AEnd->Mu->Prop}{args:List AV}{pl:Pol}{P:j1}
def MRel(G:Gh)(h:Array Obj):Option AV->FrameMode->Prop
 |none,u=>u = .returning
 |some x,u=>∃ v,u = .panicking [{ v,recovered:=false }]/\VRel G h x v
def yn(P:j1)(g:wh)(args:List AV)(mu:Mu)(m:Option AV)(R:Mu->Prop):Prop:=je P g /\
 ∀(G:Gh) (w:j3) (i:Array uk) (u:FrameMode),Sim G mu w.heap->zM G w.heap args i->MRel G w.heap m u ->
  CallsDIn Fence.wide 0 P g i u w fun e j l=>∃ v o r,e = .returned v/\settle j = .returning/\Stp G mu w o r l/\R r
def VF(P:j1)(l:List ResultVar)(g:wh)(i:List AV)(R:AEnd->Mu->Prop):qX->St->Prop
 | .normal,U | .ret,U=>yn P g i U.mu none fun j=>OptK (jL P ⟨U.tm,j⟩ l) fun r=>R (.ret r) j
 | .pan v,U=>yn P g i U.mu (some v) fun j=>OptK (jL P ⟨U.tm,j⟩ l) fun r=>R (.ret r) j
 | .exit _,_=>False
def Zt(ops:Array xd):Option (List xd×xd):=
 match ops.toList.reverse with
 |o :: r=>match o.op,o.guard,o.dst with | .defer _,none,none=>some (r.reverse,o)|_,_,_=>none
 | []=>none
theorem qfO{ops:Array xd}{pre:List xd}{o:xd}(h:Zt ops=some (pre,o)):ops.toList=pre++[o]/\o.guard=none/\o.dst=none:=by
 unfold Zt at h;split at h
 .rename_i l r g
  split at h
  .rename_i c p i j
   simp only[qp,Prod.mk.injEq]at h;obtain⟨rfl,rfl⟩:=h;refine⟨?_,i,j⟩;have:=congrArg List.reverse g;simpa using this
  .exact absurd h zSp
 .exact absurd h zSp
def wK(P:j1)(pl:Pol)(r:List ResultVar)(R:AEnd->Mu->Prop)(o:xd)(l:Code)(st:St):Prop:=
 ∃ x args p g first i,o.op = .defer { callee := .value x,args,argTypes:=p }/\st.ev x = .fn (.func g) first i/\je P g/\awp P pl l (VF P r g (first++evs st.ev args.toList++i) R) st
def awpD(P:j1)(pl:Pol)(j:List ResultVar)(R:AEnd->Mu->Prop):Code->St->Prop
 | .seq (.region _ g false) i,U=>match Zt g with
  |some (pre,o)=>awpS P pl false g pre (fun U=>wK P pl j R o i U) (fun v U=>R (.pan v) U.mu) U
  |none=>awpS P pl false g g.toList (fun U=>awpD P pl j R i U) (fun v U=>R (.pan v) U.mu) U
 |_,_=>False
def Ro.bare:Ro:=⟨none,[],false,[]⟩
theorem Rel.bare{i:Gh}{g:Mu}{j:j3}{n:Nat}{G:Gh}{st:St}{a:Act}{w:j3}(r:Rel Ro.bare i g j n G st a w):a.defers=[]:=by
 obtain⟨l,⟨o,p⟩,_⟩:=r.df rfl;have:l=[]:=p rfl;subst this;simpa[Ro.bare] using o
def REnd(G : Gh)(mu : Mu)(w : j3)(R : AEnd->Mu->Prop)(e : Ending)(w' : j3) : Prop := ∃ j g, Stp G mu w j g w' /\
      ((∃ r v,R (.ret r) g/\e = .returned v/\VRel j w'.heap r v)\/(∃ r v,R (.pan r) g/\e = .panicked [{ v,recovered:=false }]/\VRel j w'.heap r v))
theorem qfP{fn:Func}{G0:Gh}{C:Mu}{w0:j3}(s0:Sim G0 C w0.heap):∀(c:Code) (st:St) (a:Act) (w:j3) (G:Gh),Rel Ro.bare G0 C w0 fn.ntmps G st a w ->
  dOkC fn.ntmps c=true->awpD P pl fn.results.toList R c st->c.wpIn (WF Ro.bare) 0 P (bodyPostM Fence.wide 0 P fn (REnd G0 C w0 R)) a w:=by
 intro c;induction c with
 |seq x y _ ih =>
  intro st a w G r hd h;cases x with
  |region id a1 a6 =>
   cases a6 with
   |true=>exact h.elim
   |false =>
    simp only[dOkC,qB]at hd;have J:(a1.toList.all fun o=>dOk fn.ntmps o.dst)=true:=hd.1;have U:∀ v (st:St) a w G u,R (.pan v) st.mu->Rel Ro.bare G0 C w0 fn.ntmps G st a w->VRel G w.heap v u->LeavesInM Fence.wide 0 P fn a.tmps (REnd G0 C w0 R) a.defers (.panicking [{ v:=u,recovered:=false }]) w:=by
     intro v st a w G u t r I;rw[r.bare];exact⟨G,st.mu,r.stp,.inr ⟨v,u,t,rfl,I⟩⟩
    cases hl:Zt a1 with
    |none =>
     simp only[awpD,hl]at h;refine wpIn_seq (wpIn_region_list ?_);refine Wq s0 ?_ ?_ a1.toList st a w G r J h
     .intro st a w G t r
      exact ih st a w G r hd.2 t
     .intro v st a w G u t r I
      exact U v st a w G u t r I
    |some q =>
     obtain⟨pre,o⟩:=q;simp only[awpD,hl]at h;obtain⟨ho,hg,a0⟩:=qfO hl;refine wpIn_seq (wpIn_region_list ?_);rw[ho]at J⊢;rw[List.all_append,qB]at J;refine pk s0 ?_ ?_ pre st a w G r J.1 h
     .intro st a w G t r
      obtain⟨xo,args,ah,g,first,a7,a8,hx,a9,a3⟩:=t;obtain⟨od,aq,ai,aa,aj,ar⟩:=o;simp only at a8 hg a0;subst a8;subst hg;subst a0;simp only[wpListIn,Region.wanted,if_true];have rf:=r.ev xo;rw[hx]at rf;generalize t:a.eval xo=fv at rf;cases rf with
      |fn _ _ _ a4 T hn hm I hw =>
      have ra:=zM.append3 ⟨hn,I⟩ (wD r.ev args) ⟨hm,hw⟩;have ab:((({ dst:=none,op := .defer { callee := .value xo,args,argTypes:=ah },type:=ai,pos:=aa,after:=aj,guard:=none }:xd).semAt (WF Ro.bare).round a.eval).run P w) =
        .ok (.defer { target := .fn (.func g) T,args:=a4++args.map a.eval }) w:=by
       rw[show (WF Ro.bare).round=none from rfl,Oper.semAt_none];simp only[execOp,resolve,Sem.run_bind,Sem.run_pure,Result.andThen_ok,t,Deferred.ofValue]
      refine⟨fun _ _=>trivial,?_⟩;rw[ab,Oper.uponIn_defer];rw[r.bare]
      let d:Deferred:={ target := .fn (.func g) T,args:=a4++args.map a.eval }
      let l:=first++evs st.ev args.toList++a7
      let j:=a4++args.map a.eval++T
      let ro:Ro:=⟨none,[d],true,l.zip j.toList⟩
      have ad:∀{G:Gh} {h:Array Obj},(∀ p,p∈ro.kp->VRel G h p.1 p.2)↔zM G h l j:=by
       intro G h;constructor
       .intro hk
        refine⟨ra.1,fun k x hx=>?_⟩;have ak:k<j.size:=by rw[ra.1];exact(qk.1 hx).1
        have I:j.toList[k]?=some (j.getD k xa):=by simp[qH,ak]
        have:(x,j.getD k xa)∈l.zip j.toList:=qV (i:=k) (by rw[List.getElem?_zip_eq_some];exact⟨hx,I⟩);exact hk _ this
       .intro ha p hp
        obtain⟨k,hk⟩:=List.mem_iff_getElem?.1 hp;rw[List.getElem?_zip_eq_some]at hk;have:=ha.2 k p.1 hk.1;have e:j.getD k xa=p.2:=by
         have h2:=hk.2;rw[Array.getElem?_toList]at h2;simp[qH,h2]
        rwa[e]at this
      show y.wpIn (WF Ro.bare) 0 P _ _ _;refine WE (pl:=pl) (n:=fn.ntmps) y (ro:=ro) s0 _ _ st _ w G ?_ ⟨r.tm,fun _=>Dfs.nil _ _ _ _ _ _,r.size,r.stp,ad.2 ra⟩ hd.2 (.inl ⟨rfl,rfl⟩) a3;intro ae e st a w' G' t r he;obtain⟨Ds,g1,g2,g3,r',al⟩:=r.left rfl;have key:∀(m:Option AV) (u:FrameMode),u ≠ .run->MRel G' (uS Ds w').heap m u->yn P g l st.mu m (fun af=>OptK (jL P ⟨st.tm,af⟩ fn.results.toList) fun r=>R (.ret r) af) ->
        LeavesInM Fence.wide 0 P fn a.tmps (REnd G0 C w0 R) a.defers u w':=by
       intro m u hu hm hs;rw[g1];refine Wp hu Ds w' g2 g3 ?_;refine⟨hu,.inr ⟨fun h=>by simp[Fence.wide]at h,.func g,T,g,j,rfl,?_,fun _ _=>trivial,?_⟩⟩
       .simp only[invoke,d]
        exact a9 _ _
       .refine (hs.2 G' (uS Ds w') j u r'.stp.sim (ad.1 r'.kp) hm).mono ?_
        intro e u' av ⟨v,G2,an,he,ag,ao,z,hz,hR⟩;subst he;simp only;rw[ag];have r2:=r'.put (d:=none) s0 ao (.any xa) rfl;obtain⟨u2,k1,k2⟩:=Jc (fn:=fn) r2 hz;exact⟨u2,k1,G2,an,r2.stp,.inl ⟨z,u2,hR,rfl,k2⟩⟩
      cases ae<;>cases e<;>simp only[ERel]at he
      .exact key none .returning zSp rfl t
      .exact t.elim
      .exact key none .returning zSp rfl t
      .obtain ⟨v,rfl,I⟩:=he
       exact key (some _) (.panicking _) zSp ⟨v,rfl,al _ _ I⟩ t
     .intro v st a w G u t r I
      exact U v st a w G u t r I
  |_=>exact h.elim
 |_=>intro st a w G r hd h;exact h.elim
theorem qe.of_awpD{f:wh}{fn:Func}{c:Code}{mu:Mu}(g:je P f)(hf:P.funcs[f]?=some fn)(i:fn.body=some c)
  (j:args.length<=fn.ntmps) (l:dOkC fn.ntmps c=true) (h:awpD P pl fn.results.toList R c (st0 args mu)):qe P f args mu R:=by
 refine⟨g,fun G w p s o=>?_⟩;refine(callsIn_wide (n:=0)).1 (callsIn_of_wp_marks hf i trivial ?_);refine qfP (pl:=pl) s c (st0 args mu) _ w G ?_ l h;exact Rel.start s o j
theorem yn.of_awp{f:wh}{fn:Func}{id:Nat}{o:xd}{g:Code}{mu:Mu}{m:Option AV}{R:Mu->Prop}(a0:je P f)(hf:P.funcs[f]?=some fn)
  (hb:fn.body=some (.seq (.region id #[o] false) g)) (ho:∃ d ty pos a6,o={ dst:=d,op := .call { callee := .builtin .recover,args:=#[],argTypes:=a6 },type:=ty,pos:=pos,after:=#[],guard:=none })
  (hn:args.length<=fn.ntmps) (hd:dOkC fn.ntmps (.seq (.region id #[o] false) g)=true) (hr:noRF g=true)
  (h:awp P pl g (Zo P fn.results.toList fun e t=>∃ r,e = .ret r/\R t) ((st0 args mu).put o.dst (m.getD (.sc .nilIface)) mu)):yn P f args mu m R:=by
 obtain⟨od,a8,a1,a2,rfl⟩:=ho;refine⟨a0,fun G w vs u s ra hm=>?_⟩;refine callsDIn_of_wpSIn hf hb trivial fun i cs hc=>?_
 have r0:Rel Ro.bare G mu w fn.ntmps G (st0 args mu) { tmps:=vs++Array.replicate (fn.ntmps-vs.size) xa,defers:=[] } w:=Rel.start s ra hn;simp only[dOkC,qB]at hd;have a9:dOk fn.ntmps od=true:=by have:=hd.1;simpa using this
 refine wpSIn_seq (wpSIn_region ?_);have go:∀(J:List Frame) (v:uk) (T:FrameMode),J={ i with mode:=T } :: cs->settle T = .returning->VRel G w.heap (m.getD (.sc .nilIface)) v ->
   g.wpSIn Fence.wide 0 P (bodyPostS P fn i cs fun e T w'=>∃ v G' t,e = .returned v/\settle T = .returning/\Stp G mu w G' t w'/\R t)
    (({ tmps:=vs++Array.replicate (fn.ntmps-vs.size) xa,defers:=[] }:Act).put od v) J w:=by
  intro J v T a5 I hv;refine wpSIn_of_wpIn rfl ?_;refine WE (pl:=pl) (n:=fn.ntmps) g (ro:=Ro.bare) s _ _ _ _ w G ?_ (r0.put s (Stp.refl s) hv a9) hd.2 (.inr hr) h;intro ae e U a w' G' hq r he;cases ae<;>cases e<;>simp only[ERel]at he
  .obtain ⟨z,hz,z',_,hR⟩:=hq
   obtain⟨u2,k1,k2⟩:=Jc (fn:=fn) r hz;exact⟨r.bare,T,a5,u2,k1,u2,G',U.mu,rfl,I,r.stp,hR⟩
  .exact hq.elim
  .obtain ⟨z,hz,z',_,hR⟩:=hq
   obtain⟨u2,k1,k2⟩:=Jc (fn:=fn) r hz;exact⟨r.bare,T,a5,u2,k1,u2,G',U.mu,rfl,I,r.stp,hR⟩
  .obtain ⟨z,hz,_⟩:=hq
   exact absurd hz zSp
 have aa:∀ ev:us->uk,(execOp ev { dst:=od,op := .call { callee := .builtin .recover,args:=#[],argTypes:=a2 },type:=a8,pos:=a1,after:=#[],guard:=none }).run P w = .ok .recover w:=by
  intro ev;simp[execOp,resolve,invoke,builtin]
 simp only[List.size_toArray,zG,List.length_nil,qu,qu.loop,wpOpsSIn];refine⟨fun _ _=>trivial,?_⟩;simp only[Region.wanted];cases m with
 |none =>
  have hu:u = .returning:=hm;have p:recoverD (i :: cs)=none:=by simp[recoverD,hc,hu]
  rw[p];exact go _ .nilIface .returning (by rw[<-hu,<-hc]) rfl (.sc _ rfl)
 |some x =>
  obtain⟨v,hu,hv⟩:=hm;have p:recoverD (i :: cs)=some (v,{ i with mode := .panicking [{ v,recovered:=true }] } :: cs):=by simp[recoverD,hc,hu]
  rw[p];exact go _ v (.panicking [{ v,recovered:=true }]) rfl rfl hv
end
end Go.Ev
namespace Go.Ev
open Go Go.RowKit
section
variable {R:AEnd->Mu->Prop}{V:AEnd->Prop}{K:AV->Mu->Prop}{ops:Array xd}{f g:wh}{args args' caps first:List AV}{i j:List ResultVar}{mu:Mu}{pl:Pol}{P:j1}{st:St}
def EndR(G:Gh)(h:Array Obj):AEnd->Ending->Prop
 | .ret r,e=>∃ v,e = .returned v/\VRel G h r v
 | .pan r,e=>∃ v,e = .panicked [{ v,recovered:=false }]/\VRel G h r v
def za(P:j1)(f:wh)(args:List AV)(V:AEnd->Prop):Prop:=je P f /\
 ∀(i:Nat->Prop) (w:j3) (l:Array uk),Sim ⟨i,[]⟩ [] w.heap->zM ⟨i,[]⟩ w.heap args l ->
  Calls P f l w fun e j=>∃ g a,V a/\EndR ⟨g,[]⟩ j.heap a e/\(∀ b,i b->g b)/\(∀ b,g b->b<j.heap.size/\(i b\/w.heap.size<=b))/\ZS w.heap.size w j
abbrev qU(P:j1)(f:wh)(args:List AV)(e:AEnd):Prop:=za P f args (·=e)
theorem qU.toP{r:AV}(h:qU P f args (.ret r)):qd P f args r:=by
 refine⟨h.1,fun i w l o p=>(h.2 i w l o p).mono fun e T ⟨g,a,j,t,C,I,J⟩=>?_⟩;subst j;obtain⟨v,R,j⟩:=t;exact⟨g,v,R,C,I,J,j⟩
theorem qfQ{G: Gh}{w: j3}(s : Sim G mu w.heap)(r j : Nat->Prop)(w' : j3)(h1 : ∀ b, G.imm b->r b)(R : ∀ b, j b->b < w'.heap.size/\(r b\/w.heap.size<=b))(l : ZS w.heap.size w w')(h3 : ∀ b, r b->G.imm b\/Live G mu b) :
      Stp G mu w ⟨fun b=>G.imm b\/(j b/\w.heap.size<=b),G.blk⟩ mu w':=by
    have t:G.le ⟨fun b=>G.imm b\/(j b/\w.heap.size<=b),G.blk⟩:=⟨fun b h => .inl h,fun _ _ h=>h⟩;have T:Ext G w.heap w'.heap:=⟨l.size,fun b g=>l.block b (s.imm b g)⟩;have key:∀ b,Live G mu b->w'.heap[b]?=w.heap[b]?:=fun b U=>l.block b (s.livesize U)
    refine⟨t,⟨s.len,?_,?_,?_,s.inj,s.tab.mono t.imm (fun b g=>l.block b (s.imm b g))⟩,fun b P _=>l.block b P,l.size,fun b h => .inl h,fun b h=>h.elim .inl (fun e => .inr (.inr e.2)),l.tape,l.os,l.output,l.drawn⟩
    · intro b g
      rcases g with g|g
      · exact ZL (s.imm b g) l.size
      · exact(R b g.1).1
    · intro i c p o C I J
      obtain⟨o',g1,g2⟩:=s.obj i c p o C I J;exact⟨o',by rw[key p ⟨i,_,o,C,I,J⟩];exact g1,g2.mono t T⟩
    · intro i c p o C I J g
      rcases g with g|g
      · exact s.live i c p o C I J g
      · have:=s.livesize ⟨i,c,o,C,I,J⟩;omega
theorem EndR.le{G G':Gh}{h:Array Obj}(hg:G.le G'){a:AEnd}{e:Ending}(r:EndR G h a e):EndR G' h a e:=by
 cases a with
 |ret x=>obtain⟨v,g,i⟩:=r;exact⟨v,g,i.le hg⟩
 |pan x=>obtain⟨v,g,i⟩:=r;exact⟨v,g,i.le hg⟩
theorem za.toSound(mu:Mu)(h:za P f args' V)(T:WKs args args'):qe P f args mu fun e m=>V e/\m=mu:=by
 refine⟨h.1,fun G w r s t=>?_⟩;obtain⟨hl,hg⟩:=T.get;have p:zM ⟨G.imm,[]⟩ w.heap args' r:=by
  refine⟨by rw[t.1,hl],fun k y C=>?_⟩;have hk:k<args'.length:=(qk.1 C).1;have hx:args[k]?=some (args[k]' zOm):=by rw[qA]
  exact hg k _ y hx C G w.heap _ (t.2 k _ hx)
 refine(h.2 G.imm w r s.bare p).mono fun e I ⟨g,a,J,hr,o,j,hb⟩=>?_
 have U:=qfQ s G.imm g I (fun b h=>h) j hb (fun b h => .inl h);have l:EndR ⟨fun b=>G.imm b\/(g b/\w.heap.size<=b),G.blk⟩ I.heap a e:=hr.le ⟨fun b R=>by
  rcases (j b R).2 with h|h
  .exact .inl h
  .exact .inr ⟨R,h⟩,fun i x h=>by simp at h⟩
 refine⟨_,mu,U,?_⟩;cases a with
 |ret x=>obtain⟨v,o,j⟩:=l;exact .inl ⟨x,v,⟨J,rfl⟩,o,j⟩
 |pan x=>obtain⟨v,o,j⟩:=l;exact .inr ⟨x,v,⟨J,rfl⟩,o,j⟩
def RdE(mu:Mu):AEnd->AEnd->Prop
 | .ret x,.ret y=>Rd mu x y
 | .pan x,.pan y=>Rd mu x y
 |_,_=>False
theorem za.of_sound(h:qe P f args [] fun e mu'=>∃ r,V r/\RdE mu' e r):za P f args V:=by
 obtain⟨C,h⟩:=h;refine⟨C,fun o w vs hi ra=>?_⟩;refine(h ⟨o,[]⟩ w vs hi ra).mono fun e J ⟨R,mu',U,hR⟩=>?_
 have g:∀ b,¬Live ⟨o,[]⟩ [] b:=fun b ⟨i,c,t,hc,_⟩=>by simp at hc
 have fin:∀ a,V a->EndR ⟨fun b=>R.imm b\/Live R mu' b,[]⟩ J.heap a e->∃ j a,V a/\EndR ⟨j,[]⟩ J.heap a e/\(∀ b,o b->j b)/\(∀ b,j b->b<J.heap.size/\(o b\/w.heap.size<=b))/\ZS w.heap.size w J:=by
  intro a I hr;refine⟨fun b=>R.imm b\/Live R mu' b,a,I,hr,fun b p => .inl (U.le.imm b p),fun b p=>?_,⟨U.os,U.tape,U.output,U.size,fun k hk=>U.keep k hk (g k)⟩,U.drawn⟩;rcases p with p|p
  .refine ⟨U.sim.imm b p,?_⟩
   rcases U.inew b p with h|h|h
   .exact .inl h
   .exact absurd h (g b)
   .exact .inr h
  .refine ⟨U.sim.livesize p,?_⟩
   rcases U.live b p with h|h
   .exact absurd h (g b)
   .exact .inr h
 rcases hR with ⟨r',v,⟨r,I,l⟩,rfl,T⟩|⟨r',v,⟨r,I,l⟩,rfl,T⟩
 .cases r with
  |ret y=>exact fin _ I ⟨v,rfl,l.sound U.sim T⟩
  |pan y=>exact l.elim
 .cases r with
  |ret y=>exact l.elim
  |pan y=>exact fin _ I ⟨v,rfl,l.sound U.sim T⟩
@[go_sem] theorem RdE_ret(mu:Mu)(x y:AV):RdE mu (.ret x) (.ret y)=Rd mu x y:=eqS rfl
@[go_sem] theorem RdE_pan(mu:Mu)(x y:AV):RdE mu (.pan x) (.pan y)=Rd mu x y:=eqS rfl
theorem qc.gen{l:AV->Mu->Prop}(h:za P g args' V)(o:WKs (first++args++caps) args')(p:∀ r,V (.ret r)->K r mu)(kp:∀ r,V (.pan r)->l r mu) :
  qc P false mu (.fn (.func g) first caps) args K l:=
 .inr ⟨rfl,.inl ⟨g,first,caps,_,rfl,h.toSound mu o,fun r m ⟨i,j⟩=>by subst j;exact p r i,fun r m ⟨i,j⟩=>by subst j;exact kp r i⟩⟩
theorem qc.eff0{i:AV->Mu->Prop}(j:qe P g args mu R)(k:∀ r m,R (.ret r) m->K r m)(kp:∀ r m,R (.pan r) m->i r m) :
  qc P false mu (.fn (.func g) [] []) args K i:=
 .inr ⟨rfl,.inl ⟨g,[],[],R,rfl,zUs j,k,kp⟩⟩
theorem qc.pans{v:AV}{i:AV->Mu->Prop}(h:qU P g args' (.pan v))(j:WKs (first++args++caps) args')(kp:i v mu) :
  qc P false mu (.fn (.func g) first caps) args K i := .gen h j (fun r e=>by cases e) (fun r e=>by cases e;exact kp)
theorem qe.hid{i:Nat}{c:Cell}(C:mu[i]?=some c)(I:c ≠ .dead)(h:qe P f args (mu.set i .dead) R) :
  qe P f args mu fun e m=>∃ g,R e g/\g[i]?=some .dead/\m=g.set i c:=by
 refine⟨h.1,fun G w J s T=>?_⟩;have j:i<G.blk.length:=by rw[s.len];exact(qk.1 C).1
 refine(h.2 G w J (s.hid i) T).mono fun e w' ⟨U,g,t,hR⟩=>?_
 obtain⟨g1,g2,g3⟩:=t.unhid s C I (b:=(G.blk[i]'j).1) (t:=(G.blk[i]'j).2) (zP1 j);refine⟨U,g.set i c,g3,?_⟩;rcases hR with ⟨r,v,l,o,p⟩|⟨r,v,l,o,p⟩
 .exact .inl ⟨r,v,⟨g,l,g1,rfl⟩,o,p⟩
 .exact .inr ⟨r,v,⟨g,l,g1,rfl⟩,o,p⟩
theorem qe.monoR{R':AEnd->Mu->Prop}(h:qe P f args mu R)(k:∀ e m,R e m->R' e m):qe P f args mu R':=by
 refine⟨h.1,fun G w l s o=>(h.2 G w l s o).mono fun e J ⟨p,C,t,I⟩=>⟨p,C,t,?_⟩⟩;rcases I with ⟨r,v,g,i,j⟩|⟨r,v,g,i,j⟩
 .exact .inl ⟨r,v,k _ _ g,i,j⟩
 .exact .inr ⟨r,v,k _ _ g,i,j⟩
attribute [go_sem] Zt
def VG(P:j1)(pl:Pol)(i:List ResultVar)(R:AEnd->Mu->Prop)(ops:Array xd)(g:Code)(st:St):Option (List xd×xd)->Prop
 |some (pre,o)=>awpS P pl false ops pre (fun st=>wK P pl i R o g st) (fun v st=>R (.pan v) st.mu) st
 |none=>awpS P pl false ops ops.toList (fun st=>awpD P pl i R g st) (fun v st=>R (.pan v) st.mu) st
@[go_sem ↓] theorem awpD_seq{id:Nat}{g:Code} :
  awpD P pl i R (.seq (.region id ops false) g) st=VG P pl i R ops g st (Zt ops):=by
 cases h:Zt ops<;>simp only[awpD,VG,h]
@[go_sem] theorem qrL{g:Code}{pre:List xd}{o:xd} :
  VG P pl i R ops g st (some (pre,o))=awpS P pl false ops pre (fun st=>wK P pl i R o g st) (fun v st=>R (.pan v) st.mu) st:=eqS rfl
@[go_sem] theorem qrM{g:Code} :
  VG P pl i R ops g st none=awpS P pl false ops ops.toList (fun st=>awpD P pl i R g st) (fun v st=>R (.pan v) st.mu) st:=eqS rfl
theorem wK.intro{p:List ResultVar}{x:us}{args:Array us}{l:Array j2}{ty:j2}{pos:String}{r:Array Edge}{t:Option (Nat×Bool)}{d:Option Tmp}{i:Code}
  (hx:st.ev x = .fn (.func g) first caps) (o:je P g) (h:awp P pl i (VF P p g (first++evs st.ev args.toList++caps) R) st) :
  wK P pl p R { dst:=d,op := .defer { callee := .value x,args:=args,argTypes:=l },type:=ty,pos:=pos,after:=r,guard:=t } i st:=
 ⟨x,args,l,g,first,caps,rfl,hx,o,h⟩
@[go_sem] theorem PostD_ret{i:List AV}:VF P j g i R .ret st=yn P g i st.mu none fun mu'=>OptK (jL P ⟨st.tm,mu'⟩ j) fun r=>R (.ret r) mu':=eqS rfl
@[go_sem] theorem PostD_pan{i:List AV}{v:AV}:VF P j g i R (.pan v) st=yn P g i st.mu (some v) fun mu'=>OptK (jL P ⟨st.tm,mu'⟩ j) fun r=>R (.ret r) mu':=eqS rfl
theorem yn.mono{m:Option AV}{R R':Mu->Prop}(h:yn P g args mu m R)(k:∀ mu',R mu'->R' mu'):yn P g args mu m R':=
 ⟨h.1,fun G w i u s j l=>(h.2 G w i u s j l).mono fun e I J ⟨v,o,mu',p,r,t,C⟩=>⟨v,o,mu',p,r,t,k _ C⟩⟩
@[go_sem] theorem ofV_pnone:ofV (.pointer none) = .sc (.pointer none):=eqS rfl
@[go_sem] theorem ofV_mnone:ofV (.map none) = .sc (.map none):=eqS rfl
theorem Rd.aggs{xs ys:List AV}(h:Rds mu xs ys):Rd mu (.agg xs) (.agg ys) := .agg _ _ h.get.1 h.get.2
end
end Go.Ev
namespace Go.Proofs.YtpagnklaanbmbaaGreatDoor
open Go Go.Ev Go.Proofs Tryz
namespace Y1
inductive Nd where
 |mk (op:Int) (name:ByteArray) (n:Int) (kids:List Nd) (pos:Int)
def Nd.op:Nd->Int | .mk o _ _ _ _=>o
def Nd.name:Nd->ByteArray | .mk _ s _ _ _=>s
def Nd.n:Nd->Int | .mk _ _ n _ _=>n
def Nd.kids:Nd->List Nd | .mk _ _ _ ks _=>ks
def Nd.pos:Nd->Int | .mk _ _ _ _ p=>p
abbrev aS(s:ByteArray):AV := .sc (.string s)
mutual
def cNd:Nd->List AV
 | .mk op nm n ks p=>[aI op,aS nm,aI n,.lst false (cNds ks),aI p]
def cNds:List Nd->List (List AV)
 | []=>[]
 |k :: ks=>cNd k :: cNds ks
end
theorem WM:∀ ks:List Nd,cNds ks=ks.map cNd
 | []=>by simp[cNds]
 |k :: ks=>by simp[cNds,WM ks]
theorem yQ(n:Nd):cNd n=[aI n.op,aS n.name,aI n.n,.lst false (n.kids.map cNd),aI n.pos]:=by
 obtain⟨op,nm,k,ks,p⟩:=n;simp[cNd,WM,Nd.op,Nd.name,Nd.n,Nd.kids,Nd.pos]
@[go_sem] theorem Z2(n:Nd):(cNd n).length=5:=by rw[yQ];rfl
@[go_sem] theorem qfR(n:Nd):(cNd n).take 5=cNd n:=ye (by rw[Z2];exact qm _)
@[go_sem] theorem Z3(n:Nd):(cNd n).all AV.one=true:=by rw[yQ];rfl
@[go_sem] theorem qw(n:Nd):(∀ x,x∈cNd n->x.one=true)=True:=eq_true fun x hx=>by have:=qI.1 (Z3 n) x hx;simpa using this
@[go_sem] theorem cNd_f0(n:Nd):(cNd n).take 1=[aI n.op]:=by rw[yQ];rfl
@[go_sem] theorem cNd_f1t(n:Nd):(cNd n).tail.take 1=[aS n.name]:=by rw[yQ];rfl
@[go_sem] theorem cNd_f2(n:Nd):((cNd n).drop 2).take 1=[aI n.n]:=by rw[yQ];rfl
@[go_sem] theorem cNd_f3(n:Nd):((cNd n).drop 3).take 1=[.lst false (n.kids.map cNd)]:=by rw[yQ];rfl
@[go_sem] theorem pN(n:Nd):((cNd n).drop 4).take 1=[aI n.pos]:=by rw[yQ];rfl
@[go_sem high] theorem put_cNd(z:List AV)(o:Nat)(n:Nd):putCells z o (cNd n)=z.take o++(cNd n++z.drop (o+5)):=by
 rw[yQ];simp[putCells]
abbrev eNd(n:Nd):AV := .agg (cNd n)
abbrev lNd(ks:List Nd):AV := .lst false (ks.map cNd)
mutual
theorem jy:∀(n:Nd),∀ c,c∈cNd n->HF c
 | .mk op nm n ks p=>by
  intro c g;simp only[cNd,qt,qE,or_false]at g;rcases g with rfl|rfl|rfl|rfl|rfl
  .exact HF.sc _
  .exact HF.sc _
  .exact HF.sc _
  .exact HF.lst (WN ks)
  .exact HF.sc _
theorem WN:∀(ks:List Nd),∀ r,r∈cNds ks->∀ c,c∈r->HF c
 | []=>by intro r g;simp[cNds]at g
 |k :: ks=>by
  intro r g;simp only[cNds,qt]at g;rcases g with rfl|g
  .exact jy k
  .exact WN ks r g
end
theorem qz(n:Nd):HF (eNd n):=HF.agg (jy n)
theorem VH(ks:List Nd):HF (lNd ks):=HF.lst (by rw[<-WM];exact WN ks)
abbrev jz(e p:Int):AV := .ifc 285 (.agg [aI e,aI p])
theorem yv(e p:Int):HF (jz e p):=HF.ifc (HF.agg fun c g=>by simp at g;rcases g with rfl|rfl<;>exact HF.sc _)
theorem failU(e:Int)(n:Nd):qU qb 223 [aI e,eNd n] (.pan (jz e n.pos)):=by
 refine za.of_sound ?_;refine qe.of_awp call223 func223 rfl (qh zKr) zKr (pl:={}) ?_;simp only[eNd,yQ];simp[go_sem];exact⟨_,_,⟨rfl,rfl⟩,.hf _ (yv _ _)⟩
theorem zH(ok:Bool)(e:Int)(n:Nd):qU qb 145 [aB ok,aI e,eNd n] (if ok then .ret (.tup []) else .pan (jz e n.pos)):=by
 refine za.of_sound ?_;refine qe.of_awp call145 func145 rfl (qh zKr) zKr (pl:={}) ?_;simp only[eNd];cases ok
 .simp [go_sem]
  refine qc.pans (failU e n) (.zs (.zk (qz n) .nil)) ?_;simp[go_sem];exact .hf _ (yv _ _)
 .simp [go_sem]
  exact .hf _ (HF.tup zSp)
theorem qfS(mu:Mu)(b:Nat)(x y:AV)(g:mu[b]?=some (.arr [x,y])):yn qb 216 [.ptr b 0] mu none fun mu'=>mu'=mu:=by
 refine yn.of_awp call216 func216 rfl ⟨_,_,_,_,rfl⟩ (qh zKr) zKr zKr (pl:={}) ?_;simp[go_sem]
theorem qfT(mu:Mu)(b:Nat)(x y:AV)(e p:Int)(g:mu[b]?=some (.arr [x,y])):yn qb 216 [.ptr b 0] mu (some (jz e p)) fun mu'=>∃ c,mu'=mu.set b (.arr [aI e,aI p])++[c]:=by
 refine yn.of_awp call216 func216 rfl ⟨_,_,_,_,rfl⟩ (qh zKr) zKr zKr (pl:={}) ?_;have i:b<mu.length:=(qk.1 g).1;have hg:∀ c:Cell,(mu++[c])[b]?=some (.arr [x,y]):=fun c=>by rw[qo i,g]
 have j:∀ c d:Cell,(mu++[c]).set b d=mu.set b d++[c]:=fun c d=>List.set_append_left b d i
 simp[go_sem,hg,j]
theorem pO{g:wh}{caps:List AV}{mu:Mu}{R:AEnd->Mu->Prop}(h:qe qb g caps (mu++[.dead]) R)(hp:∀ v m,R (.pan v) m->∃ e p,v=jz e p) :
  qe qb 142 [.fn (.func g) [] caps] mu fun e m=>∃ j c,(∃ l,m=j.set mu.length c++l)/\((∃ r,R (.ret r) j/\e = .ret (.agg [aI 0,aI 0]))\/∃ I p,R (.pan (jz I p)) j/\e = .ret (.agg [aI I,aI p])):=by
 refine qe.of_awpD call142 func142 rfl (qh zKr) zKr (pl:={}) ?_;simp[go_sem];refine wK.intro (g:=216) (first:=[]) (caps:=[.ptr mu.length 0]) zSi call216 ?_;simp[go_sem];refine qc.eff (qe.hid (i:=mu.length) (c := .arr [aI 0,aI 0]) zSp zSp (zUs h)) ?_ ?_
 .rintro r m ⟨j,t,C,rfl⟩
  have o:mu.length<j.length:=(qk.1 C).1;have hg:(j.set mu.length (.arr [aI 0,aI 0]))[mu.length]?=some (.arr [aI 0,aI 0]):=qJ o;simp[go_sem,o];refine yn.mono (qfS _ mu.length (aI 0) (aI 0) hg) ?_;rintro _ rfl;simp[go_sem,o];exact⟨j,⟨_,[],(List.append_nil _).symm⟩,.inl ⟨r,t⟩⟩
 .rintro r m ⟨j,t,C,rfl⟩
  obtain⟨e,p,rfl⟩:=hp _ _ t;have o:mu.length<j.length:=(qk.1 C).1;have hg:(j.set mu.length (.arr [aI 0,aI 0]))[mu.length]?=some (.arr [aI 0,aI 0]):=qJ o;simp[go_sem];refine yn.mono (qfT _ mu.length (aI 0) (aI 0) e p hg) ?_;rintro _ ⟨c,rfl⟩;simp[go_sem,o];exact⟨j,⟨_,[c],rfl⟩,.inr t⟩
end Y1
namespace Y2
open Y1
abbrev aT(t:List Int):AV := .agg (t.map fun x => .sc (.int .i8 x))
structure Kd where
 ar:Int
 ts:List (List Int)
abbrev mKd(ts:List (List Int)):AV := .ims (ts.map fun t=>(aT t,aB true))
abbrev cKd(k:Kd):List AV:=[aI k.ar,mKd k.ts]
abbrev eKd(k:Kd):AV := .agg (cKd k)
theorem WO(t:List Int):HF (aT t):=HF.agg fun c g=>by
 obtain⟨x,_,rfl⟩:=qr.1 g;exact HF.sc _
theorem Jf(ts:List (List Int)):HF (mKd ts):=HF.ims fun p hp=>by
 obtain⟨t,_,rfl⟩:=qr.1 hp;exact⟨WO t,HF.sc _⟩
theorem zQ(k:Kd):HF (eKd k):=HF.agg fun c g=>by
 simp at g;rcases g with rfl|rfl
 .exact HF.sc _
 .exact Jf _
theorem pP(n:Int):qd qb 324 [aI n] (eKd ⟨n,[]⟩):=by
 refine qd.of_sound (qe.of_awp call324 func324 rfl (qh zKr) zKr (pl:={}) ?_);simp[go_sem];exact Rd.aggs ⟨.hf _ (HF.sc _),Rd.mps (es:=[]) (fs:=[]) rfl zSp zSp zSp zSp,trivial⟩
theorem jA{a b:ByteArray}(h:¬a=b):(a.toList == b.toList)=false:=by
 cases g:(a.toList == b.toList) with
 |false=>rfl
 |true=>exact absurd (U8 (by rw[beq_toListBytes];exact g)) h
def aSc:List (ByteArray×Kd)->AV
 | [] => .sc (.pointer none)
 |v :: s => .ip [aS v.1,aI v.2.ar,mKd v.2.ts,aSc s]
@[go_sem] theorem aSc_cells(s:List (ByteArray×Kd)):(aSc s).cells=[aSc s]:=by cases s<;>rfl
@[go_sem] theorem aSc_one(s:List (ByteArray×Kd)):(aSc s).one=true:=by cases s<;>rfl
theorem wL:∀ s,HF (aSc s)
 | []=>HF.sc _
 |v :: s=>HF.ip fun c g=>by
  simp only[qt,qE,or_false]at g;rcases g with rfl|rfl|rfl|rfl
  .exact HF.sc _
  .exact HF.sc _
  .exact Jf _
  .exact wL s
def y8(name:ByteArray):List (ByteArray×Kd)->List (ByteArray×Kd)
 | []=>[]
 |v :: s=>if v.1=name then v :: s else y8 name s
theorem findU(s:List (ByteArray×Kd))(name:ByteArray):qd qb 321 [aSc s,aS name] (aSc (y8 name s)):=by
 refine qd.of_sound (qe.of_awp call321 func321 rfl (qh zKr) zKr (pl:={}) ?_);simp[go_sem];refine qn.intro (fun n U=>∃ r,n=r.length/\y8 name r=y8 name s/\U.tm 0=aSc r/\U.tm 1=aS name/\U.mu=[]) s.length ⟨s,rfl,rfl,rfl,rfl,rfl⟩ ?_;rintro n U ⟨r,rfl,i,j,o,l⟩;cases r with
 |nil =>
  simp[go_sem,aSc,j,l];rw[<-i];exact .zsc _
 |cons v r =>
  by_cases g:v.1=name
  .simp [go_sem,aSc,j,o,l,g]
   rw[<-i,y8,if_pos g];have:=wL (v :: r);simp only[aSc,g]at this⊢;exact .hf _ this
  .simp [go_sem,aSc,j,o,l,jA g]
   rw[y8,if_neg g]at i;exact⟨_,Nat.lt_succ_self _,r,rfl,i,rfl⟩
end Y2
namespace Y3
open Y2
def pad(l:List Int):List Int:=[l.getD 0 0,l.getD 1 0,l.getD 2 0]
abbrev i8s(l:List Int):List AV:=l.map fun x => .sc (.int .i8 x)
theorem qfU(l:List Int)(k:Nat)(g:k<l.length)(i:l.length<=3):(i8s (pad (l.take k))).set k (.sc (.int .i8 l[k]))=i8s (pad (l.take (k+1))):=by
 match l,i with
 | [],_=>simp at g
 | [a],_=>match k,g with|0,_=>rfl
 | [a,b],_=>match k,g with|0,_=>rfl|1,_=>rfl
 | [a,b,c],_=>match k,g with|0,_=>rfl|1,_=>rfl|2,_=>rfl
 |a :: b :: c :: d :: l,h=>simp at h
theorem pQ(l:List Int):(pad l).length=3:=rfl
theorem qfV(l:List Int):(i8s (pad l)).take 3=i8s (pad l):=rfl
theorem wrap8{x:Int}(h:0<=x/\x<128):IntKind.i8.wrap x=x:=by
 simp[IntKind.wrap,IntKind.signed,IntKind.bits];omega
@[go_sem] theorem findA_nil(P:j1)(g:j2)(k:AV)(i:Nat):zm P g k [] i=some none:=eqS rfl
theorem ofU(l:List Int)(P:l.length<=3)(R:∀ x,x∈l->0<=x/\x<128):qd qb 303 [lI l] (eKd ⟨l.length,[pad l]⟩):=by
 refine qd.of_sound (qe.of_awp call303 func303 rfl (qh zKr) zKr (pl:={}) ?_);simp[go_sem];refine qn.up l.length (fun k U=>U.tm 0=lI l/\U.tm 2 = .ptr 0 0/\U.tm 3 = .ptr 1 0/\U.tm 6=lI l/\U.tm 7=aI l.length/\U.tm 8=aI k/\U.mu=[.arr [aI 0,.sc (.map none)],.arr (i8s (pad (l.take k)))]) ?_ ?_
 .simp [go_sem,pad]
  done
 .rintro k U hk ⟨o,p,r,h6,t,C,J⟩
  by_cases he:k=l.length
  .subst he
   simp[go_sem,o,p,r,t,C,J,pQ,qfV];exact Rd.aggs ⟨.hf _ (HF.sc _),Rd.mps (es:=[(aT (pad l),aB true)]) (fs:=[(aT (pad l),aB true)]) rfl zSp zSp zSp (fun x hx=>by simp at hx;subst hx;exact⟨WO _,HF.sc _⟩),trivial⟩
  .have g:k<l.length:=by omega
   have i:(k:Int)<3:=zOm;have hw:=wrap8 (R l[k] zSp);have j:=qfU l k g P;simp[go_sem,o,p,r,h6,t,C,J,g,i,hw,pQ,show k<=2 by omega,j];simp[IntKind.wrap,IntKind.signed,IntKind.bits];omega
end Y3
namespace Y4
end Y4
namespace P1
open Y1 Y2 Y3
section
abbrev Tp:=List Int
variable {a b:List Tp}
structure Pd where
 name:ByteArray
 params:List (ByteArray×Int)
 body:Nd
structure TS where
 sorts:List (ByteArray×Bool)
 fields:List Fld
 preds:List Pd
 facts:List (ByteArray×Nd)
def ins(l:List Tp)(t:Tp):List Tp:=if t∈l then l else l++[t]
def uni(a b:List Tp):List Tp:=b.foldl ins a
theorem uw{l:List Tp}{t x:Tp}:x∈ins l t↔x∈l\/x=t:=by
 unfold ins;split
 .exact ⟨.inl,fun h=>h.elim id fun e=>by rw[e];assumption⟩
 .simp
theorem vE{x:Tp}:x∈uni a b↔x∈a\/x∈b:=by
 unfold uni;induction b generalizing a with
 |nil=>simp
 |cons t b g =>
  rw[List.foldl_cons,g,uw,qt,or_assoc]
theorem Z4{l:List Tp}{t:Tp}(h:l.Nodup):(ins l t).Nodup:=by
 unfold ins;split
 .exact h
 .rename_i i
  rw[uL];exact⟨h,zSp,fun x hx y g e=>by simp at g;subst g;subst e;exact i hx⟩
theorem uU(h:a.Nodup):(uni a b).Nodup:=by
 unfold uni;induction b generalizing a with
 |nil=>exact h
 |cons t b g=>exact g (Z4 h)
def kOf(l:List Int):Kd:=⟨l.length,[pad l]⟩
def kSum(a b:Kd):Kd:=⟨a.ar,uni (uni [] a.ts) b.ts⟩
def conc(x:Tp)(n:Nat)(y:Tp)(m skip:Nat):Tp:=pad (x.take (n-skip)++(y.take m).drop skip)
def pairs(a b:List Tp):List (Tp×Tp):=a.flatMap fun x=>b.map fun y=>(x,y)
theorem Z5{x y:Tp}:(x,y)∈pairs a b↔x∈a/\y∈b:=by
 simp[pairs]
def ux(n m:Nat)(a b:List Tp):List Tp:=uni [] ((pairs a b).filterMap fun q=>if q.1.getD (n-1) 0=q.2.getD 0 0 then some (conc q.1 n q.2 m 1) else none)
def zI(a b:Kd):Kd:=⟨a.ar+b.ar-2,ux a.ar.toNat b.ar.toNat a.ts b.ts⟩
def wO(n m:Nat)(a b:List Tp):List Tp:=uni [] ((pairs a b).map fun q=>conc q.1 n q.2 m 0)
def uy(a b:Kd):Kd:=⟨a.ar+b.ar,wO a.ar.toNat b.ar.toNat a.ts b.ts⟩
def cloN:Nat->Nat->Kd->Kd
 | 0,_,a=>a
 |f+1,n,a=>if n<a.ts.length then cloN f a.ts.length (kSum a (zI a a)) else a
def kClo(a:Kd):Kd:=cloN 70 0 a
def zz(ns g:Nat):Kd:=⟨g,(qu ns).map fun (i:Nat)=>pad (qZ g (i:Int))⟩
def Z6(a b:Kd):Kd:=⟨a.ar,a.ts.filter fun t=>decide (t∈b.ts)⟩
def kTr(a:Kd):Kd:=⟨2,uni [] (a.ts.map fun t=>[t.getD 1 0,t.getD 0 0,0])⟩
def yV:ByteArray:=⟨#[95,102,105,114,115,116]⟩
def jM:ByteArray:=⟨#[95,110,101,120,116]⟩
def yB(fs:List Fld)(nm:ByteArray):List Kd:=fs.filterMap fun f=>if f.name=nm then some (kOf f.sorts) else none
def vS(i:Nat)(s:ByteArray×Bool)(nm:ByteArray):List Kd:=
 (if s.1=nm then [kOf [(i:Int)]] else [])++((if s.2=true/\s.1++yV=nm then [kOf [(i:Int)]] else [])++(if s.2=true/\s.1++jM=nm then [kOf [(i:Int),(i:Int)]] else []))
def yC:Nat->List (ByteArray×Bool)->ByteArray->List Kd
 |_,[],_=>[]
 |i,s :: r,nm=>vS i s nm++yC (i+1) r nm
def means(ts:TS)(nm:ByteArray):List Kd:=yB ts.fields nm++yC 0 ts.sorts nm
structure Ck where
 ts:TS
 calls:Nat
 timed:List Bool
def zn(c:Ck)(nm:ByteArray):Option Nat:=(c.ts.preds.take c.calls).findIdx? fun p=>decide (p.name=nm)
def yh(op:Int):Bool:=decide (op=5)||decide (op=48)||decide (op=49)||decide (op=50)||decide (op=51)
def zL(c:Ck)(op:Int)(nm:ByteArray):Bool:=yh op||(decide (op=47)&&(match zn c nm with|some p=>c.timed.getD p false|none=>false))
mutual
def zX(c:Ck):Nd->Bool
 | .mk op nm n ks p=>zL c op nm||Zu c ks
def Zu(c:Ck):List Nd->Bool
 | []=>false
 |k :: ks=>zX c k||Zu c ks
end
end
def tmsL(ts:TS):Nat->List Bool
 | 0=>[]
 |k+1=>tmsL ts k++(match ts.preds[k]? with|some p=>[zX ⟨ts,k,tmsL ts k⟩ p.body] | none=>[])
def mkCk(ts:TS)(g:Nat):Ck:=⟨ts,g,tmsL ts g⟩
abbrev Scp:=List (ByteArray×Kd)
abbrev Dg:=Int×Int
abbrev Res:=Except Dg (Option Kd)
def jg(c:Ck)(s:Scp)(nm:ByteArray)(pos:Int):Res:=
 match y8 nm s with
 |v :: _ => .ok (some v.2)
 | []=>match means c.ts nm with
  | [] => .error (40,pos)
  | [k] => .ok (some k)
  |_ => .error (44,pos)
def vT(op:Int)(a b:Kd):Kd:=if op=6\/op=14 then kSum a b else if op=7 then Z6 a b else a
def binK(ns:Nat)(op:Int)(a:Kd):Kd:=if op=12 then kClo a else if op=13 then kSum (kClo a) (zz ns 2) else kTr a
def z7(ns:Nat)(op n pos:Int)(l:List (Option Kd)):Res:=
 if op=2 then .ok (some ⟨n,[]⟩)
 else if op=3 then .ok (some (zz ns 1))
 else if op=4 then .ok (some (zz ns 2))
 else match l with
  | [a]=>if op=5 then .ok a else match a with
   |some a=>if op=11\/op=12\/op=13 then (if a.ar=2 then .ok (some (binK ns op a)) else .error (42,pos)) else .ok none
   |none => .ok none
  | [some a,some b] =>
   if op=6\/op=14\/op=7\/op=8\/op=32\/op=33 then (if a.ar=b.ar then .ok (some (vT op a b)) else .error (42,pos))
   else if op=9 then (if 1<=a.ar+b.ar-2/\a.ar+b.ar-2<=3 then .ok (some (zI a b)) else .error (42,pos))
   else if op=10 then (if a.ar+b.ar<=3 then .ok (some (uy a b)) else .error (42,pos))
   else .ok none
  |_ => .ok none
def vU(i:Int)(k:Kd):Bool:=k.ts.all fun t=>decide (t.getD 0 0=i)
mutual
def exam(c:Ck)(s:Scp)(inn:Bool):Nd->Res
 | .mk op nm n ks pos =>
  if (inn&&zL c op nm)=true then .error (46,pos)
  else if op=1 then jg c s nm pos
  else if op=47 then
   if (c.ts.preds.any fun p=>decide (p.name=nm))=true then
    match zn c nm with
    |none => .error (45,pos)
    |some p=>match c.ts.preds[p]? with
     |none => .error (45,pos)
     |some g=>if g.params.length=ks.length then zN c s pos g.params ks else .error (45,pos)
   else .error (40,pos)
  else if op=15\/op=45\/op=46 then z8 c s (inn||decide (op=15)) nm pos ks
  else match qQ c s (inn||decide (op=12)||decide (op=13)) ks with
   | .error e => .error e
   | .ok l=>z7 c.ts.sorts.length op n pos l
def qQ(c:Ck)(s:Scp)(inn:Bool):List Nd->Except Dg (List (Option Kd))
 | [] => .ok []
 |k :: ks=>match exam c s inn k with
  | .error e => .error e
  | .ok a=>match qQ c s inn ks with
   | .error e => .error e
   | .ok l => .ok (a :: l)
def zN(c:Ck)(s:Scp)(pos:Int):List (ByteArray×Int)->List Nd->Res
 |_,[] => .ok none
 | [],_ => .ok none
 |p :: g,k :: ks=>match exam c s true k with
  | .error e => .error e
  | .ok none => .error (42,pos)
  | .ok (some a)=>if a.ar=1 then (if vU p.2 a=true then zN c s pos g ks else .error (43,pos)) else .error (42,pos)
def z8(c:Ck)(s:Scp)(inn:Bool)(nm:ByteArray)(pos:Int):List Nd->Res
 | [] => .ok none
 |k :: ks=>match exam c s inn k with
  | .error e => .error e
  | .ok none => .error (42,pos)
  | .ok (some a)=>if a.ar=1 then (match qQ c ((nm,a) :: s) inn ks with
    | .error e => .error e
    | .ok _ => .ok (some a)) else .error (42,pos)
end
def zJ(env:List (ByteArray×Int)):Scp:=env.foldl (fun s p=>(p.1,kOf [p.2]) :: s) []
def dgOf:Res->Dg
 | .ok _=>(0,0)
 | .error e=>e
def yR(c:Ck)(env:List (ByteArray×Int))(n:Nd):Dg:=if 30<=n.op then dgOf (exam c (zJ env) false n) else (43,n.pos)
def yi(ts:TS)(env:List (ByteArray×Int))(n:Nd):Dg:=yR (mkCk ts ts.preds.length) env n
end P1
end Go.Proofs.YtpagnklaanbmbaaGreatDoor
namespace Go.Ev
open Go
structure KeyT (P:j1) (kt:j2) {κ:Type} [DecidableEq κ] (kenc:κ->AV) (ok:κ->Prop):Prop where
 eq:∀ a b,ok a->ok b->js P kt (kenc a) (kenc b)=some (decide (a=b))
 kok:∀ a,ok a->y6 P kt (kenc a)=true
section
variable {κ α:Type} [DecidableEq κ]
def yS(k:κ):List (κ×α)->Nat->Option Nat
 | [],_=>none
 |e :: I,i=>if k=e.1 then some i else yS k I (i+1)
def getK(k:κ):List (κ×α)->Option α
 | []=>none
 |e :: I=>if k=e.1 then some e.2 else getK k I
def setK(k:κ)(v:α):List (κ×α)->List (κ×α)
 | []=>[(k,v)]
 |e :: I=>if k=e.1 then (k,v) :: I else e :: setK k v I
theorem VI{k:κ}:∀{es:List (κ×α)} {i:Nat} {j:Nat},yS k es i=some j->∃ n v,j=i+n/\es[n]?=some (k,v)/\getK k es=some v
 | [],_,_,h=>by simp[yS]at h
 |e :: es,i,j,h=>by
  unfold yS at h;unfold getK;split at h
  .rename_i g
   subst g;simp only[qp]at h;subst h;exact⟨0,e.2,rfl,rfl,zSp⟩
  .rename_i g
   obtain⟨n,v,rfl,l,o⟩:=VI h;exact⟨n+1,v,zOm,zUs l,by rw[if_neg g];exact o⟩
theorem VJ{k:κ}:∀{es:List (κ×α)} {i:Nat},yS k es i=none->getK k es=none/\∀ v,setK k v es=es++[(k,v)]
 | [],_,_=>⟨rfl,fun _=>rfl⟩
 |e :: es,i,h=>by
  unfold yS at h;split at h
  .exact absurd h zSp
  .rename_i g
   obtain⟨j,l⟩:=VJ h;refine⟨by unfold getK;rw[if_neg g];exact j,fun v=>?_⟩;simp only[setK,if_neg g,l v,jd]
theorem WP{k:κ}{v:α}:∀{es:List (κ×α)} {i n:Nat},yS k es i=some (i+n)->setK k v es=es.set n (k,v)
 | [],_,_,h=>by simp[yS]at h
 |e :: es,i,n,h=>by
  unfold yS at h;split at h
  .rename_i g
   have:n=0:=by simp only[qp]at h;omega
   subst this;simp[setK,g]
  .rename_i g
   obtain⟨m,l,o,_⟩:=VI h;have:n=m+1:=zOm;subst this;have j:yS k es (i+1)=some (i+1+m):=by rw[h,Nat.add_assoc,Nat.add_comm 1 m]
   simp only[setK,if_neg g,WP (v:=v) j,List.set_cons_succ]
theorem pR{k:κ}{v:α}:∀{es:List (κ×α)} {x:κ},x∈(setK k v es).map Prod.fst↔x=k\/x∈es.map Prod.fst
 | [],x=>by simp[setK]
 |e :: es,x=>by
  unfold setK;split
  .rename_i g;subst g;simp
  .simp only[yc,qt,pR]
   constructor
   .rintro (h|h|h)
    .exact .inr (.inl h)
    .exact .inl h
    .exact .inr (.inr h)
   .rintro (h|h|h)
    .exact .inr (.inl h)
    .exact .inl h
    .exact .inr (.inr h)
theorem uV{k:κ}{v:α}:∀{es:List (κ×α)},(es.map Prod.fst).Nodup->((setK k v es).map Prod.fst).Nodup
 | [],_=>by simp[setK]
 |e :: es,h=>by
  unfold setK;split
  .rename_i g;subst g;simpa using h
  .rename_i g
   rw[yc,vb]at h⊢;exact⟨fun i=>(pR.1 i).elim (fun e=>g e.symm) h.1,uV h.2⟩
theorem jB{k x:κ}{v:α}:∀{es:List (κ×α)},getK x (setK k v es)=if x=k then some v else getK x es
 | []=>by simp[setK,getK]
 |e :: es=>by
  unfold setK;split
  .rename_i g
   subst g;by_cases hx:x=e.1
   .simp [getK,hx]
   .simp [getK,hx]
  .rename_i g
   by_cases hx:x=e.1
   .have:x≠k:=fun h=>g (by rw[<-h,hx])
    rw[if_neg this];simp[getK,hx]
   .simp only[getK,if_neg hx,jB]
theorem Ql{k:κ}{v:α}:∀{es:List (κ×α)},(es.map Prod.fst).Nodup->(getK k es=some v↔(k,v)∈es)
 | [],_=>by simp[getK]
 |e :: es,h=>by
  rw[yc,vb]at h;unfold getK;by_cases g:k=e.1
  .rw [if_pos g]
   subst g;refine⟨fun h=>?_,fun j=>?_⟩
   .cases h;exact List.mem_cons_self
   .rcases qt.1 j with i|i
    .rw [<-i]
    .exact absurd (qr.2 ⟨_,i,rfl⟩) h.1
  .rw [if_neg g,Ql h.2,qt]
   exact⟨.inr,fun h=>h.elim (fun e=>absurd (congrArg Prod.fst e) g) id⟩
def delK(k:κ):List (κ×α)->List (κ×α)
 | []=>[]
 |e :: I=>if k=e.1 then I else e :: delK k I
theorem VK{k:κ}:∀{es:List (κ×α)},(es.map Prod.fst).Nodup->∀{x:κ×α},x∈delK k es↔x∈es/\x.1≠k
 | [],_,x=>by simp[delK]
 |e :: es,h,x=>by
  rw[yc,vb]at h;unfold delK;by_cases i:k=e.1
  .rw [if_pos i]
   refine⟨fun j=>⟨List.mem_cons_of_mem _ j,fun l=>?_⟩,fun j=>?_⟩
   .exact h.1 (qr.2 ⟨x,j,by rw[l,i]⟩)
   .rcases qt.1 j.1 with g|g
    .exact absurd (by rw[g,i]) j.2
    .exact g
  .rw [if_neg i,qt,qt,VK h.2]
   refine⟨fun g=>?_,fun g=>?_⟩
   .rcases g with rfl|g
    .exact ⟨.inl rfl,fun e=>i e.symm⟩
    .exact ⟨.inr g.1,g.2⟩
   .rcases g with ⟨g|g,o⟩
    .exact .inl g
    .exact .inr ⟨g,o⟩
theorem WQ{k:κ}:∀{es:List (κ×α)},(delK k es).Sublist es
 | []=>by simp[delK]
 |e :: es=>by
  unfold delK;split
  .exact List.sublist_cons_self _ _
  .exact WQ.cons_cons _
theorem Zv{k:κ}{es:List (κ×α)}(h:(es.map Prod.fst).Nodup):((delK k es).map Prod.fst).Nodup:=h.sublist (WQ.map _)
theorem uW{k x:κ}:∀{es:List (κ×α)},(es.map Prod.fst).Nodup->getK x (delK k es)=if x=k then none else getK x es
 | [],_=>by simp[delK,getK]
 |e :: es,h=>by
  rw[yc,vb]at h;unfold delK;by_cases g:k=e.1
  .rw [if_pos g]
   by_cases hx:x=k
   .rw [if_pos hx]
    cases hg:getK x es with
    |none=>rfl
    |some v=>exact absurd (qr.2 ⟨_,(Ql h.2).1 hg,by rw[hx,g]⟩) h.1
   .rw [if_neg hx]
    have:x≠e.1:=fun i=>hx (by rw[i,g])
    simp[getK,this]
  .rw [if_neg g]
   by_cases hx:x=e.1
   .have:x≠k:=fun i=>g (by rw[<-i,hx])
    rw[if_neg this];simp[getK,hx]
   .simp only[getK,if_neg hx,uW h.2]
theorem pS{k:κ}:∀{es:List (κ×α)} {i:Nat},(match yS k es i with|some j=>es.eraseIdx (j-i)|none=>es)=delK k es
 | [],i=>by simp[yS,delK]
 |e :: es,i=>by
  unfold yS delK;by_cases g:k=e.1
  .simp [g]
  .rw [if_neg g,if_neg g,<-pS (i:=i+1)]
   cases hp:yS k es (i+1) with
   |none=>rfl
   |some j =>
    obtain⟨n,v,l,_⟩:=VI hp;simp only;rw[show j-i=(j-(i+1))+1 by omega,List.eraseIdx_cons_succ]
abbrev encK(g:κ->AV)(venc:α->AV)(es:List (κ×α)):List (AV×AV):=es.map fun e=>(g e.1,venc e.2)
variable {P:j1} {kt:j2} {kenc:κ->AV} {ok:κ->Prop} {venc:α->AV}
theorem KeyT.find(h:KeyT P kt kenc ok){k:κ}(g:ok k):∀{es:List (κ×α)} {i:Nat},(∀ e,e∈es->ok e.1)->zm P kt (kenc k) (encK kenc venc es) i=some (yS k es i)
 | [],i,_=>rfl
 |e :: es,i,j=>by
  simp only[encK,yc,zm,h.eq k e.1 g (j e zSp),yS];by_cases hx:k=e.1
  .simp [hx]
  .simp only[hx,decide_false,if_false]
   exact KeyT.find h g (fun e l=>j e (zP1 l))
theorem KeyT.update(h:KeyT P kt kenc ok){et:j2}{t:j2}(i:mapT P t=some (kt,et)){mu:Mu}{b:Nat}{es:List (κ×α)}(l:mu[b]?=some (.mp (encK kenc venc es))){k:κ}{v:α}(g:ok k)(o:∀ e,e∈es->ok e.1) :
  jt P mu t (.mp b) (kenc k) (venc v)=some (mu.set b (.mp (encK kenc venc (setK k v es)))):=by
 simp only[jt,i,l,h.kok k g,if_true,h.find (venc:=venc) g o,zd];cases hp:yS k es 0 with
 |none=>simp only[ZV,(VJ hp).2 v,encK,zx,yc,List.map_nil]
 |some j =>
  have p:yS k es 0=some (0+j):=by rw[hp,yy]
  simp only[ZV,WP (v:=v) p,encK,List.map_set]
theorem KeyT.updateD(h:KeyT P kt kenc ok){et:j2}{t:j2}(i:mapT P t=some (kt,et)){mu:Mu}{b:Nat}{es:List (κ×α)}(l:mu[b]?=some (.md (encK kenc venc es))){k:κ}{v:α}(g:ok k)(o:∀ e,e∈es->ok e.1) :
  jt P mu t (.mp b) (kenc k) (venc v)=some (mu.set b (.md (encK kenc venc (setK k v es)))):=by
 simp only[jt,i,l,h.kok k g,if_true,h.find (venc:=venc) g o,zd];cases hp:yS k es 0 with
 |none=>simp only[ZV,(VJ hp).2 v,encK,zx,yc,List.map_nil]
 |some j =>
  have p:yS k es 0=some (0+j):=by rw[hp,yy]
  simp only[ZV,WP (v:=v) p,encK,List.map_set]
theorem pT{g j:Type}(f:g->j):∀(l:List g) (i:Nat),(l.map f).eraseIdx i=(l.eraseIdx i).map f
 | [],_=>rfl
 |x :: l,0=>rfl
 |x :: l,i+1=>by simp[pT f l i]
theorem KeyT.delete(h:KeyT P kt kenc ok){et:j2}{t o:j2}(p:mapT P t=some (kt,et)){mu:Mu}{b:Nat}{es:List (κ×α)}(r:mu[b]?=some (.mp (encK kenc venc es))){k:κ}(l:ok k)(C:∀ e,e∈es->ok e.1){K:AV->Mu->Prop}
  (g:K (.tup []) (mu.set b (.md (encK kenc venc (delK k es))))):un P mu .delete #[t,o] [.mp b,kenc k] K:=by
 refine qfI p r (h.kok k l) (h.find (venc:=venc) l C) ?_;have:=pS (k:=k) (es:=es) (i:=0);rw[<-this]at g;cases hp:yS k es 0 with
 |none=>simpa only[hp,delE] using g
 |some j =>
  simp only[hp,Nat.sub_zero]at g;have e:delE (encK kenc venc es) (some j)=encK kenc venc (es.eraseIdx j):=by simp only[delE,encK,pT]
  rw[e];exact g
theorem KeyT.look(h:KeyT P kt kenc ok){et:j2}{t:j2}(l:mapT P t=some (kt,et)){mu:Mu}{m:AV}{es:List (κ×α)}(o:jI mu m=some (encK kenc venc es)){k:κ}(g:ok k)(p:∀ e,e∈es->ok e.1){z:AV}(r:qC P et=some z)(b:Bool) :
  jf P mu t m (kenc k) b=some (match getK k es with|some v=>if b then .tup [venc v,.sc (.bool true)] else venc v|none=>if b then .tup [z,.sc (.bool false)] else z):=by
 simp only[jf,l,o,h.kok k g,if_true,h.find (venc:=venc) g p];cases hp:yS k es 0 with
 |none=>simp only[(VJ hp).1,r,zd]
 |some j =>
  obtain⟨n,v,i,C,I⟩:=VI hp;rw[yy]at i;subst i;simp only[I,encK,zu,C,zd]
theorem KeyT.lookS(h:KeyT P kt kenc ok){et:j2}{t:j2}(g:mapT P t=some (kt,et)){mu:Mu}{es:List (κ×α)}{k:κ}(j:ok k)(i:∀ e,e∈es->ok e.1){z:AV}(l:qC P et=some z)(b:Bool) :
  yg P mu t (.ims (encK kenc venc es)) (kenc k) b=some (match getK k es with|some v=>if b then .tup [venc v,.sc (.bool true)] else venc v|none=>if b then .tup [z,.sc (.bool false)] else z):=by
 have o:(encK kenc venc es).all (fun e=>y6 P kt e.1)=true:=qI.2 fun e p=>by
  obtain⟨x,hx,rfl⟩:=qr.1 p;exact h.kok _ (i x hx)
 simp only[yg,g,o,if_true];exact h.look g (m := .im _) rfl j i l b
end
def VL(n:Nat)(J:List Nat->St->Prop)(seen:List Nat)(Q:qX->St->Prop):qX->St->Prop
 | .normal,U=>∃ i,i<n/\i ∉ seen/\Keep (J (seen++[i])) .mk U
 |e,U=>Q e U
section
variable (n:Nat) (J:List Nat->St->Prop) (seen:List Nat) (Q:qX->St->Prop) (st:St)
@[go_sem ↓] theorem qrN:VL n J seen Q .normal st=∃ i,i<n/\i ∉ seen/\Keep (J (seen++[i])) .mk st:=eqS rfl
@[go_sem ↓] theorem qrO(i:Nat):VL n J seen Q (.exit i) st=Q (.exit i) st:=eqS rfl
@[go_sem ↓] theorem seenQ_pan(v:AV):VL n J seen Q (.pan v) st=Q (.pan v) st:=eqS rfl
end
section
variable {st:St}{Q:qX->St->Prop}
theorem WR:∀(n:Nat) (l:List Nat),l.Nodup->(∀ i,i∈l->i<n)->l.length<=n
 | 0,l,_,h=>by
  cases l with
  |nil=>simp
  |cons a l=>exact absurd (h a zSp) zOm
 |n+1,l,g,h=>by
  have j:=WR n (l.erase n) (g.erase n) (fun i o=>by
   have r:=h i (List.mem_of_mem_erase o);have t:i≠n:=fun e=>by
    subst e;exact(List.Nodup.not_mem_erase g) o
   omega)
  by_cases p:n∈l
  .rw [List.length_erase_of_mem p]at j;omega
  .rw [List.erase_of_not_mem p]at j;omega
theorem qfW{n i:Nat}{seen:List Nat}(p:seen.Nodup)(r:∀ j,j∈seen->j<n)(I:i<n)(t:i ∉ seen):(seen++[i]).Nodup/\(∀ j,j∈seen++[i]->j<n)/\n-(seen++[i]).length<n-seen.length:=by
 have g:(seen++[i]).Nodup:=by
  rw[uL];refine⟨p,zSp,fun x hx y l=>?_⟩;rw[qL]at l;subst l;exact fun e=>t (e ▸ hx)
 have o:∀ j,j∈seen++[i]->j<n:=by
  intro j C;rcases qM.1 C with h|h
  .exact r j h
  .rw [qL]at h;omega
 refine⟨g,o,?_⟩;have:=WR n _ g o;simp at this⊢;omega
theorem qn.seen{P:j1}{pl:Pol}{body:Code}(n:Nat)(J:List Nat->St->Prop)(o:J [] st)(h:∀ seen st,seen.Nodup->(∀ i,i∈seen->i<n)->J seen st->awp P pl body (VL n J seen Q) st):qn P pl body Q st:=by
 refine qn.intro (fun m st=>∃ seen,m=n-seen.length/\seen.Nodup/\(∀ i,i∈seen->i<n)/\J seen st) n ⟨[],zSp,zSp,zSp,o⟩ ?_;rintro m st ⟨seen,rfl,j,l,p⟩;refine awp.mono body (h seen st j l p) (fun e st g=>?_);cases e with
 |normal =>
  obtain⟨i,r,t,C⟩:=g;obtain⟨I,R,T⟩:=qfW j l r t;exact⟨_,T,seen++[i],rfl,I,R,C⟩
 |exit i=>exact g
 |ret=>exact g
 |pan v=>exact g
theorem qn.upK{P:j1}{pl:Pol}{body:Code}(N:Nat)(I:Nat->St->Prop)(g:I 0 st)(h:∀ k st,k<=N->I k st->awp P pl body (upQ (fun k=>Keep (I k) .mk) N k Q) st):qn P pl body Q st:=
 qn.up N (fun k=>Keep (I k) .mk) g h
theorem Keep.mk'{p:St->Prop}(h:p st):Keep p .mk st:=h
theorem qfX{m:Mu}{a:Cell}(i:m[0]?=some a):∃ g,m=a :: g:=by
 match m,i with
 |a :: g,i=>simp at i;subst i;exact⟨g,rfl⟩
end
end Go.Ev
namespace Go.Proofs.YtpagnklaanbmbaaGreatDoor
open Go Go.Ev Go.Proofs Tryz
namespace YM
open Y1 Y2 Y3 P1
def okT(t:Tp):Prop:=t.length=3
theorem pU:∀(a b:List Int),a.length=b.length->aEqs (i8s a) (i8s b)=some (decide (a=b))
 | [],[],_=>rfl
 |x :: a,y :: b,h=>by
  have g:=pU a b (zUs h);simp only[i8s,yc,aEqs]at g⊢;simp only[g];by_cases hx:x=y<;>simp[hx]
 | [],_ :: _,h=>by simp at h
 |_ :: _,[],h=>by simp at h
theorem keyT:KeyT qb 385 aT okT:=by
 refine⟨fun a b g i=>?_,fun a g=>?_⟩
 .unfold okT at g i
  rw[<-pU a b zOm];simp[go_sem,g,i]
 .unfold okT at g
  simp[go_sem,g]
theorem keyS:KeyT qb 9 aS (fun _=>True):=by
 refine⟨fun a b _ _=>?_,fun a _=>zSi⟩;simp[go_sem];by_cases h:a=b
 .subst h
  rw[decide_eq_true rfl];have:(a.data == a.data)=true:=beq_self_eq_true _;exact this
 .rw [decide_eq_false h]
  cases g:(a == b) with
  |false=>rfl
  |true=>exact absurd (U8 g) h
abbrev eT(l:List Tp):List (AV×AV):=l.map fun t=>(aT t,aB true)
theorem WS(l:List Tp):eT l=encK aT aB (l.map fun t=>(t,true)):=by simp[eT,encK]
theorem qfY(l:List Tp)(t:Tp):setK t true (l.map fun t=>(t,true))=(ins l t).map fun t=>(t,true):=by
 unfold ins;induction l with
 |nil=>simp[setK]
 |cons x l g =>
  by_cases h:t=x
  .subst h;simp[setK]
  .simp only[yc,setK,h,if_false,g,qt,false_or]
   split<;>simp
theorem updT{mu:Mu}{b:Nat}{l:List Tp}(i:mu[b]?=some (.mp (eT l))){t:Tp}(j:okT t)(o:∀ x,x∈l->okT x) :
  jt qb mu 330 (.mp b) (aT t) (aB true)=some (mu.set b (.mp (eT (ins l t)))):=by
 have:=keyT.update (et:=4) (t:=330) zSi (mu:=mu) (b:=b) (venc:=aB) (es:=l.map fun t=>(t,true)) (by rw[i,WS]) (k:=t) (v:=true) j (fun e p=>by
  obtain⟨x,hx,rfl⟩:=qr.1 p;exact o x hx)
 rw[this,qfY,<-WS]
theorem qfZ(l:List Tp)(t:Tp):getK t (l.map fun t=>(t,true))=if t∈l then some true else none:=by
 induction l with
 |nil=>rfl
 |cons x l g =>
  by_cases h:t=x
  .subst h;simp[getK]
  .simp only[yc,getK,h,if_false,g,qt,false_or]
theorem lookT{mu:Mu}{l:List Tp}{t:Tp}(i:okT t)(j:∀ x,x∈l->okT x) :
  yg qb mu 330 (.ims (eT l)) (aT t) false=some (aB (decide (t∈l))):=by
 have:=keyT.lookS (et:=4) (t:=330) zSi (mu:=mu) (venc:=aB) (es:=l.map fun t=>(t,true)) (k:=t) i (fun e o=>by
  obtain⟨x,hx,rfl⟩:=qr.1 o;exact j x hx) (z:=aB false) zSi false
 rw[WS,this,qfZ];by_cases h:t∈l<;>simp[h]
end YM
namespace Y5
open Y2 Y3 P1 YM
theorem Zw{l:List Tp}{i:Nat}{e:AV×AV}(h:(eT l)[i]?=some e):∃ x,l[i]?=some x/\e=(aT x,aB true):=by
 rw[zu,Option.map_eq_some_iff]at h;obtain⟨x,hx,rfl⟩:=h;exact⟨x,hx,rfl⟩
theorem pV(a b:Kd)(g:wh)(caps:List AV)(mu:Mu)(I:(Tp->Tp->Prop)->Mu->Prop)(h0:I (fun _ _=>False) mu)
  (hS:∀ S p a3,(∀ i,i<mu.length->a3[i]?=p[i]?)->I S p->I S a3) (ha:∀ x,x∈a.ts->okT x) (hb:∀ x,x∈b.ts->okT x)
  (hf:∀ S x y p,x∈a.ts->y∈b.ts->mu.length<=p.length->I S p->qe qb g ([aT x,aT y]++caps) p fun e m=>e = .ret (.tup [])/\I (fun u v=>S u v\/(u=x/\v=y)) m/\p.length<=m.length/\∀ i,mu.length<=i->i<p.length->m[i]?=p[i]?) :
  qe qb 336 [eKd a,eKd b,.fn (.func g) [] caps] mu fun e m=>e = .ret (.tup [])/\I (fun u v=>u∈a.ts/\v∈b.ts) m/\mu.length<=m.length:=by
 refine qe.of_awp call336 func336 rfl (qh zKr) zKr (pl:={}) ?_;simp[go_sem];refine qn.seen a.ts.length (fun seen U=>U.tm 2 = .fn (.func g) [] caps/\U.tm 4 = .ip (cKd b)/\U.tm 10 = .ptr mu.length 0/\mu.length<U.mu.length/\U.mu[mu.length]?=some (.it (eT a.ts) seen)/\I (fun u v=>(∃ i,i∈seen/\a.ts[i]?=some u)/\v∈b.ts) U.mu) ?_ ?_
 .simp [go_sem]
  exact hS _ mu _ (fun i hi=>qo hi) h0
 .rintro seen U ao aq ⟨e2,e4,a0,hl,a8,hI⟩
  simp[go_sem,a0];refine⟨mu.length,eT a.ts,seen,rfl,a8,fun i e hi a9=>?_,fun a4=>?_⟩
  .obtain ⟨x,hx,rfl⟩:=Zw hi
   have a5:x∈a.ts:=qV hx;have aa:x.length=3:=ha x a5;have ab:i<a.ts.length:=(qk.1 hx).1;obtain⟨x0,x1,x2,rfl⟩:∃ x0 x1 x2,x=[x0,x1,x2]:=by
    match x,aa with
    | [x0,x1,x2],_=>exact⟨_,_,_,rfl⟩
   have ad:∀(k:Nat) (c:Cell),k<mu.length->(U.mu.set mu.length c)[k]?=U.mu[k]?:=fun k c C=>qv zOm
   have ae:(U.mu.set mu.length (.it (eT a.ts) (seen++[i])))[mu.length]?=some (.it (eT a.ts) (seen++[i])):=qJ hl;simp[go_sem,e4,a0,hi,hl];refine qn.seen b.ts.length (fun sb o=>o.tm 2 = .fn (.func g) [] caps/\o.tm 4 = .ip (cKd b)/\o.tm 10 = .ptr mu.length 0/\o.tm 6 = .ptr U.mu.length 0/\o.tm 17 = .ptr (U.mu.length+1) 0/\U.mu.length+1<o.mu.length /\
    o.mu[mu.length]?=some (.it (eT a.ts) (seen++[i]))/\o.mu[U.mu.length]?=some (.arr (i8s [x0,x1,x2]))/\o.mu[U.mu.length+1]?=some (.it (eT b.ts) sb) /\
    I (fun u v=>((∃ i,i∈seen/\a.ts[i]?=some u)/\v∈b.ts)\/(u=[x0,x1,x2]/\∃ j,j∈sb/\b.ts[j]?=some v)) o.mu) ?_ ?_
   .simp [go_sem,e2,e4,a0]
    refine⟨by rw[qo (zUs hl)];exact ae,hS _ U.mu _ (fun k C=>?_) hI⟩;rw[qo zSo,ad k _ C]
   .rintro sb o al an ⟨f2,f4,f10,f6,f17,a1,g1,g2,g3,a6⟩
    simp[go_sem,f17];refine⟨U.mu.length+1,eT b.ts,sb,rfl,g3,fun j e hj af=>?_,fun a2=>?_⟩
    .obtain ⟨y,hy,rfl⟩:=Zw hj
     have a7:y∈b.ts:=qV hy;have ag:y.length=3:=hb y a7;have ah:j<b.ts.length:=(qk.1 hy).1;obtain⟨y0,y1,y2,rfl⟩:∃ y0 y1 y2,y=[y0,y1,y2]:=by
      match y,ag with
      | [y0,y1,y2],_=>exact⟨_,_,_,rfl⟩
     have J:∀(c:Cell) (l:List Cell) (k:Nat),k<o.mu.length->k≠U.mu.length+1->((o.mu.set (U.mu.length+1) c)++l)[k]?=o.mu[k]?:=fun c l k h1 h2=>by
      rw[qo (zUs h1),qv zOm]
     have ai:=fun c l=>(J c l U.mu.length zOm zOm).trans g2
     simp[go_sem,f2,f6,f17,hj,a1,ai];refine qc.eff (hf _ [x0,x1,x2] [y0,y1,y2] _ a5 a7 ?_ (hS _ o.mu _ (fun k C=>J _ _ k zOm zOm) a6)) ?_ ?_
     .simp;omega
     .rintro r m ⟨e,aj,ak,R⟩
      cases e;simp only[List.length_append,List.length_set,zG,List.length_nil]at ak R;simp[go_sem];refine⟨j,ah,af,?_⟩;simp[Keep,go_sem,f2,f4,f10,f6,f17];refine⟨zOm,?_,?_,?_,?_⟩
      .rw [R _ zOm zOm,J _ _ _ zOm zOm,g1]
      .rw [R _ zOm zOm,J _ _ _ zOm zOm];exact g2
      .rw [R _ zOm zOm,qo (zUs a1),qJ a1]
      .refine cast (congrArg (fun S=>I S m) ?_) aj
       funext u v;refine propext ⟨?_,?_⟩
       .rintro ((h|⟨rfl,k,C,t⟩)|⟨rfl,rfl⟩)
        .exact .inl h
        .exact .inr ⟨rfl,.inl ⟨k,C,t⟩⟩
        .exact .inr ⟨rfl,.inr hy⟩
       .rintro (h|⟨rfl,⟨k,C,t⟩|t⟩)
        .exact .inl (.inl h)
        .exact .inl (.inr ⟨rfl,k,C,t⟩)
        .rw [hy]at t;cases t
         exact .inr ⟨rfl,rfl⟩
     .rintro r m ⟨e,_⟩;cases e
    .simp [go_sem]
     refine⟨i,ab,a9,?_⟩;simp[Keep,go_sem,f2,f4,f10];refine⟨zOm,g1,cast (congrArg (fun S=>I S o.mu) ?_) a6⟩;funext u v;refine propext ⟨?_,?_⟩
     .rintro (⟨⟨k,C,P⟩,t⟩|⟨rfl,k,C,t⟩)
      .exact ⟨.inl ⟨k,C,P⟩,t⟩
      .exact ⟨.inr hx,qV t⟩
     .rintro ⟨⟨k,C,P⟩|P,t⟩
      .exact .inl ⟨⟨k,C,P⟩,t⟩
      .rw [hx]at P;cases P
       obtain⟨j,hj⟩:=List.mem_iff_getElem?.1 t;exact .inr ⟨rfl,j,a2 j (by simpa using (qk.1 hj).1),hj⟩
  .simp [go_sem]
   refine⟨cast (congrArg (fun S=>I S U.mu) ?_) hI,zOm⟩;funext u v;refine propext ⟨?_,?_⟩
   .rintro ⟨⟨k,C,P⟩,t⟩
    exact⟨qV P,t⟩
   .rintro ⟨P,t⟩
    obtain⟨k,C⟩:=List.mem_iff_getElem?.1 P;exact⟨⟨k,a4 k (by simpa using (qk.1 C).1),C⟩,t⟩
end Y5
namespace Y6
open Y2 Y3 P1 YM Y5
section
variable {c z:Cell}{a b l:List Tp}{m:Nat}{f:Tp->Tp->Option Tp}{S:Tp->Tp->Prop}
abbrev r8(x:Int):List AV:=[.sc (.int .i8 x)]
theorem Qm(xs:List Int):zy 1 (xs.map r8):=fun r g=>by
 obtain⟨n,_,rfl⟩:=qr.1 g;exact⟨rfl,rfl⟩
theorem qf0(full:Bool)(xs:List Int)(hx:xs.length<=1000)(mu:Mu):qe qb 343 [.lst full (xs.map r8)] mu fun e m=>∃ av,e = .ret av/\OwnF mu.length m 1 av (xs.map r8)/\∀ i,i<mu.length->m[i]?=mu[i]?:=by
 refine qe.of_awp call343 func343 rfl (qh zKr) zKr (pl:={}) ?_;cases xs with
 |nil =>
  simp[go_sem];refine⟨OwnF.nil (qm _),?_⟩;refine qF.ownF (lo:=mu.length) (e:=383) (sz:=1) (bt:=1) (zv := .sc (.int .i8 0)) (xs:=[]) (ys:=[]) zSi zSi zSi rfl rfl zOm zOm (OwnF.nil (qm _)) (by simp[qO]) (Qm []) (Qm []) zSp ?_;intro av r g o;simp[go_sem];exact⟨g,o⟩
 |cons x xs =>
  simp[go_sem];refine qF.ownF (lo:=mu.length) (e:=383) (sz:=1) (bt:=1) (zv := .sc (.int .i8 0)) (xs:=[]) (ys:=(x :: xs).map r8) zSi zSi zSi rfl rfl zOm zOm (OwnF.nil (qm _)) (by simp[qO]) (Qm []) (Qm _) (by simpa using (by simp at hx;omega)) ?_;intro av r g o;simp[go_sem];exact⟨g,o⟩
theorem put3(zs:List Int):putCells [.sc (.int .i8 0),.sc (.int .i8 0),.sc (.int .i8 0)] 0 ((zs.map r8).take 3).flatten=i8s (pad zs):=by
 match zs with
 | []=>rfl
 | [a]=>rfl
 | [a,b]=>rfl
 |a :: b :: c :: l=>simp[putCells,pad]
theorem pW(x y:Tp)(n m s:Nat)(hx:okT x)(hy:okT y)(hn:s<=n)(a2:n-s<=3)(hm:s<=m)(a5:m<=3)(hs:s<=1):qd qb 338 [aT x,aI n,aT y,aI m,aI s] (aT (conc x n y m s)):=by
 unfold okT at hx hy;refine qd.of_sound (qe.of_awp call338 func338 rfl (qh zKr) zKr (pl:={}) ?_);obtain⟨i,o,C,rfl⟩:∃ i o C,x=[i,o,C]:=by
  match x,hx with
  | [i,o,C],_=>exact⟨_,_,_,rfl⟩
 obtain⟨I,J,R,rfl⟩:∃ I J R,y=[I,J,R]:=by
  match y,hy with
  | [I,J,R],_=>exact⟨_,_,_,rfl⟩
 obtain⟨d,rfl⟩:∃ d,n=d+s:=⟨n-s,zOm⟩;have hd:d+s-s=d:=zOm;rw[hd]at a2;simp[go_sem];refine qg.seg [0,1,2,3,4,6,7,8,5,9,10] [(0,0,[]),(1,0,[]),(2,0,[]),(3,0,[]),(4,0,[]),(6,0,[]),(7,0,[]),(8,0,[]),(5,1,[]),(9,1,[]),(10,1,[])] zKr zKr zSi ?_;have w1:qj.wrap (d:Int)=(d:Int):=qi zOm zOm;have a3:(List.take d [[AV.sc (.int .i8 i)],[.sc (.int .i8 o)],[.sc (.int .i8 C)]])=([i,o,C].take d).map r8:=by rw[List.map_take];rfl
 have a4:(List.drop s (List.take m [[AV.sc (.int .i8 I)],[.sc (.int .i8 J)],[.sc (.int .i8 R)]]))=(([I,J,R].take m).drop s).map r8:=by rw[List.map_drop,List.map_take];rfl
 have h3:((d:Int)<=3):=zOm;have h4:((m:Int)<=3):=zOm;have h5:((s:Int)<=m):=zOm;have h6:((s:Int)<3):=zOm;simp[go_sem,w1,h3,h4,h5,h6];rw[a3];refine qc.eff0 (qf0 _ ([i,o,C].take d) zSo _) ?_ ?_
 .rintro r mm ⟨t,e,ho,hk⟩
  cases e;simp[go_sem];rw[a4];refine qF.ownF (lo:=2) (e:=383) (sz:=1) (bt:=1) (zv := .sc (.int .i8 0)) (xs:=([i,o,C].take d).map r8) (ys:=(([I,J,R].take m).drop s).map r8) zSi zSi zSi rfl rfl zOm zOm ho (by simp[qO]) (Qm _) (Qm _) zSo ?_;intro t m2 U a0;simp[go_sem];have g0:m2[0]?=some (.arr [.sc (.int .i8 0),.sc (.int .i8 0),.sc (.int .i8 0)]):=by rw[a0 0 zOm,hk 0 zSp];rfl
  have g1:m2[1]?=some (.arr [.sc (.int .i8 0),.sc (.int .i8 0),.sc (.int .i8 0)]):=by rw[a0 1 zOm,hk 1 zSp];rfl
  rw[<-zx]at U;have a1:=U.1.rows (Qm _).ok;refine WJ (sz:=1) zSi g1 zSp a1 (Qm _) ?_;obtain⟨g,rfl⟩:∃ g,m2 = .arr [.sc (.int .i8 0),.sc (.int .i8 0),.sc (.int .i8 0)] :: .arr [.sc (.int .i8 0),.sc (.int .i8 0),.sc (.int .i8 0)] :: g:=by
   match m2,g0,g1 with
   |a :: b :: g,g0,g1=>simp at g0 g1;exact⟨g,by rw[g0,g1]⟩
  rw[put3];simp[go_sem,pad,conc,hd];exact .hf _ (HF.agg fun c hc=>by simp at hc;rcases hc with rfl|rfl|rfl<;>exact HF.sc _)
 .rintro r mm ⟨t,e,_⟩;cases e
theorem Jg(n:Int)(mu:Mu):qe qb 324 [aI n] mu fun e m=>e = .ret (.agg [aI n,.mp (mu.length+1)])/\∃ c,m=mu++[c,.mp []]:=by
 refine qe.of_awp call324 func324 rfl (qh zKr) zKr (pl:={}) ?_;simp[go_sem]
theorem hfA3(a b c:uk):HF (.agg [.sc a,.sc b,.sc c]):=HF.agg fun x hx=>by simp at hx;rcases hx with rfl|rfl|rfl<;>exact HF.sc _
theorem wr0:qj.wrap 0=0:=rfl
theorem wr1:qj.wrap 1=1:=rfl
theorem wr2:qj.wrap 2=2:=rfl
structure okK (k:Kd):Prop where
 ar:1<=k.ar/\k.ar<=3
 len:∀ t,t∈k.ts->okT t
 nd:k.ts.Nodup
theorem VM(x:Tp)(n:Nat)(y:Tp)(m s:Nat):okT (conc x n y m s):=rfl
theorem qf1(a b:Kd)(ha:okK a)(hb:okK b)(x y:Tp)(hx:okT x)(P:okT y)(mu:Mu)(o m:Nat)(ar:Int)(l:List Tp)(ho:mu[o]?=some (.arr [aI ar,.mp m]))(hm:mu[m]?=some (.mp (eT l)))(hl:∀ t,t∈l->okT t) :
  qe qb 337 [aT x,aT y,.ip (cKd a),.ptr o 0,.ip (cKd b)] mu fun e m'=>e = .ret (.tup [])/\m'=if x.getD (a.ar.toNat-1) 0=y.getD 0 0 then mu.set m (.mp (eT (ins l (conc x a.ar.toNat y b.ar.toNat 1)))) else mu:=by
 refine qe.of_awp call337 func337 rfl (qh zKr) zKr (pl:={}) ?_;obtain⟨a0,a1⟩:=ha.ar;obtain⟨a2,a3⟩:=hb.ar;obtain⟨n,hn⟩:∃ n:Nat,a.ar=n+1:=⟨(a.ar-1).toNat,zOm⟩;obtain⟨k,hk⟩:∃ k:Nat,b.ar=k:=⟨b.ar.toNat,zOm⟩;have a4:n<3:=zOm;have R:=pW x y (n+1) k 1 hx P zOm zOm zOm zOm zOm;unfold okT at hx P;obtain⟨j,p,r,rfl⟩:∃ j p r,x=[j,p,r]:=by
  match x,hx with
  | [j,p,r],_=>exact⟨_,_,_,rfl⟩
 obtain⟨C,I,J,rfl⟩:∃ C I J,y=[C,I,J]:=by
  match y,P with
  | [C,I,J],_=>exact⟨_,_,_,rfl⟩
 have U:=updT hm (VM [j,p,r] (n+1) [C,I,J] k 1) hl;have g:n=0\/n=1\/n=2:=zOm;rcases g with rfl|rfl|rfl
 all_goals
  simp[go_sem];refine qg.intro zKr ?_;simp[go_sem,hn,hk,wr0,wr1,wr2];refine BrS.intro (fun i=>?_) (fun i=>?_)
  .simp at i
   subst i;simp[go_sem];refine qg.intro zKr ?_;simp[go_sem,ho,hk,hn];refine qc.pure R (.zk (hfA3 _ _ _) (.zs (.zk (hfA3 _ _ _) (.zs (.zs .nil))))) ?_;simp[go_sem];refine OptK.intro _ U ?_;simp[go_sem]
  .simp at i
   simp[go_sem,i]
theorem qf2(a b:Kd)(R:okK a)(U:okK b)(a0:a.ar+b.ar<=3)(x y:Tp)(hx:okT x)(I:okT y)(mu:Mu)(o m:Nat)(ar:Int)(l:List Tp)(ho:mu[o]?=some (.arr [aI ar,.mp m]))(hm:mu[m]?=some (.mp (eT l)))(hl:∀ t,t∈l->okT t) :
  qe qb 339 [aT x,aT y,.ptr o 0,.ip (cKd a),.ip (cKd b)] mu fun e m'=>e = .ret (.tup [])/\m'=mu.set m (.mp (eT (ins l (conc x a.ar.toNat y b.ar.toNat 0)))):=by
 refine qe.of_awp call339 func339 rfl (qh zKr) zKr (pl:={}) ?_;obtain⟨a1,a2⟩:=R.ar;obtain⟨a3,a4⟩:=U.ar;obtain⟨n,hn⟩:∃ n:Nat,a.ar=n:=⟨a.ar.toNat,zOm⟩;obtain⟨k,hk⟩:∃ k:Nat,b.ar=k:=⟨b.ar.toNat,zOm⟩;have J:=pW x y n k 0 hx I zOm zOm zOm zOm zOm;unfold okT at hx I;obtain⟨g,i,j,rfl⟩:∃ g i j,x=[g,i,j]:=by
  match x,hx with
  | [g,i,j],_=>exact⟨_,_,_,rfl⟩
 obtain⟨p,r,C,rfl⟩:∃ p r C,y=[p,r,C]:=by
  match y,I with
  | [p,r,C],_=>exact⟨_,_,_,rfl⟩
 have P:=updT hm (VM [g,i,j] n [p,r,C] k 0) hl;simp[go_sem];refine qg.intro zKr ?_;simp[go_sem,ho,hk,hn];refine qc.pure J (.zk (hfA3 _ _ _) (.zs (.zk (hfA3 _ _ _) (.zs (.zs .nil))))) ?_;simp[go_sem];refine OptK.intro _ P ?_;simp[go_sem]
theorem pX(h:l.Nodup):((eT l).map Prod.fst).Nodup:=by
 have e:(eT l).map Prod.fst=l.map aT:=by simp[eT]
 rw[e];refine(List.pairwise_map (f:=aT)).2 (h.imp fun g e=>g ?_);have inj:∀(a b:List Int),i8s a=i8s b->a=b:=by
  intro a;induction a with
  |nil=>intro b h;cases b with
   |nil=>rfl
   |cons=>simp at h
  |cons x a i=>intro b h;cases b with
   |nil=>simp at h
   |cons y b =>
    simp only[i8s,yc,List.cons.injEq,AV.sc.injEq,Value.int.injEq,true_and]at h;rw[h.1,i b h.2]
 exact inj _ _ (AV.agg.inj e)
theorem Rd.setT{mu:Mu}{k:List Tp}(i:mu[m]?=some (.mp (eT l)))(j:l.Nodup)(o:k.Nodup)(h:∀ t,t∈l↔t∈k):Rd mu (.mp m) (mKd k):=
 Rd.mps i (pX j) (pX o) (fun x=>by
  simp only[eT,qr];constructor
  .rintro ⟨t,g,rfl⟩;exact⟨t,(h t).1 g,rfl⟩
  .rintro ⟨t,g,rfl⟩;exact⟨t,(h t).2 g,rfl⟩) (fun x hx=>by
  obtain⟨t,_,rfl⟩:=qr.1 hx;exact⟨WO t,HF.sc _⟩)
def ColM(g:Int)(z c:Cell)(f:Tp->Tp->Option Tp)(S:Tp->Tp->Prop)(m:Mu):Prop:=
 ∃ l,m[0]?=some z/\m[1]?=some c/\m[2]?=some (.mp (eT l))/\m[3]?=some (.arr [aI g,.mp 2])/\l.Nodup/\(∀ t,t∈l->okT t)/\∀ t,t∈l↔∃ x y,S x y/\f x y=some t
theorem ColM.zero(g:Int)(z c:Cell)(f:Tp->Tp->Option Tp):ColM g z c f (fun _ _=>False) [z,c,.mp [],.arr [aI g,.mp 2]]:=
 ⟨[],rfl,rfl,rfl,rfl,zSp,zSp,zSp⟩
theorem ColM.same{g:Int}{j o:Mu}(h:∀ i,i<4->o[i]?=j[i]?)(k:ColM g z c f S j):ColM g z c f S o:=by
 obtain⟨l,p,g1,r,t,C,I,J⟩:=k;exact⟨l,by rw[h 0 zOm];exact p,by rw[h 1 zOm];exact g1,by rw[h 2 zOm];exact r,by rw[h 3 zOm];exact t,C,I,J⟩
theorem ColM.step{i:Int}{m:Mu}{x y t:Tp}(j:m[0]?=some z)(g1:m[1]?=some c)(o:m[2]?=some (.mp (eT l)))(r:m[3]?=some (.arr [aI i,.mp 2]))(C:l.Nodup)(I:∀ t,t∈l->okT t)(J:∀ t,t∈l↔∃ x y,S x y/\f x y=some t)
  (hf:f x y=some t) (P:okT t):ColM i z c f (fun u v=>S u v\/(u=x/\v=y)) (m.set 2 (.mp (eT (ins l t)))):=by
 have R:2<m.length:=(qk.1 o).1;refine⟨ins l t,?_,?_,qJ R,?_,Z4 C,fun u T=>?_,fun u=>?_⟩
 .rw [qv zOm];exact j
 .rw [qv zOm];exact g1
 .rw [qv zOm];exact r
 .rcases uw.1 T with h|rfl
  .exact I u h
  .exact P
 .rw [uw,J]
  constructor
  .rintro (⟨p,q,g,e⟩|rfl)
   .exact ⟨p,q,.inl g,e⟩
   .exact ⟨x,y,.inr ⟨rfl,rfl⟩,hf⟩
  .rintro ⟨p,q,g|⟨rfl,rfl⟩,e⟩
   .exact .inl ⟨p,q,g,e⟩
   .rw [hf]at e;exact .inr (Option.some.inj e).symm
theorem ColM.skip{i:Int}{m:Mu}{x y:Tp}(k:ColM i z c f S m)(hf:f x y=none):ColM i z c f (fun u v=>S u v\/(u=x/\v=y)) m:=by
 obtain⟨l,j,g1,o,r,t,C,I⟩:=k;refine⟨l,j,g1,o,r,t,C,fun u=>?_⟩;rw[I];constructor
 .rintro ⟨p,q,g,e⟩;exact⟨p,q,.inl g,e⟩
 .rintro ⟨p,q,g|⟨rfl,rfl⟩,e⟩
  .exact ⟨p,q,g,e⟩
  .rw [hf]at e;exact absurd e zSp
theorem four{m:Mu}{a b d:Cell}(i:m[0]?=some a)(g1:m[1]?=some b)(j:m[2]?=some c)(l:m[3]?=some d):∃ g,m=a :: b :: c :: d :: g:=by
 match m,i,g1,j,l with
 |a :: b :: c :: d :: g,i,g1,j,l =>
  simp at i g1 j l;subst i;subst g1;subst j;subst l;exact⟨g,rfl⟩
def Zx(n m:Nat)(x y:Tp):Option Tp:=if x.getD (n-1) 0=y.getD 0 0 then some (conc x n y m 1) else none
theorem wP{n:Nat}{t:Tp}:t∈ux n m a b↔∃ x y,(x∈a/\y∈b)/\Zx n m x y=some t:=by
 unfold ux Zx;rw[vE];simp only[qE,false_or,List.mem_filterMap];constructor
 .rintro ⟨⟨x,y⟩,g,i⟩;exact⟨x,y,Z5.1 g,i⟩
 .rintro ⟨x,y,g,i⟩;exact⟨(x,y),Z5.2 g,i⟩
theorem WT{n:Nat}:(ux n m a b).Nodup:=uU zSp
theorem uX(a b:Kd)(g:okK a)(j:okK b):qd qb 327 [eKd a,eKd b] (eKd (zI a b)):=by
 refine qd.of_sound (qe.of_awp call327 func327 rfl (qh zKr) zKr (pl:={}) ?_);have w1:qj.wrap (a.ar+b.ar)=a.ar+b.ar:=qi (zW2 g.ar j.ar) (zW2 g.ar j.ar);have w2:qj.wrap (a.ar+b.ar-2)=a.ar+b.ar-2:=qi (zW2 g.ar j.ar) (zW2 g.ar j.ar);simp[go_sem,w1,w2];refine qc.eff0 (Jg _ _) ?_ (by rintro r m ⟨e,_⟩;cases e);rintro r m ⟨e,c,rfl⟩;cases e;simp[go_sem];refine qc.eff0 (pV a b 337 [.ip (cKd a),.ptr 3 0,.ip (cKd b)] _ (ColM (a.ar+b.ar-2) (.arr [aI 0,.sc (.map none)]) c (Zx a.ar.toNat b.ar.toNat)) (ColM.zero _ _ _ _) (fun S m1 m2 h k=>k.same h) g.len j.len ?_) ?_ (by rintro r m ⟨e,_⟩;cases e)
 .rintro S x y m1 hx hy U ⟨l,C,g1,o,p,I,J,P⟩
  refine qe.monoR (qf1 a b g j x y (g.len x hx) (j.len y hy) m1 3 2 _ l p o J) ?_;rintro e m' ⟨rfl,rfl⟩;by_cases R:x.getD (a.ar.toNat-1) 0=y.getD 0 0
  .rw [if_pos R]
   refine⟨rfl,ColM.step C g1 o p I J P (by unfold Zx;rw[if_pos R]) (VM _ _ _ _ _),zSp,fun i a0 a2=>?_⟩;simp at a0;rw[qv zOm]
  .rw [if_neg R]
   exact⟨rfl,ColM.skip ⟨l,C,g1,o,p,I,J,P⟩ (by unfold Zx;rw[if_neg R]),qm _,fun _ _ _=>rfl⟩
 .rintro r m ⟨e,⟨l,C,g1,o,p,I,J,P⟩,U⟩
  cases e;obtain⟨a1,rfl⟩:=four C g1 o p;simp[go_sem];exact Rd.aggs ⟨.hf _ (HF.sc _),Rd.setT rfl I WT (fun t=>(P t).trans wP.symm),trivial⟩
def wQ(n m:Nat)(x y:Tp):Option Tp:=some (conc x n y m 0)
theorem Z7{n:Nat}{t:Tp}:t∈wO n m a b↔∃ x y,(x∈a/\y∈b)/\wQ n m x y=some t:=by
 unfold wO wQ;rw[vE];simp only[qE,false_or,qr];constructor
 .rintro ⟨⟨x,y⟩,g,i⟩;exact⟨x,y,Z5.1 g,by rw[<-i]⟩
 .rintro ⟨x,y,g,i⟩;exact⟨(x,y),Z5.2 g,Option.some.inj i⟩
theorem pY{n:Nat}:(wO n m a b).Nodup:=uU zSp
theorem WU(a b:Kd)(g:okK a)(j:okK b)(C:a.ar+b.ar<=3):qd qb 328 [eKd a,eKd b] (eKd (uy a b)):=by
 refine qd.of_sound (qe.of_awp call328 func328 rfl (qh zKr) zKr (pl:={}) ?_);have w1:qj.wrap (a.ar+b.ar)=a.ar+b.ar:=qi (zW2 g.ar j.ar) (zW2 g.ar j.ar);simp[go_sem,w1];refine qc.eff0 (Jg _ _) ?_ (by rintro r m ⟨e,_⟩;cases e);rintro r m ⟨e,c,rfl⟩;cases e;simp[go_sem];refine qc.eff0 (pV a b 339 [.ptr 3 0,.ip (cKd a),.ip (cKd b)] _ (ColM (a.ar+b.ar) (.arr [aI 0,.sc (.map none)]) c (wQ a.ar.toNat b.ar.toNat)) (ColM.zero _ _ _ _) (fun S m1 m2 h k=>k.same h) g.len j.len ?_) ?_ (by rintro r m ⟨e,_⟩;cases e)
 .rintro S x y m1 hx hy I ⟨l,J,g1,o,p,P,R,U⟩
  refine qe.monoR (qf2 a b g j C x y (g.len x hx) (j.len y hy) m1 3 2 _ l p o R) ?_;rintro e m' ⟨rfl,rfl⟩;refine⟨rfl,ColM.step J g1 o p P R U rfl (VM _ _ _ _ _),zSp,fun i a0 a2=>?_⟩;simp at a0;rw[qv zOm]
 .rintro r m ⟨e,⟨l,J,g1,o,p,P,R,U⟩,I⟩
  cases e;obtain⟨a1,rfl⟩:=four J g1 o p;simp[go_sem];exact Rd.aggs ⟨.hf _ (HF.sc _),Rd.setT rfl P pY (fun t=>(U t).trans Z7.symm),trivial⟩
end
end Y6
namespace Y7
open Y2 P1 YM Y5 Y6
theorem qF.lit{P:j1}{mu:Mu}{t g e sz bt:Nat}{x:AV}{xs ys:List (List AV)}{zv:AV}{K:AV->Mu->Prop}(r:qN P t=some (e,sz,bt))(i:(qN P g).isSome=true)(C:qC P e=some zv)
  (j:zv.cells.length=sz) (l:zv.cells.all AV.one=true) (o:sz≠0) (I:bt<=16384) (hx:qO mu x=some ys) (J:zy sz xs) (R:zy sz ys) (T:xs.length+ys.length<=4294967296) (p:ys≠[])
  (k:K (.sl mu.length sz 0 (xs.length+ys.length)) (mu++[.arr (xs++ys).flatten])):qF P mu #[t,g] (.lst true xs) x K:=
 .inl ⟨t,g,e,sz,bt,ys,rfl,r,i,⟨zv,C,j,l⟩,o,I,hx,R,.inl ⟨xs,rfl,J,T,fun h=>absurd h p,fun _=>k⟩⟩
theorem Qn(l:List Kd):zy 2 (l.map cKd):=fun r g=>by
 obtain⟨n,_,rfl⟩:=qr.1 g;exact⟨rfl,rfl⟩
theorem Jh(full:Bool)(l:List Kd):HF (.lst full (l.map cKd)):=HF.lst fun r i c g=>by
 obtain⟨k,_,rfl⟩:=qr.1 i;simp at g;rcases g with rfl|rfl
 .exact HF.sc _
 .exact Jf _
def ColS(g:Int)(z c:Cell)(sl:Cell)(S:Tp->Prop)(m:Mu):Prop:=
 ∃ l,m[0]?=some z/\m[1]?=some c/\m[2]?=some (.mp (eT l))/\m[3]?=some (.arr [aI g,.mp 2])/\m[4]?=some sl/\l.Nodup/\(∀ t,t∈l->okT t)/\∀ t,t∈l↔S t
theorem sumU(full:Bool)(a b:Kd)(ha:∀ t,t∈a.ts->okT t)(hb:∀ t,t∈b.ts->okT t):qd qb 334 [eKd a,.lst full [cKd b]] (eKd (kSum a b)):=by
 refine qd.of_sound (qe.of_awp call334 func334 rfl (qh zKr) zKr (pl:={}) ?_);simp[go_sem];refine qc.eff0 (Jg _ _) ?_ (by rintro r m ⟨e,_⟩;cases e);rintro r m ⟨e,c,rfl⟩;cases e;simp[go_sem];refine qF.lit (e:=332) (sz:=2) (bt:=16) (zv := .agg [aI 0,.sc (.map none)]) (xs:=[cKd a]) (ys:=[cKd b]) zSi zSi zSi rfl rfl zOm zOm (by simp[qO]) (Qn [a]) (Qn [b]) zSp zSp ?_;simp[go_sem];refine qn.up 2 (fun k U=>U.tm 4 = .ptr 0 0/\U.tm 5 = .ptr 3 0/\U.tm 15 = .sl 4 2 0 2/\U.tm 16=aI 2/\U.tm 17=aI k/\ColS a.ar (.arr [aI 0,.sc (.map none)]) c (.arr [aI a.ar,mKd a.ts,aI b.ar,mKd b.ts]) (fun t=>(0<k/\t∈a.ts)\/(1<k/\t∈b.ts)) U.mu) ?_ ?_
 .simp [go_sem]
  exact⟨[],rfl,rfl,rfl,rfl,rfl,zSp,zSp,zSp⟩
 .rintro k U hk ⟨e4,e5,a9,R,a5,l,g0,g1,g2,g3,g4,h1,h2,h3⟩
  have ae:k=2\/k=0\/k=1:=zOm;obtain⟨o,hm⟩:∃ o,U.mu=[.arr [aI 0,.sc (.map none)],c,.mp (eT l),.arr [aI a.ar,.mp 2],.arr [aI a.ar,mKd a.ts,aI b.ar,mKd b.ts]]++o:=by
   generalize U.mu=m at *
   match m,g0,g1,g2,g3,g4 with
   |a0 :: a1 :: a2 :: a3 :: a4 :: o,g0,g1,g2,g3,g4 =>
    simp at g0 g1 g2 g3 g4;subst g0;subst g1;subst g2;subst g3;subst g4;exact⟨o,rfl⟩
  rcases ae with rfl|rfl|rfl
  .simp [go_sem,e4,e5,R,a5,hm]
   refine Rd.aggs ⟨.hf _ (HF.sc _),Rd.setT rfl h1 (uU (uU zSp)) (fun t=>?_),trivial⟩;rw[h3];show _↔t∈uni (uni [] a.ts) b.ts;simp[vE]
  .simp [go_sem,a9,R,a5,hm]
   refine qn.seen a.ts.length (fun seen g=>g.tm 4 = .ptr 0 0/\g.tm 5 = .ptr 3 0/\g.tm 15 = .sl 4 2 0 2/\g.tm 16=aI 2/\g.tm 17=aI 0/\g.tm 23 = .ptr (o.length+6) 0/\g.mu[o.length+6]?=some (.it (eT a.ts) seen) /\
    ColS a.ar (.arr [aI 0,.sc (.map none)]) c (.arr [aI a.ar,mKd a.ts,aI b.ar,mKd b.ts]) (fun t=>t∈l\/∃ i,i∈seen/\a.ts[i]?=some t) g.mu) ?_ ?_
   .simp [go_sem,e4,e5,a9,R,a5]
    exact⟨l,rfl,rfl,rfl,rfl,rfl,h1,h2,zSp⟩
   .rintro seen g af ag ⟨f4,f5,f15,f16,f17,f23,a6,l',k0,k1,k2,k3,k4,p1,p2,p3⟩
    simp[go_sem,f23];refine⟨o.length+6,eT a.ts,seen,rfl,a6,fun i e hi aa=>?_,fun a7=>?_⟩
    .obtain ⟨x,hx,rfl⟩:=Zw hi
     have P:okT x:=ha x (qV hx);have ab:i<a.ts.length:=(qk.1 hx).1;have J:o.length+6<g.mu.length:=(qk.1 a6).1;have ad:x.length=3:=P;have C:∀(c:Cell) (l:List Cell) (j:Nat),j<5->((g.mu.set (o.length+6) c)++l)[j]?=g.mu[j]?:=fun c l j I=>by
      rw[qo zSo,qv zOm]
     have q2:=fun c l=>(C c l 2 zOm).trans k2
     have q3:=fun c l=>(C c l 3 zOm).trans k3
     obtain⟨x0,x1,x2,rfl⟩:∃ x0 x1 x2,x=[x0,x1,x2]:=by
      match x,ad with
      | [x0,x1,x2],_=>exact⟨_,_,_,rfl⟩
     simp[go_sem,f5,f23,hi,J,q3];refine OptK.intro _ (updT (q2 _ _) P p2) ?_;simp[go_sem];refine⟨i,ab,aa,?_⟩;show _/\_;refine⟨zS1 f4,zS1 f5,zS1 f15,zS1 f16,zS1 f17,zS1 f23,?_,ins l' [x0,x1,x2],?_,?_,?_,?_,?_,Z4 p1,fun t ht=>?_,fun t=>?_⟩
     .simp only[qP]
      rw[qv zOm,qo (zUs J),qJ J]
     .simp only[qP]
      rw[qv zOm,C _ _ 0 zOm,k0]
     .simp only[qP]
      rw[qv zOm,C _ _ 1 zOm,k1]
     .simp only[qP]
      rw[qJ zSo]
     .simp only[qP]
      rw[qv zOm,C _ _ 3 zOm,k3]
     .simp only[qP]
      rw[qv zOm,C _ _ 4 zOm,k4]
     .rcases uw.1 ht with h|rfl
      .exact p2 t h
      .exact P
     .rw [uw,p3]
      constructor
      .rintro ((h|⟨j,I,e⟩)|rfl)
       .exact .inl h
       .exact .inr ⟨j,zP1 I,e⟩
       .exact .inr ⟨i,zSp,hx⟩
      .rintro (h|⟨j,I,e⟩)
       .exact .inl (.inl h)
       .rcases qM.1 I with I|I
        .exact .inl (.inr ⟨j,I,e⟩)
        .rw [qL]at I;subst I
         rw[hx]at e;cases e;exact .inr rfl
    .have a8:∀ t,t∈l'↔(t∈l\/t∈a.ts):=fun t=>by
      rw[p3];constructor
      .rintro (h|⟨j,I,e⟩)
       .exact .inl h
       .exact .inr (qV e)
      .rintro (h|h)
       .exact .inl h
       .obtain ⟨j,I⟩:=List.mem_iff_getElem?.1 h
        exact .inr ⟨j,a7 j (by simpa using (qk.1 I).1),I⟩
     simp[go_sem,f4,f5,f15,f16,f17,wr1];refine⟨l',k0,k1,k2,k3,k4,p1,p2,fun t=>?_⟩;rw[a8 t,h3];simp
  .simp [go_sem,a9,R,a5,hm]
   refine qn.seen b.ts.length (fun seen g=>g.tm 4 = .ptr 0 0/\g.tm 5 = .ptr 3 0/\g.tm 15 = .sl 4 2 0 2/\g.tm 16=aI 2/\g.tm 17=aI 1/\g.tm 23 = .ptr (o.length+6) 0/\g.mu[o.length+6]?=some (.it (eT b.ts) seen) /\
    ColS a.ar (.arr [aI 0,.sc (.map none)]) c (.arr [aI a.ar,mKd a.ts,aI b.ar,mKd b.ts]) (fun t=>t∈l\/∃ i,i∈seen/\b.ts[i]?=some t) g.mu) ?_ ?_
   .simp [go_sem,e4,e5,a9,R,a5]
    exact⟨l,rfl,rfl,rfl,rfl,rfl,h1,h2,zSp⟩
   .rintro seen g af ag ⟨f4,f5,f15,f16,f17,f23,a6,l',k0,k1,k2,k3,k4,p1,p2,p3⟩
    simp[go_sem,f23];refine⟨o.length+6,eT b.ts,seen,rfl,a6,fun i e hi aa=>?_,fun a7=>?_⟩
    .obtain ⟨x,hx,rfl⟩:=Zw hi
     have P:okT x:=hb x (qV hx);have ab:i<b.ts.length:=(qk.1 hx).1;have J:o.length+6<g.mu.length:=(qk.1 a6).1;have ad:x.length=3:=P;have C:∀(c:Cell) (l:List Cell) (j:Nat),j<5->((g.mu.set (o.length+6) c)++l)[j]?=g.mu[j]?:=fun c l j I=>by
      rw[qo zSo,qv zOm]
     have q2:=fun c l=>(C c l 2 zOm).trans k2
     have q3:=fun c l=>(C c l 3 zOm).trans k3
     obtain⟨x0,x1,x2,rfl⟩:∃ x0 x1 x2,x=[x0,x1,x2]:=by
      match x,ad with
      | [x0,x1,x2],_=>exact⟨_,_,_,rfl⟩
     simp[go_sem,f5,f23,hi,J,q3];refine OptK.intro _ (updT (q2 _ _) P p2) ?_;simp[go_sem];refine⟨i,ab,aa,?_⟩;show _/\_;refine⟨zS1 f4,zS1 f5,zS1 f15,zS1 f16,zS1 f17,zS1 f23,?_,ins l' [x0,x1,x2],?_,?_,?_,?_,?_,Z4 p1,fun t ht=>?_,fun t=>?_⟩
     .simp only[qP]
      rw[qv zOm,qo (zUs J),qJ J]
     .simp only[qP]
      rw[qv zOm,C _ _ 0 zOm,k0]
     .simp only[qP]
      rw[qv zOm,C _ _ 1 zOm,k1]
     .simp only[qP]
      rw[qJ zSo]
     .simp only[qP]
      rw[qv zOm,C _ _ 3 zOm,k3]
     .simp only[qP]
      rw[qv zOm,C _ _ 4 zOm,k4]
     .rcases uw.1 ht with h|rfl
      .exact p2 t h
      .exact P
     .rw [uw,p3]
      constructor
      .rintro ((h|⟨j,I,e⟩)|rfl)
       .exact .inl h
       .exact .inr ⟨j,zP1 I,e⟩
       .exact .inr ⟨i,zSp,hx⟩
      .rintro (h|⟨j,I,e⟩)
       .exact .inl (.inl h)
       .rcases qM.1 I with I|I
        .exact .inl (.inr ⟨j,I,e⟩)
        .rw [qL]at I;subst I
         rw[hx]at e;cases e;exact .inr rfl
    .have a8:∀ t,t∈l'↔(t∈l\/t∈b.ts):=fun t=>by
      rw[p3];constructor
      .rintro (h|⟨j,I,e⟩)
       .exact .inl h
       .exact .inr (qV e)
      .rintro (h|h)
       .exact .inl h
       .obtain ⟨j,I⟩:=List.mem_iff_getElem?.1 h
        exact .inr ⟨j,a7 j (by simpa using (qk.1 I).1),I⟩
     simp[go_sem,f4,f5,f15,f16,f17,wr2];refine⟨l',k0,k1,k2,k3,k4,p1,p2,fun t=>?_⟩;rw[a8 t,h3];simp
end Y7
namespace Y8
open Y2 Y3 P1 YM Y5 Y6 Y7
theorem WV{l:List Tp}{i:Nat}{x:Tp}(hx:l[i]?=some x){seen:List Nat}{t:Tp}:(∃ j,j∈seen++[i]/\l[j]?=some t)↔(∃ j,j∈seen/\l[j]?=some t)\/t=x:=by
 constructor
 .rintro ⟨j,g,e⟩
  rcases qM.1 g with g|g
  .exact .inl ⟨j,g,e⟩
  .rw [qL]at g;subst g
   rw[hx]at e;cases e;exact .inr rfl
 .rintro (⟨j,g,e⟩|rfl)
  .exact ⟨j,zP1 g,e⟩
  .exact ⟨i,zSp,hx⟩
theorem WW{l:List Tp}{seen:List Nat}(g:∀ i,i<l.length->i∈seen){t:Tp}:(∃ j,j∈seen/\l[j]?=some t)↔t∈l:=by
 constructor
 .rintro ⟨j,o,e⟩;exact qV e
 .intro h
  obtain⟨j,o⟩:=List.mem_iff_getElem?.1 h;exact⟨j,g j (qk.1 o).1,o⟩
structure ok2 (k:Kd):Prop where
 ar:k.ar=2
 nd:k.ts.Nodup
 ts:∀ t,t∈k.ts->∃ x y:Int,t=[x,y,0]/\0<=x/\x<4/\0<=y/\y<4
theorem ok2.okK{k:Kd}(h:ok2 k):okK k:=⟨by rw[h.ar];omega,fun t g=>by obtain⟨x,y,rfl,_⟩:=h.ts t g;rfl,h.nd⟩
theorem ok2.join{k:Kd}(h:ok2 k):ok2 (zI k k):=by
 refine⟨by simp[zI,h.ar],WT,fun t g=>?_⟩;have g:t∈ux k.ar.toNat k.ar.toNat k.ts k.ts:=g;rw[h.ar]at g;obtain⟨x,y,⟨hx,i⟩,hf⟩:=wP.1 g;obtain⟨j,I,rfl,l,o,J,P⟩:=h.ts x hx;obtain⟨R,p,rfl,T,U,r,C⟩:=h.ts y i;unfold Zx at hf;split at hf
 .simp [conc,pad]at hf
  exact⟨j,p,hf.symm,l,o,r,C⟩
 .exact absurd hf zSp
theorem ok2.sum{a b:Kd}(h:ok2 a)(k:ok2 b):ok2 (kSum a b):=by
 refine⟨h.ar,uU (uU zSp),fun t g=>?_⟩;have g:t∈uni (uni [] a.ts) b.ts:=g;simp only[vE,qE,false_or]at g;exact g.elim (h.ts t) (k.ts t)
theorem ok2.len{k:Kd}(h:ok2 k):k.ts.length<=16:=by
 have g:∀ t,t∈k.ts->t∈(qu 4).flatMap fun (x:Nat)=>(qu 4).map fun (y:Nat)=>[(x:Int),(y:Int),0]:=by
  intro t i;obtain⟨x,y,rfl,j,l,o,p⟩:=h.ts t i;rw[List.mem_flatMap];refine⟨x.toNat,yx.2 zOm,qr.2 ⟨y.toNat,yx.2 zOm,?_⟩⟩;rw[show ((x.toNat:Nat):Int)=x by omega,show ((y.toNat:Nat):Int)=y by omega]
 have:=List.Nodup.length_le_of_subset h.nd g;exact Nat.le_trans this zDe
theorem qf3{f n:Nat}{a:Kd}(h:¬n<a.ts.length):cloN f n a=a:=by
 cases f with
 |zero=>rfl
 |succ f=>simp[cloN,h]
theorem VN(a:Kd)(C:ok2 a):qd qb 340 [eKd a] (eKd (kClo a)):=by
 refine qd.of_sound (qe.of_awp call340 func340 rfl (qh zKr) zKr (pl:={ mt:=[1] }) ?_);simp[go_sem];refine qn.keep (fun m U=>∃(n f:Nat) (cur:Kd),m=17-n/\cloN f n cur=kClo a/\70<=f+n/\ok2 cur/\U.tm 3=aI n/\U.tm 1 = .ptr 0 0/\U.tm 2 = .ptr 1 0/\U.mu=[.arr (cKd cur),.arr [aI 0,.sc (.map none)]]) 17 ?_ ?_
 .exact ⟨0,70,a,rfl,rfl,zOm,C,zSi,zSi,zSi,zSi⟩
 .rintro m U ⟨n,f,cur,rfl,l,hf,g,o,i,p,r⟩
  have t:=g.len;by_cases j:n<cur.ts.length
  .simp [go_sem,i,o,r,j]
   refine qg.intro zKr ?_;simp[go_sem,i];refine qc.pure (uX cur cur g.okK g.okK) (.zk (zQ _) (.zk (zQ _) .nil)) ?_;simp[go_sem];refine qc.pure (sumU _ cur (zI cur cur) g.okK.len g.join.okK.len) (.zk (zQ _) (.zk (Jh _ [zI cur cur]) .nil)) ?_;simp[go_sem,i];obtain⟨f,rfl⟩:∃ I,f=I+1:=⟨f-1,zOm⟩;refine Keep.loop (17-cur.ts.length) zOm ⟨cur.ts.length,f,kSum cur (zI cur cur),rfl,?_,zOm,g.sum g.join,zSi,zS1 i,zS1 p,zSi⟩;rw[<-l,cloN,if_pos j]
  .rw [qf3 j]at l
   subst l;simp[go_sem,i,p,o,r,j];exact .hf _ (zQ _)
theorem qf4(op:Int)(a b:Kd)(ha:okK a)(p:okK b):qd qb 326 [aI op,eKd a,eKd b] (eKd (vT op a b)):=by
 refine qd.of_sound (qe.of_awp call326 func326 rfl (qh zKr) zKr (pl:={}) ?_);unfold vT;by_cases h6:op=6
 .subst h6
  simp[go_sem];refine qc.pure (sumU _ a b ha.len p.len) (.zk (zQ _) (.zk (Jh _ [b]) .nil)) ?_;simp[go_sem];exact .hf _ (zQ _)
 by_cases a0:op=14
 .subst a0
  simp[go_sem];refine qc.pure (sumU _ a b ha.len p.len) (.zk (zQ _) (.zk (Jh _ [b]) .nil)) ?_;simp[go_sem];exact .hf _ (zQ _)
 by_cases h7:op=7
 .subst h7
  simp[go_sem];refine qc.eff0 (Jg _ _) ?_ (by rintro r m ⟨e,_⟩;cases e);rintro r m ⟨e,c,rfl⟩;cases e;simp[go_sem];obtain⟨B,hB⟩:∃ B,B=mKd b.ts:=⟨_,rfl⟩;refine qn.seen a.ts.length (fun seen U=>U.tm 4 = .ip (cKd a)/\U.tm 5 = .ip [aI b.ar,B]/\U.tm 6 = .ptr 0 0/\U.tm 7 = .ptr 3 0/\U.tm 24 = .ptr 4 0 /\
   ColS a.ar (.arr [aI 0,.sc (.map none)]) c (.it (eT a.ts) seen) (fun t=>(∃ i,i∈seen/\a.ts[i]?=some t)/\t∈b.ts) U.mu) ?_ ?_
  .exact ⟨zSi,by simp[go_sem,hB],zSi,zSi,zSi,[],rfl,rfl,rfl,rfl,rfl,zSp,zSp,zSp⟩
  .rintro seen U a8 a9 ⟨e4,e5,e6,e7,I,l,k0,k1,k2,k3,k4,h1,h2,h3⟩
   simp[go_sem,I];refine⟨4,eT a.ts,seen,rfl,k4,fun i e hi a1=>?_,fun a2=>?_⟩
   .obtain ⟨x,hx,rfl⟩:=Zw hi
    have J:okT x:=ha.len x (qV hx);have a3:i<a.ts.length:=(qk.1 hx).1;have a5:x.length=3:=J;have a6:∀ C:Mu,yg qb C 330 B (aT x) false=some (aB (decide (x∈b.ts))):=fun C=>by rw[hB];exact lookT J p.len
    have o:4<U.mu.length:=(qk.1 k4).1;have g:∀(c:Cell) (l:List Cell) (j:Nat),j<4->((U.mu.set 4 c)++l)[j]?=U.mu[j]?:=fun c l j hj=>by
     rw[qo zSo,qv zOm]
    have q2:=fun c l=>(g c l 2 zOm).trans k2
    have q3:=fun c l=>(g c l 3 zOm).trans k3
    obtain⟨R,x1,x2,rfl⟩:∃ R x1 x2,x=[R,x1,x2]:=by
     match x,a5 with
     | [R,x1,x2],_=>exact⟨_,_,_,rfl⟩
    have a4:∀ C:Mu,yg qb C 330 B (.agg [.sc (.int .i8 R),.sc (.int .i8 x1),.sc (.int .i8 x2)]) false=some (aB (decide ([R,x1,x2]∈b.ts))):=a6;simp[go_sem,e5,I,hi,o,a4];by_cases P:[R,x1,x2]∈b.ts
    .simp [go_sem,P,e7,q3]
     refine OptK.intro _ (updT (q2 _ _) J h2) ?_;simp[go_sem];refine⟨i,a3,a1,zS1 e4,zS1 e5,zS1 e6,zS1 e7,zS1 I,ins l [R,x1,x2],?_,?_,?_,?_,?_,Z4 h1,fun t ht=>?_,fun t=>?_⟩
     .simp only[qP]
      rw[qv zOm,g _ _ 0 zOm,k0]
     .simp only[qP]
      rw[qv zOm,g _ _ 1 zOm,k1]
     .simp only[qP]
      rw[qJ zSo]
     .simp only[qP]
      rw[qv zOm,g _ _ 3 zOm,k3]
     .simp only[qP]
      rw[qv zOm,qo (zUs o),qJ o]
     .rcases uw.1 ht with h|rfl
      .exact h2 t h
      .exact J
     .simp only[uw,h3,WV hx]
      constructor
      .rintro (⟨h,p⟩|rfl)
       .exact ⟨.inl h,p⟩
       .exact ⟨.inr rfl,P⟩
      .rintro ⟨h|rfl,p⟩
       .exact .inl ⟨h,p⟩
       .exact .inr rfl
    .simp [go_sem,P]
     refine⟨i,a3,a1,zS1 e4,zS1 e5,zS1 e6,zS1 e7,zS1 I,l,?_,?_,?_,?_,?_,h1,h2,fun t=>?_⟩
     .simp only[qP]
      rw[g _ _ 0 zOm,k0]
     .simp only[qP]
      rw[g _ _ 1 zOm,k1]
     .simp only[qP]
      rw[g _ _ 2 zOm,k2]
     .simp only[qP]
      rw[g _ _ 3 zOm,k3]
     .simp only[qP]
      rw[qo (zUs o),qJ o]
     .simp only[h3,WV hx]
      constructor
      .rintro ⟨h,p⟩;exact⟨.inl h,p⟩
      .rintro ⟨h|rfl,p⟩
       .exact ⟨h,p⟩
       .exact absurd p P
   .obtain ⟨a7,hm⟩:=four k0 k1 k2 k3
    simp[go_sem,e6,e7,hm];refine Rd.aggs ⟨.hf _ (HF.sc _),Rd.setT rfl h1 (ha.nd.filter _) (fun t=>?_),trivial⟩;refine(h3 t).trans ?_;show (_/\_)↔t∈a.ts.filter fun t=>decide (t∈b.ts)
    rw[WW (zUs a2)];simp
 .simp [go_sem,h6,a0,h7]
  exact .hf _ (zQ _)
end Y8
end Go.Proofs.YtpagnklaanbmbaaGreatDoor
namespace Go.Ev
open Go Go.RowKit
theorem qd.of_still{P:j1}{f:wh}{args:List AV}{r:AV}{p:Array uk}{v:uk}(i:je P f)(g:∀(G:Gh) (h:Array Obj) (l:Array uk),zM G h args l->l=p)
  (h:∀ w,Calls P f p w fun e w'=>e = .returned v/\w'=w) (t:∀(G:Gh) (h:Array Obj),VRel G h r v):qd P f args r:=by
 refine⟨i,fun o w l C I=>?_⟩;rw[g _ _ _ I];refine(h w).mono fun e w' ⟨J,R⟩=>?_
 subst R;exact⟨o,v,J,fun _ j=>j,fun b j=>⟨C.imm b j,.inl j⟩,⟨Below.refl _ _,qm _⟩,t _ _⟩
theorem qf5{G:Gh}{h:Array Obj}{a b:uk}{g:Array uk}(r:zM G h [.sc a,.sc b] g):g=#[a,b]:=by
 obtain⟨t,j⟩:=r;have l:=j 0 _ rfl;have o:=j 1 _ rfl;have C:g.size=2:=zUs t;have I:g.getD 0 xa=a:=by generalize g.getD 0 xa=x at l;cases l;rfl
 have J:g.getD 1 xa=b:=by generalize g.getD 1 xa=x at o;cases o;rfl
 apply Array.ext
 .simpa using C
 .intro i p P
  have:i=0\/i=1:=zOm;rcases this with rfl|rfl
  .simpa [qH,p] using I
  .simpa [qH,p] using J
theorem WX(w:j3)(os:Array Obj)(b:Nat)(h:b<w.heap.size):(Sort.grow w os).heap[b]?=w.heap[b]?:=by
 show (w.heap++os)[b]?=_;rw[Array.getElem?_append_left h]
theorem Stp.grow{G:Gh}{mu:Mu}{w:j3}(s:Sim G mu w.heap)(os:Array Obj):Stp G mu w G mu (Sort.grow w os):=by
 have g:w.heap.size<=(Sort.grow w os).heap.size:=by show _<=(w.heap++os).size;simp
 have r:Ext G w.heap (Sort.grow w os).heap:=⟨g,fun b j=>WX w os b (s.imm b j)⟩;refine⟨.refl G,⟨s.len,fun b j=>ZL (s.imm b j) g,?_,s.live,s.inj,s.tab.mono (fun _ h=>h) r.keep⟩,fun b j _=>WX w os b j,g,fun b h => .inl h,fun b h => .inl h,rfl,rfl,rfl,qm _⟩;intro i c l p C I J;obtain⟨o,t,P⟩:=s.obj i c l p C I J;exact⟨o,by rw[WX w os l (yf.1 t).1];exact t,P.mono (.refl G) r⟩
def srtI(zs:List Int):List Int:=zs.mergeSort fun x y=>decide (x<=y)
theorem Ji(zs:List Int):(srtI zs).length=zs.length:=List.length_mergeSort ..
theorem qf6{P:j1}{f:wh}(I:je P f)
  (r:∀(g off cap:Nat) (zs:List Int) (w:j3),Sort.Holds (Value.int .i64) w g off zs.toArray->g<w.heap.size->zs.length<4611686018427387904 ->
   Calls P f #[.slice (some ⟨g,off,none⟩) zs.length cap] w fun e w'=>e = .returned (.tuple #[])/\∃ n os,w'=Sort.grow (Sort.putRow (Value.int .i64) (Sort.ahead w n) g off (zs.mergeSort fun x y=>decide (x<=y)).toArray) os)
  {mu:Mu} {b off:Nat} {cells:List AV} {zs:List Int} (hc:mu[b]?=some (.arr cells)) (hz:∀(k:Nat) (n:Int),zs[k]?=some n->cells[off+k]?=some (.sc (.int .i64 n))) (hl:zs.length<4611686018427387904) (J:off+zs.length<=cells.length) :
  qe P f [.sl b 1 off zs.length] mu fun e m=>e = .ret (.tup [])/\m=mu.set b (.arr (putCells cells off ((srtI zs).map fun n => .sc (.int .i64 n)))):=by
 refine⟨I,fun G w vs s ra=>?_⟩;obtain⟨v,rfl,rv⟩:=ra.one_inv;cases rv with
 |sl _ _ _ _ g R cap hb ht a6 =>
 obtain⟨arr,e0,h1,h2,h3,h4⟩:=s.arr b cells g R hc hb;have t:∀(k:Nat) (n:Int),zs[k]?=some n->arr[off+k]?=some (.int .i64 n):=by
  intro k n hk;have hx:=hz k n hk;have hr:=(h4 _ _ hx).2;have a7:off+k<cells.length:=(qk.1 hx).1;have o:off+k<arr.size:=zOm;have:arr.getD (off+k) xa = .int .i64 n:=by generalize arr.getD (off+k) xa=u at hr;cases hr;rfl
  rw[qH,uM o]at this;rw[uM o];exact congrArg some this
 have hH:Sort.Holds (Value.int .i64) w g off zs.toArray:=by
  intro j i;have a2:j<zs.length:=zUs i;refine⟨?_,?_⟩
  .have:=t j zs[j] (qA a2)
   simp only[World.cell?,h1,Option.isSome_none,Bool.false_eq_true,if_false,this];rw[getElem!_pos zs.toArray j i];rfl
  .simp only[World.frozen?,h1]
   simp
 have T:g<w.heap.size:=(yf.1 h1).1;refine(r g off cap zs w hH T hl).mono fun e w' ⟨he,n,os,hw⟩=>?_
 have U:=Ji zs
 have a0:(Sort.putRow (Value.int .i64) (Sort.ahead w n) g off (srtI zs).toArray).heap[g]?=some (.cells (Sort.putCells (Value.int .i64) off (srtI zs).toArray arr) e0 (0,0)):=by
  show (w.heap.modify g (Sort.onCells _))[g]?=_;rw[Array.getElem?_modify,if_pos rfl,h1];rfl
 have a1:∀ k,k≠g->(Sort.putRow (Value.int .i64) (Sort.ahead w n) g off (srtI zs).toArray).heap[k]?=w.heap[k]?:=by
  intro k hk;show (w.heap.modify g (Sort.onCells _))[k]?=_;rw[Array.getElem?_modify,if_neg (fun e=>hk e.symm)]
 have st1:Stp G mu w G (mu.set b (.arr (putCells cells off ((srtI zs).map fun n => .sc (.int .i64 n))))) (Sort.putRow (Value.int .i64) (Sort.ahead w n) g off (srtI zs).toArray):=by
  refine Stp.write (hdr:=Nat.le_add_right _ _) s b (.arr cells) _ g R _ hc zSp zSp hb zSp a0 a1 rfl rfl rfl ?_;have p:off+((srtI zs).map fun n=>AV.sc (.int .i64 n)).length<=cells.length:=by simp[U];exact J
  refine⟨_,e0,rfl,by simp[Sort.putCells,h2],by rw[jl _ _ _ p];simp;omega,fun j y i=>?_⟩;rw[jl _ _ _ p,List.append_assoc]at i;have C:j<arr.size:=by
   have:=(qk.1 i).1;simp[U]at this;omega
  have a3:(Sort.putCells (Value.int .i64) off (srtI zs).toArray arr).getD j xa=if off<=j/\j<off+(srtI zs).toArray.size then (Value.int .i64) (srtI zs).toArray[j-off]! else arr[j]:=by
   rw[qH,Sort.putCells,Array.getElem?_mapIdx,uM C];rfl
  rw[a3];have a4:(cells.take off).length=off:=zSo;by_cases a5:j<off
  .rw [qo zOm,jp,if_pos a5]at i
   rw[if_neg zOm];have:=h4 j y i;rw[qH,uM C]at this;exact this
  .rw [zf zOm,a4]at i
   by_cases l:j-off<(srtI zs).length
   .rw [qo (zUs l),zu,qA l]at i
    simp only[zd,qp]at i;subst i;rw[if_pos zSo];refine⟨rfl,?_⟩;rw[getElem!_pos (srtI zs).toArray (j-off) (zUs l)];exact .sc _ rfl
   .rw [zf zSo,jF]at i
    rw[if_neg zSo];have e1:off+((srtI zs).map fun n=>AV.sc (.int .i64 n)).length+(j-off-((srtI zs).map fun n=>AV.sc (.int .i64 n)).length)=j:=by simp at l⊢;omega
    rw[e1]at i;have:=h4 j y i;rw[qH,uM C]at this;exact this
 have st2:=st1.trans s (Stp.grow st1.sim os);rw[show (srtI zs).toArray=(zs.mergeSort fun x y=>decide (x<=y)).toArray from rfl]at st2;rw[<-hw]at st2;exact⟨G,_,st2,.inl ⟨_,_,⟨rfl,rfl⟩,he,.tup [] #[] rfl zSp⟩⟩
end Go.Ev
namespace Go.Proofs
open Go.Shelf
def Tryz.laysM246_ren:Go.Shelf.Ren:=⟨fun|246=>341|283=>344|284=>345|285=>346|286=>347|129=>292|317=>350|318=>351|319=>352|320=>353|337=>354|338=>355|n=>n,fun|2=>2|3=>3|9=>9|4=>4|171=>403|0=>0|53=>359|37=>158|5=>5|173=>405|212=>412|51=>95|20=>20|213=>413|46=>226|232=>414|233=>415|n=>n,fun|17=>0|18=>1|19=>2|n=>n⟩
def Tryz.laysM243_ren:Go.Shelf.Ren:=⟨fun|243=>330|246=>341|283=>344|284=>345|285=>346|286=>347|129=>292|317=>350|318=>351|319=>352|320=>353|337=>354|338=>355|n=>n,fun|3=>3|9=>9|2=>2|4=>4|171=>403|0=>0|53=>359|37=>158|5=>5|173=>405|212=>412|51=>95|20=>20|213=>413|46=>226|232=>414|233=>415|n=>n,fun|17=>0|18=>1|19=>2|n=>n⟩
def Tryz.laysM171_ren:Go.Shelf.Ren:=⟨fun|171=>304|243=>330|246=>341|283=>344|284=>345|285=>346|286=>347|129=>292|317=>350|318=>351|319=>352|320=>353|337=>354|338=>355|n=>n,fun|3=>3|9=>9|2=>2|4=>4|171=>403|0=>0|53=>359|37=>158|5=>5|173=>405|212=>412|51=>95|20=>20|213=>413|46=>226|232=>414|233=>415|n=>n,fun|17=>0|18=>1|19=>2|n=>n⟩
theorem Tryz.laysM171:Go.Proofs.LaysM.n171 qb Tryz.laysM171_ren:={
 mixed:=zKr
 f129:=func292.trans (congrArg some zKr)
 f171:=func304.trans (congrArg some zKr)
 f243:=func330.trans (congrArg some zKr)
 f246:=func341.trans (congrArg some zKr)
 f283:=func344.trans (congrArg some zKr)
 f284:=func345.trans (congrArg some zKr)
 f285:=func346.trans (congrArg some zKr)
 f286:=func347.trans (congrArg some zKr)
 f317:=func350.trans (congrArg some zKr)
 f318:=func351.trans (congrArg some zKr)
 f319:=func352.trans (congrArg some zKr)
 f320:=func353.trans (congrArg some zKr)
 f337:=func354.trans (congrArg some zKr)
 f338:=func355.trans (congrArg some zKr)
 t0:=Tryz.underlying0
 a0:=Tryz.isAgg0
 z0:=Tryz.sizeOf0
 v0:=Tryz.zeroValue0
 t2:=Tryz.underlying2
 a2:=Tryz.isAgg2
 z2:=Tryz.sizeOf2
 v2:=Tryz.zeroValue2
 t3:=Tryz.underlying3
 a3:=Tryz.isAgg3
 z3:=Tryz.sizeOf3
 v3:=Tryz.zeroValue3
 t4:=Tryz.underlying4
 a4:=Tryz.isAgg4
 z4:=Tryz.sizeOf4
 v4:=Tryz.zeroValue4
 t5:=Tryz.underlying5
 a5:=Tryz.isAgg5
 z5:=Tryz.sizeOf5
 v5:=Tryz.zeroValue5
 t9:=Tryz.underlying9
 a9:=Tryz.isAgg9
 z9:=Tryz.sizeOf9
 v9:=Tryz.zeroValue9
 t20:=Tryz.underlying20
 a20:=Tryz.isAgg20
 z20:=Tryz.sizeOf20
 v20:=Tryz.zeroValue20
 t37:=Tryz.underlying158
 a37:=Tryz.isAgg158
 z37:=Tryz.sizeOf158
 v37:=Tryz.zeroValue158
 t46:=Tryz.underlying226
 a46:=Tryz.isAgg226
 z46:=Tryz.sizeOf226
 v46:=Tryz.zeroValue226
 t51:=Tryz.underlying95
 a51:=Tryz.isAgg95
 z51:=Tryz.sizeOf95
 v51:=Tryz.zeroValue95
 t53:=Tryz.underlying359
 a53:=Tryz.isAgg359
 z53:=Tryz.sizeOf359
 v53:=Tryz.zeroValue359
 t171:=Tryz.underlying403
 a171:=Tryz.isAgg403
 z171:=Tryz.sizeOf403
 v171:=Tryz.zeroValue403
 t173:=Tryz.underlying405
 a173:=Tryz.isAgg405
 z173:=Tryz.sizeOf405
 v173:=Tryz.zeroValue405
 t212:=Tryz.underlying412
 a212:=Tryz.isAgg412
 z212:=Tryz.sizeOf412
 v212:=Tryz.zeroValue412
 t213:=Tryz.underlying413
 a213:=Tryz.isAgg413
 z213:=Tryz.sizeOf413
 t232:=Tryz.underlying414
 a232:=Tryz.isAgg414
 z232:=Tryz.sizeOf414
 v232:=Tryz.zeroValue414
 t233:=Tryz.underlying415
 a233:=Tryz.isAgg415
 z233:=Tryz.sizeOf415
 v233:=Tryz.zeroValue415
 g17:=zKr
 g18:=zKr
 g19:=zKr
 i0:=zKr
 i2:=zKr
 i3:=zKr
 i4:=zKr
 i5:=zKr
 i9:=zKr
 i20:=zKr
 i37:=zKr
 i46:=zKr
 i51:=zKr
 i53:=zKr
 i171:=zKr
 i173:=zKr
 i212:=zKr
 i232:=zKr
 i233:=zKr
 m17:=zKr
 m18:=zKr
 m19:=by kernel_rfl }
open Go.RowKit Go.Sort Go.Lib in
theorem Tryz.strconv_Itoa (n : Int) (i : -9223372036854775808 ≤ n) (j : n ≤ 9223372036854775807) (w : World) (g : Lib.TabIs qb w "internal/strconv.uint64pow10" .u64 Lib.pow10Tab) :
    Calls qb 304 #[.int .i64 n] w fun e w'=>e = .returned (.string ⟨(Lib.itoa n).toArray⟩)/\∃ k os,w'=grow (w.drewN k) os:=Any.strconv_Itoa Tryz.laysM171 n i j w g
def Tryz.lays189_ren:Go.Shelf.Ren:=⟨fun|189=>183|125=>247|257=>246|128=>291|129=>292|294=>283|295=>284|296=>285|297=>286|298=>287|299=>288|216=>159|300=>289|301=>290|328=>313|329=>314|330=>315|331=>316|332=>317|215=>237|343=>332|n=>n,fun|28=>28|3=>3|46=>226|0=>0|51=>95|53=>359|4=>4|183=>352|182=>351|131=>142|5=>5|9=>9|218=>372|222=>376|228=>390|229=>391|n=>n,fun|n=>n⟩
theorem Tryz.lays189:Go.Proofs.Lays.n189 qb Tryz.lays189_ren:={
 mixed:=zKr
 f125:=func247.trans (congrArg some zKr)
 f128:=func291.trans (congrArg some zKr)
 f129:=func292.trans (congrArg some zKr)
 f189:=func183.trans (congrArg some zKr)
 f215:=func237.trans (congrArg some zKr)
 f216:=func159.trans (congrArg some zKr)
 f257:=func246.trans (congrArg some zKr)
 f294:=func283.trans (congrArg some zKr)
 f295:=func284.trans (congrArg some zKr)
 f296:=func285.trans (congrArg some zKr)
 f297:=func286.trans (congrArg some zKr)
 f298:=func287.trans (congrArg some zKr)
 f299:=func288.trans (congrArg some zKr)
 f300:=func289.trans (congrArg some zKr)
 f301:=func290.trans (congrArg some zKr)
 f328:=func313.trans (congrArg some zKr)
 f329:=func314.trans (congrArg some zKr)
 f330:=func315.trans (congrArg some zKr)
 f331:=func316.trans (congrArg some zKr)
 f332:=func317.trans (congrArg some zKr)
 f343:=func332.trans (congrArg some zKr)
 t0:=Tryz.underlying0
 a0:=Tryz.isAgg0
 z0:=Tryz.sizeOf0
 v0:=Tryz.zeroValue0
 t3:=Tryz.underlying3
 a3:=Tryz.isAgg3
 z3:=Tryz.sizeOf3
 v3:=Tryz.zeroValue3
 t4:=Tryz.underlying4
 a4:=Tryz.isAgg4
 z4:=Tryz.sizeOf4
 v4:=Tryz.zeroValue4
 t5:=Tryz.underlying5
 a5:=Tryz.isAgg5
 z5:=Tryz.sizeOf5
 v5:=Tryz.zeroValue5
 t9:=Tryz.underlying9
 a9:=Tryz.isAgg9
 z9:=Tryz.sizeOf9
 v9:=Tryz.zeroValue9
 t28:=Tryz.underlying28
 a28:=Tryz.isAgg28
 z28:=Tryz.sizeOf28
 v28:=Tryz.zeroValue28
 t46:=Tryz.underlying226
 a46:=Tryz.isAgg226
 z46:=Tryz.sizeOf226
 v46:=Tryz.zeroValue226
 t51:=Tryz.underlying95
 a51:=Tryz.isAgg95
 z51:=Tryz.sizeOf95
 v51:=Tryz.zeroValue95
 t53:=Tryz.underlying359
 a53:=Tryz.isAgg359
 z53:=Tryz.sizeOf359
 v53:=Tryz.zeroValue359
 t131:=Tryz.underlying142
 a131:=Tryz.isAgg142
 z131:=Tryz.sizeOf142
 v131:=Tryz.zeroValue142
 t182:=Tryz.underlying351
 a182:=Tryz.isAgg351
 z182:=Tryz.sizeOf351
 v182:=Tryz.zeroValue351
 t183:=Tryz.underlying352
 a183:=Tryz.isAgg352
 z183:=Tryz.sizeOf352
 v183:=Tryz.zeroValue352
 t218:=Tryz.underlying372
 a218:=Tryz.isAgg372
 z218:=Tryz.sizeOf372
 v218:=Tryz.zeroValue372
 t222:=Tryz.underlying376
 a222:=Tryz.isAgg376
 z222:=Tryz.sizeOf376
 v222:=Tryz.zeroValue376
 t228:=Tryz.underlying390
 a228:=Tryz.isAgg390
 z228:=Tryz.sizeOf390
 v228:=Tryz.zeroValue390
 t229:=Tryz.underlying391
 a229:=Tryz.isAgg391
 z229:=Tryz.sizeOf391
 v229:=Tryz.zeroValue391 }
open Go.Sort Go.RowKit in
theorem Tryz.slices_Sort_int(g off cap:Nat)(zs:List Int)(w:j3)(l:Holds (Value.int .i64) w g off zs.toArray)(i:g<w.heap.size)(j:zs.length<4611686018427387904) :
  Calls qb 183 #[.slice (some ⟨g,off,none⟩) zs.length cap] w fun e w' =>
   e = .returned (.tuple #[])/\∃ n os,w'=grow (putRow (Value.int .i64) (Sort.ahead w n) g off (zs.mergeSort fun x y=>decide (x<=y)).toArray) os:=Any.slices_Sort_int Tryz.lays189 g off cap zs w l i j
def Tryz.lays212_ren:Go.Shelf.Ren:=⟨fun|212=>342|263=>348|264=>349|n=>n,fun|46=>226|51=>95|146=>407|53=>359|148=>409|n=>n,fun|n=>n⟩
theorem Tryz.lays212:Go.Proofs.Lays.n212 qb Tryz.lays212_ren:={
 mixed:=zKr
 f212:=func342.trans (congrArg some zKr)
 f263:=func348.trans (congrArg some zKr)
 f264:=func349.trans (congrArg some zKr)
 t46:=Tryz.underlying226
 a46:=Tryz.isAgg226
 z46:=Tryz.sizeOf226
 v46:=Tryz.zeroValue226
 t51:=Tryz.underlying95
 a51:=Tryz.isAgg95
 z51:=Tryz.sizeOf95
 v51:=Tryz.zeroValue95
 t53:=Tryz.underlying359
 a53:=Tryz.isAgg359
 z53:=Tryz.sizeOf359
 v53:=Tryz.zeroValue359
 t146:=Tryz.underlying407
 a146:=Tryz.isAgg407
 z146:=Tryz.sizeOf407
 v146:=Tryz.zeroValue407
 t148:=Tryz.underlying409
 a148:=Tryz.isAgg409
 z148:=Tryz.sizeOf409
 v148:=Tryz.zeroValue409 }
open Go.RowKit Go.Lib in
theorem Tryz.bits_Mul(x y:Nat)(hx:x<18446744073709551616)(g:y<18446744073709551616)(w:j3) :
  Calls qb 342 #[.int .u64 x,.int .u64 y] w fun e w'=>e = .returned (.tuple #[.int .u64 ((x*y / 18446744073709551616:Nat):Int),.int .u64 ((x*y % 18446744073709551616:Nat):Int)])/\w'=w:=Any.bits_Mul Tryz.lays212 x y hx g w
open Go.RowKit Go.Sort in
theorem Tryz.slices_Sort_int_none(p:Option Addr)(cap:Nat)(w:j3) :
  Calls qb 183 #[.slice p 0 cap] w fun e w'=>e = .returned (.tuple #[])/\w'=w:=Any.slices_Sort_int_none Tryz.lays189 p cap w
end Go.Proofs
namespace Go.Proofs.YtpagnklaanbmbaaGreatDoor
open Go Go.Ev Go.Proofs Tryz
namespace YS
open Y1
section
variable {mu:Mu}
theorem VO(xs:List Int):(xs.map rI).flatten=xs.map aI:=by
 induction xs with
 |nil=>rfl
 |cons x xs g=>simp[g]
theorem qf7{lo b n:Nat}{xs:List Int}(j:lo<=b)(g:mu[b]?=some (.arr (xs.map aI)))(i:xs.length=n):OwnF lo mu 1 (.sl b 1 0 n) (xs.map rI):=by
 have p:b<mu.length:=(qk.1 g).1;refine⟨.inr ⟨b,zP1 i,by rw[g,VO]⟩,fun r s o l e=>?_,zOm⟩;injection e;omega
theorem gPow : qb.globalNamed "internal/strconv.uint64pow10" = some 0 := by kernel_rfl
theorem tabIs{G: Gh}{w: World} (s : Sim G mu w.heap) : Lib.TabIs qb w "internal/strconv.uint64pow10" .u64 Lib.pow10Tab := by
  obtain⟨_,e,g,h⟩:=s.tab (0,[.int .u64 1,.int .u64 10,.int .u64 100,.int .u64 1000,.int .u64 10000,.int .u64 100000,.int .u64 1000000,.int .u64 10000000,.int .u64 100000000,.int .u64 1000000000,.int .u64 10000000000,.int .u64 100000000000,.int .u64 1000000000000,.int .u64 10000000000000,.int .u64 100000000000000,.int .u64 1000000000000000,.int .u64 10000000000000000,.int .u64 100000000000000000,.int .u64 1000000000000000000,.int .u64 10000000000000000000]) (by simp[tabs]);unfold Lib.TabIs World.var?;rw[gPow];simp only[Option.bind_some,h];rfl
def jh(n:Int):ByteArray:=⟨(Lib.itoa n).toArray⟩
theorem itoaU(n:Int)(o : -9223372036854775808<=n)(p:n<=9223372036854775807):qd qb 304 [aI n] (aS (jh n)):=by
 refine⟨call304,fun g w R l r=>?_⟩;obtain⟨v,rfl,C⟩:=r.one_inv;cases C;refine(Tryz.strconv_Itoa n o p w (tabIs l)).mono fun e T ⟨I,k,os,J⟩=>?_
 subst J;have st1:Stp ⟨g,[]⟩ [] w ⟨g,[]⟩ [] (w.drewN k):=⟨.refl _,l,fun _ _ _=>rfl,qm _,fun _ h => .inl h,fun _ h => .inl h,rfl,rfl,rfl,Nat.le_add_right _ _⟩;have U:=st1.trans l (Stp.grow st1.sim os);exact⟨g,_,I,fun _ h=>h,fun b j=>⟨U.sim.imm b j,.inl j⟩,⟨⟨U.os,U.tape,U.output,U.size,fun b j=>U.keep b j (fun⟨i,c,t,P,_⟩=>by simp at P)⟩,U.drawn⟩,.sc _ rfl⟩
theorem mulB(x y:Nat)(hx:x<18446744073709551616)(i:y<18446744073709551616) :
  qd qb 342 [.sc (.int .u64 x),.sc (.int .u64 y)] (.tup [.sc (.int .u64 ((x*y / 18446744073709551616:Nat):Int)),.sc (.int .u64 ((x*y % 18446744073709551616:Nat):Int))]):=
 qd.of_still call342 (fun G h j r=>qf5 r) (fun w=>Tryz.bits_Mul x y hx i w) fun G h => .tup _ _ rfl fun k z g=>by
  match k with
  | 0=>simp at g;subst g;exact .sc _ rfl
  | 1=>simp at g;subst g;exact .sc _ rfl
  |k+2=>simp at g
theorem pZ{n:Int}(g:0<=n)(i:n<=18446744073709551615):IntKind.u64.wrap n=n:=IntWalk.u64_in n ⟨g,i⟩
theorem qf8{b off len:Nat}{cells:List AV}(j:mu[b]?=some (.arr cells))(l:off+len<=cells.length):qO mu (.sl b 1 off len)=some (((cells.drop off).take len).map fun c=>[c]):=by
 simp only[qO,j];rw[if_pos zOm];congr 1;apply ui;intro i;by_cases g:i<len
 .simp only[zu,uH g,zd,Nat.mul_one]
  rw[jp,if_pos g,jF,qA (show off+i<cells.length by omega)];rw[zt (show off+i<cells.length by omega)];rfl
 .rw [jj zSo,jj zSo]
theorem qf9(l:List AV):(l.map fun c=>[c]).flatten=l:=by
 induction l with
 |nil=>rfl
 |cons x l g=>simp only[yc,wt,g];rfl
theorem qgA{l:List AV}(h:∀ c,c∈l->c.one=true):zy 1 (l.map fun c=>[c]):=fun r g=>by
 obtain⟨c,i,rfl⟩:=qr.1 g;exact⟨rfl,by simp[h c i]⟩
def rep(s:Int)(k m:Nat):List AV:=qZ m (aI s)++qZ (k-m) (aI 0)
theorem WY(s:Int)(k m:Nat)(h:m<=k):(rep s k m).length=k:=by simp[rep];omega
theorem p5(s:Int)(k m j:Nat)(h:j<=m):(rep s k m).take j=qZ j (aI s):=by
 rw[rep,List.take_append_of_le_length (zUs h),List.take_replicate,Nat.min_eq_left h]
theorem p6(s:Int)(k m j:Nat)(g:m<=k)(h:m+j<=k):putCells (rep s k m) m (qZ j (aI s))=rep s k (m+j):=by
 rw[jl _ _ _ (by rw[WY _ _ _ g];simpa using h)];rw[p5 _ _ _ _ (qm m),List.replicate_append_replicate];have:List.drop (m+(qZ j (aI s)).length) (rep s k m)=qZ (k-(m+j)) (aI 0):=by
  rw[rep,List.length_replicate,List.drop_append,List.drop_of_length_le zSp,List.nil_append,List.length_replicate,List.drop_replicate];congr 1;omega
 rw[this];rfl
theorem qgB(s:Int)(k:Nat)(hk:k<=5):qd qb 335 [lI [s],aI k] (lI (qZ k s)):=by
 refine qd.of_sound (qe.of_awp call335 func335 rfl (qh zKr) zKr (pl:={}) ?_);have r:IntKind.u64.wrap (k:Int)=k:=pZ zOm zOm;have t:IntKind.u64.wrap 1=1:=pZ zOm zOm;have I:qj.wrap (k:Int)=k:=qi zOm zOm;simp[go_sem,show ¬(k:Int)<0 by omega,r,t];refine qc.pure (mulB 1 k zOm zOm) (.zs (.zs .nil)) ?_;rw[show 1*k / 18446744073709551616=0 by omega,show 1*k % 18446744073709551616=k by omega];simp[go_sem,show ¬(9223372036854775807:Int)<k by omega,I,show (k:Int)<=4294967296 by omega];refine WJ (ys:=[[aI s]]) zSi rfl zSp rfl (wJ [s]) ?_;have J:putCells (qZ k (aI 0)) 0 (([[aI s]]:List (List AV)).take k).flatten=rep s k (min 1 k):=by
  have:=p6 s k 0 (min 1 k) zOm zOm;rw[yy]at this;rw[<-this];cases k with
  |zero=>rfl
  |succ k=>rw[show min 1 (k+1)=1 by omega];simp[rep]
 simp only[J];simp[go_sem];refine qn.keep (fun n U=>∃ m,n=k-m/\m<=k/\(k=m\/1<=m)/\U.tm 7 = .sl 0 1 0 k/\U.tm 8=aI m/\U.mu=[.arr (rep s k m)]) (k-min 1 k) ?_ ?_
 .exact ⟨min 1 k,rfl,zOm,zOm,zSi,zSi,zSi⟩
 rintro n U ⟨m,rfl,l,R,i,o,em⟩;by_cases g:m<k
 .have p:qO [.arr (rep s k m)] (.sl 0 1 0 m)=some ((qZ m (aI s)).map fun c=>[c]):=by
   rw[qf8 (cells:=rep s k m) rfl (by rw[WY _ _ _ l];omega)];rw[List.drop_zero,p5 _ _ _ _ (qm m)]
  simp[go_sem,i,o,em,g];refine qg.intro zKr ?_;simp[go_sem,i,o,g,show m<=k by omega];refine WJ (cells:=rep s k m) zSi rfl (by rw[WY _ _ _ l];omega) p (qgA fun c p=>by rw[List.eq_of_mem_replicate p];rfl) ?_;have e1:putCells (rep s k m) m ((((qZ m (aI s)).map fun c=>[c]).take (k-m)).flatten)=rep s k (m+min m (k-m)):=by
   rw[<-List.map_take,qf9,List.take_replicate,Nat.min_comm];exact p6 s k m _ l zOm
  simp only[e1];simp[go_sem];refine Keep.loop (k-(m+min m (k-m))) zOm ⟨m+min m (k-m),rfl,zOm,zOm,zS1 i,?_,zSi⟩;simp[go_sem];rw[qi zOm zOm]
 .obtain rfl:m=k:=by omega
  simp[go_sem,i,o,em];have:rep s m m=(qZ m s).map aI:=by simp[rep]
  rw[this];exact(qf7 (lo:=0) (mu:=[.arr ((qZ m s).map aI)]) (b:=0) (Nat.zero_le _) rfl zSp).rdI
end
end YS
namespace YF
open Y1 P1
section
variable {J:Type}
abbrev cPm(p:ByteArray×Int):List AV:=[aS p.1,aI p.2]
abbrev lPm(l:List (ByteArray×Int)):AV := .lst false (l.map cPm)
abbrev cPd(p:Pd):List AV:=aS p.name :: lPm p.params :: cNd p.body
abbrev lPd(l:List Pd):AV := .lst false (l.map cPd)
abbrev cFa(f:ByteArray×Nd):List AV:=aS f.1 :: cNd f.2
abbrev lSo(l:List (ByteArray×Bool)):AV := .lst false (l.map Zp)
abbrev lFl(l:List Fld):AV := .lst false (l.map uu)
abbrev lFa(l:List (ByteArray×Nd)):AV := .lst false (l.map cFa)
abbrev cTS(s:TS):List AV:=[lSo s.sorts,lFl s.fields,lPd s.preds,lFa s.facts]
abbrev eTS(s:TS):AV := .agg (cTS s)
theorem VP(p:ByteArray×Int):∀ c,c∈cPm p->HF c:=by
 intro c g;simp at g;rcases g with rfl|rfl<;>exact HF.sc _
theorem vV(l:List (ByteArray×Int)):HF (lPm l):=HF.lst fun r g c i=>by
 obtain⟨p,_,rfl⟩:=qr.1 g;exact VP p c i
theorem VQ(p:Pd):∀ c,c∈cPd p->HF c:=by
 intro c g;simp only[cPd,qt]at g;rcases g with rfl|rfl|g
 .exact HF.sc _
 .exact vV _
 .exact jy p.body c g
theorem wR(l:List Pd):HF (lPd l):=HF.lst fun r g c i=>by
 obtain⟨p,_,rfl⟩:=qr.1 g;exact VQ p c i
theorem qgC(p:ByteArray×Nd):∀ c,c∈cFa p->HF c:=by
 intro c g;simp only[cFa,qt]at g;rcases g with rfl|g
 .exact HF.sc _
 .exact jy p.2 c g
theorem Jj(l:List (ByteArray×Nd)):HF (lFa l):=HF.lst fun r g c i=>by
 obtain⟨p,_,rfl⟩:=qr.1 g;exact qgC p c i
theorem qgD(p:ByteArray×Bool):∀ c,c∈Zp p->HF c:=by
 intro c g;simp at g;rcases g with rfl|rfl<;>exact HF.sc _
theorem VR(l:List (ByteArray×Bool)):HF (lSo l):=HF.lst fun r g c i=>by
 obtain⟨p,_,rfl⟩:=qr.1 g;exact qgD p c i
theorem VS(l:List Fld):HF (lFl l):=HF.lst fun r g c i=>by
 obtain⟨p,_,rfl⟩:=qr.1 g;exact WL p c i
theorem Z8(s:TS):∀ c,c∈cTS s->HF c:=by
 intro c g;simp only[cTS,qt,qE,or_false]at g;rcases g with rfl|rfl|rfl|rfl
 .exact VR _
 .exact VS _
 .exact wR _
 .exact Jj _
theorem zA(s:TS):HF (eTS s):=HF.agg (Z8 s)
theorem qgE(n:Nd):(cNd n).length=5/\(cNd n).all AV.one=true:=⟨Z2 n,Z3 n⟩
theorem Qo(p:Pd):(cPd p).length=7/\(cPd p).all AV.one=true:=⟨by simp[cPd,Z2],by simp only[cPd,List.all_cons,Z3];rfl⟩
theorem p7(p:ByteArray×Nd):(cFa p).length=6/\(cFa p).all AV.one=true:=⟨by simp[cFa,Z2],by simp only[cFa,List.all_cons,Z3];rfl⟩
def Jk(P:j1)(l:AV){J:Type}(xs:List J)(enc:J->AV)(g:J->Bool):Prop:=
 ∃ f first j,l = .fn (.func f) first j/\∀ x,x∈xs->∃ i,qd P f i (aB (g x))/\WKs (first++[enc x]++j) i
def idxI(xs:List J)(g:J->Bool):Int:=match xs.findIdx? g with|some i=>i|none => -1
theorem WZ{xs:List J}{g:J->Bool}{k:Nat}(i:k<xs.length)(hg:g xs[k]=true)(l:∀(j:Nat) (h:j<xs.length),j<k->g xs[j]=false):idxI xs g=k:=by
 unfold idxI;have:xs.findIdx? g=some k:=by
  rw[List.findIdx?_eq_some_iff_getElem];exact⟨i,hg,fun j o=>by rw[l j zOm o];simp⟩
 rw[this]
theorem p8{xs:List J}{g:J->Bool}(i:∀(j:Nat) (h:j<xs.length),g xs[j]=false):idxI xs g = -1:=by
 unfold idxI;have:xs.findIdx? g=none:=by
  rw[List.findIdx?_eq_none_iff];intro x hx;obtain⟨j,l,rfl⟩:=List.mem_iff_getElem.1 hx;exact i j l
 rw[this]
theorem p9(xs:List J)(g:J->Bool):decide (0<=idxI xs g)=xs.any g:=by
 unfold idxI;cases h:xs.findIdx? g with
 |none =>
  rw[List.findIdx?_eq_none_iff]at h;have:xs.any g=false:=by
   rw[<-Bool.not_eq_true,List.any_eq_true];rintro⟨x,hx,hg⟩;rw[h x hx]at hg;exact absurd hg zSp
  rw[this];rfl
 |some i =>
  rw[List.findIdx?_eq_some_iff_getElem]at h;obtain⟨j,hg,_⟩:=h;have:xs.any g=true:=List.any_eq_true.2 ⟨_,qy j,hg⟩;rw[this];simp
theorem idxNd(full:Bool)(xs:List (Nd))(J:AV)(g:Nd->Bool)(hf:Jk qb J xs (fun x => .agg (cNd x)) g)(hl:xs.length<=1000000000000):qd qb 320 [.lst full (xs.map cNd),J] (aI (idxI xs g)):=by
 refine qd.of_sound (qe.of_awp call320 func320 rfl (qh zKr) zKr (pl:={}) ?_);obtain⟨f,first,l,rfl,hf⟩:=hf;simp[go_sem];refine qn.up xs.length (fun k U=>U.tm 0 = .lst full (xs.map cNd)/\U.tm 1 = .fn (.func f) first l/\U.tm 6 = .lst full (xs.map cNd)/\U.tm 7=aI xs.length/\U.tm 8=aI k/\U.mu=[]/\∀(j:Nat) (h:j<xs.length),j<k->g xs[j]=false) ?_ ?_
 .simp [go_sem]
 .rintro k U hk ⟨P,R,e6,r,t,hm,C⟩
  by_cases he:k=xs.length
  .subst he
   simp[go_sem,r,t,hm];rw[p8 (fun j h=>C j h h)];exact .zsc _
  .have i:k<xs.length:=by omega
   obtain⟨o,hs,hw⟩:=hf xs[k] (qy i);have p:=qi (n:=((k+1:Nat):Int)) zOm zOm;simp[go_sem,P,R,r,t,hm,i,qgE xs[k]];refine .inl ⟨_,.inl ⟨f,first,l,o,rfl,hs,.inl hw⟩,?_⟩;cases hg:g xs[k] with
   |true =>
    simp[go_sem];rw[WZ i hg (fun j h hj=>C j h hj)];exact .zsc _
   |false =>
    simp[go_sem,P,R,e6,r,t,i];simp at p;refine⟨p,fun j h hj=>?_⟩;by_cases I:j=k
    .subst I;exact hg
    .exact C j h zOm
theorem hasNd(full:Bool)(xs:List (Nd))(i:AV)(g:Nd->Bool)(hf:Jk qb i xs (fun x => .agg (cNd x)) g)(l:HF i)(j:HF (.lst full (xs.map cNd)))(o:xs.length<=1000000000000):qd qb 299 [.lst full (xs.map cNd),i] (aB (xs.any g)):=by
 refine qd.of_sound (qe.of_awp call299 func299 rfl (qh zKr) zKr (pl:={}) ?_);simp[go_sem];refine qc.pure (idxNd full xs i g hf o) (.zk j (.zk l .nil)) ?_;simp[go_sem];rw[p9];exact .zsc _
theorem W0(full:Bool)(xs:List (Pd))(J:AV)(g:Pd->Bool)(hf:Jk qb J xs (fun x => .agg (cPd x)) g)(hl:xs.length<=1000000000000):qd qb 219 [.lst full (xs.map cPd),J] (aI (idxI xs g)):=by
 refine qd.of_sound (qe.of_awp call219 func219 rfl (qh zKr) zKr (pl:={}) ?_);obtain⟨f,first,l,rfl,hf⟩:=hf;simp[go_sem];refine qn.up xs.length (fun k U=>U.tm 0 = .lst full (xs.map cPd)/\U.tm 1 = .fn (.func f) first l/\U.tm 6 = .lst full (xs.map cPd)/\U.tm 7=aI xs.length/\U.tm 8=aI k/\U.mu=[]/\∀(j:Nat) (h:j<xs.length),j<k->g xs[j]=false) ?_ ?_
 .simp [go_sem]
 .rintro k U hk ⟨P,R,e6,r,t,hm,C⟩
  by_cases he:k=xs.length
  .subst he
   simp[go_sem,r,t,hm];rw[p8 (fun j h=>C j h h)];exact .zsc _
  .have i:k<xs.length:=by omega
   obtain⟨o,hs,hw⟩:=hf xs[k] (qy i);have p:=qi (n:=((k+1:Nat):Int)) zOm zOm;simp[go_sem,P,R,r,t,hm,i,Qo xs[k]];refine .inl ⟨_,.inl ⟨f,first,l,o,rfl,hs,.inl hw⟩,?_⟩;cases hg:g xs[k] with
   |true =>
    simp[go_sem];rw[WZ i hg (fun j h hj=>C j h hj)];exact .zsc _
   |false =>
    simp[go_sem,P,R,e6,r,t,i];simp at p;refine⟨p,fun j h hj=>?_⟩;by_cases I:j=k
    .subst I;exact hg
    .exact C j h zOm
theorem hasPd(full:Bool)(xs:List (Pd))(i:AV)(g:Pd->Bool)(hf:Jk qb i xs (fun x => .agg (cPd x)) g)(l:HF i)(j:HF (.lst full (xs.map cPd)))(o:xs.length<=1000000000000):qd qb 323 [.lst full (xs.map cPd),i] (aB (xs.any g)):=by
 refine qd.of_sound (qe.of_awp call323 func323 rfl (qh zKr) zKr (pl:={}) ?_);simp[go_sem];refine qc.pure (W0 full xs i g hf o) (.zk j (.zk l .nil)) ?_;simp[go_sem];rw[p9];exact .zsc _
end
end YF
namespace Y9
open Y1 Y2 P1 YF
abbrev cCk(c:Ck):List AV:=[lSo c.ts.sorts,lFl c.ts.fields,lPd c.ts.preds,lFa c.ts.facts,aI c.calls,.lst false (c.timed.map fun b=>[aB b])]
abbrev eCk(c:Ck):AV := .ip (cCk c)
theorem ji(c:Ck):HF (eCk c):=HF.ip fun x hx=>by
 simp only[cCk,qt,qE,or_false]at hx;rcases hx with rfl|rfl|rfl|rfl|rfl|rfl
 .exact VR _
 .exact VS _
 .exact wR _
 .exact Jj _
 .exact HF.sc _
 .exact HF.lst fun r i c g=>by
   obtain⟨b,_,rfl⟩:=qr.1 i;simp at g;subst g;exact HF.sc _
structure okTS (s:TS):Prop where
 ns:s.sorts.length<=4
 nf:s.fields.length<=6
 np:s.preds.length<=8
 nfa:s.facts.length<=16
 sl:∀ x,x∈s.sorts->x.1.size<=4611686018427387904
 fl:∀ f,f∈s.fields->1<=f.sorts.length/\f.sorts.length<=3/\∀ x,x∈f.sorts->0<=x/\x<s.sorts.length
 pl:∀ p,p∈s.preds->p.params.length<=8/\∀ x,x∈p.params->0<=x.2/\x.2<s.sorts.length
structure okCk (c:Ck):Prop where
 ts:okTS c.ts
 calls:c.calls<=c.ts.preds.length
 timed:c.calls<=c.timed.length
theorem qgF(p:Pd)(nm:ByteArray):qd qb 333 [.agg (cPd p),.ip [aS nm]] (aB (decide (p.name=nm))):=by
 refine qd.of_sound (qe.of_awp call333 func333 rfl (qh zKr) zKr (pl:={}) ?_);by_cases h:p.name=nm
 .simp [go_sem,h]
  exact .zsc _
 .simp [go_sem,h,jA h]
  exact .zsc _
theorem ge(c:Ck)(o:okCk c)(nm:ByteArray):qd qb 319 [eCk c,aS nm] (aI (match zn c nm with|some i=>i|none => -1)):=by
 refine qd.of_sound (qe.of_awp call319 func319 rfl (qh zKr) zKr (pl:={}) ?_);simp[go_sem];refine qg.intro zKr ?_;have t:=o.calls;have C:=o.ts.np;have j:List.take c.calls (c.ts.preds.map cPd)=(c.ts.preds.take c.calls).map cPd:=by rw[List.map_take]
 simp[go_sem,show (c.calls:Int)<=c.ts.preds.length by omega];refine⟨⟨_,_,⟨rfl,rfl⟩,fun r I=>by obtain⟨p,_,rfl⟩:=qr.1 I;exact(Qo p).1⟩,?_⟩;rw[j];have l:HF (.fn (.func 333) [] [.ip [aS nm]]):=HF.fn zSp (fun x hx=>by simp at hx;subst hx;exact HF.ip fun y g=>by simp at g;subst g;exact HF.sc _);refine qc.pure (W0 false (c.ts.preds.take c.calls) _ (fun p=>decide (p.name=nm)) ⟨_,_,_,rfl,fun p hp=>⟨_,qgF p nm,.zk (HF.agg (VQ p)) (.zk (HF.ip fun y g=>by simp at g;subst g;exact HF.sc _) .nil)⟩⟩ zSo) (.zk (wR _) (.zk l .nil)) ?_;simp[go_sem];exact .zsc _
theorem wT{c:Ck}(g:okCk c){nm:ByteArray}{p:Nat}(h:zn c nm=some p):p<c.calls/\p<c.ts.preds.length:=by
 unfold zn at h;rw[List.findIdx?_eq_some_iff_getElem]at h;obtain⟨hp,_⟩:=h;simp at hp;omega
theorem gg(c:Ck)(o:okCk c)(n:Nd):qd qb 298 [eCk c,eNd n] (aB (zL c n.op n.name)):=by
 refine qd.of_sound (qe.of_awp call298 func298 rfl (qh zKr) zKr (pl:={}) ?_);unfold zL yh;by_cases r:n.op=5
 .simp [go_sem,r];exact .zsc _
 by_cases g:n.op=48
 .simp [go_sem,g];exact .zsc _
 by_cases i:n.op=49
 .simp [go_sem,i];exact .zsc _
 by_cases j:n.op=50
 .simp [go_sem,j];exact .zsc _
 by_cases l:n.op=51
 .simp [go_sem,l];exact .zsc _
 by_cases h47:n.op=47
 .simp [go_sem,h47]
  refine qc.pure (ge c o n.name) (.zk (ji c) (.zs .nil)) ?_;cases t:zn c n.name with
  |none =>
   simp[go_sem];exact .zsc _
  |some p =>
   obtain⟨C,J⟩:=wT o t;have I:p<c.timed.length:=ZL C o.timed;simp[go_sem,I];exact .zsc _
 .simp [go_sem,r,g,i,j,l,h47]
  exact .zsc _
theorem gh(c:Ck):∀ ks:List Nd,Zu c ks=ks.any (zX c)
 | []=>rfl
 |k :: ks=>by simp[Zu,gh c ks]
noncomputable abbrev szN(n:Nd):Nat:=SizeOf.sizeOf n
theorem zS{n k:Nd}(h:k∈n.kids):szN k<szN n:=by
 obtain⟨op,nm,i,ks,p⟩:=n;have:SizeOf.sizeOf k<SizeOf.sizeOf ks:=List.sizeOf_lt_of_mem h;simp only[szN,Nd.mk.sizeOf_spec];omega
inductive Small:Nd->Prop where
 |mk (n:Nd) (h:n.kids.length<=1000) (hk:∀ k,k∈n.kids->Small k):Small n
theorem Small.len{n:Nd}(h:Small n):n.kids.length<=1000:=by cases h;assumption
theorem Small.kid{n k:Nd}(h:Small n)(g:k∈n.kids):Small k:=by
 cases h with
 |mk _ _ h=>exact h k g
theorem VT(c:Ck)(n:Nd):zX c n=(zL c n.op n.name||n.kids.any (zX c)):=by
 obtain⟨op,nm,i,ks,p⟩:=n;simp[zX,gh,Nd.op,Nd.name,Nd.kids]
theorem gk(c:Ck)(j:okCk c):∀(m:Nat) (n:Nd),szN n<=m->Small n->qd qb 264 [eCk c,eNd n] (aB (zX c n))
 | 0,n,l,_=>by obtain⟨op,nm,i,ks,p⟩:=n;simp[szN]at l
 |m+1,n,l,o=>by
  refine qd.of_sound (qe.of_awp call264 func264 rfl (qh zKr) zKr (pl:={}) ?_);rw[VT];simp[go_sem];refine qc.pure (gg c j n) (.zk (ji c) (.zk (qz n) .nil)) ?_;cases t:zL c n.op n.name with
  |true =>
   simp[go_sem];exact .zsc _
  |false =>
   simp[go_sem];have g:HF (.fn (.func 264) [eCk c] []):=HF.fn (fun x hx=>by simp at hx;subst hx;exact ji c) zSp;refine qc.pure (hasNd false n.kids _ (zX c) ⟨_,_,_,rfl,fun k r=>⟨_,gk c j m k (zW1 (zS r)) (o.kid r),.zk (ji c) (.zk (qz k) .nil)⟩⟩ g (VH _) (zW1 o.len)) (.zk (VH _) (.zk g .nil)) ?_;simp[go_sem];exact .zsc _
end Y9
end Go.Proofs.YtpagnklaanbmbaaGreatDoor
