/-
  Own library, part 2: an abstract reading of values and a calculus over it; contracts of functions; plain lemmas.
-/
import Derived.TacticsIn
import Derived.Deep.LoopGhost
import Derived.Scope
import Derived.Sort.LoopGhostIn
import Derived.Test.YtpagnklaanbmbaaGreatDoorMa
set_option linter.unusedVariables false
set_option linter.unusedSimpArgs false
set_option maxRecDepth 100000
open Go renaming Program->qb,TypeId->qf,World->qh,Value->zS,Operand->zT,undef->j2,Oper->us,Code->j3,FuncId->j1
open List renaming getElem?_eq_some_iff->qj,mem_map->qp,range->qt,mem_cons->qw,getElem?_append_left->qx,getElem?_eq_getElem->qz,mem_append->qG,all_eq_true->qH,not_mem_nil->qI,mem_singleton->qN,mem_cons_of_mem->qO,mem_cons_self->qU,getElem?_append_right->qV,getD_eq_getElem?_getD->za,append_assoc->zc,getElem?_set_ne->zo,getElem?_set_self->zr,append_nil->zO,mem_range->yk,mem_append_left->yC,cons_append->yD,mem_filter->y9,nodup_cons->jx,ext_getElem?->jy,getElem?_cons_succ->ve,nil_append->vf,mem_iff_getElem->vE,eq_nil_of_length_eq_zero->vH,nodup_append->Zv
open Option.some renaming injEq->qo
open Bool renaming and_eq_true->qr,or_eq_true->jT
open Nat renaming le_refl->qs,lt_of_lt_of_le->VQ
open Array renaming getD_eq_getD_getElem?->qF,getElem?_eq_some_iff->zJ,getElem?_eq_getElem->vM,getElem?_setIfInBounds_ne->XH
open Go.Sem renaming run_bind->qJ,run_pure->zk
open Go.Result renaming andThen_ok->qL
open Option renaming map_some->qW
open List.Nodup renaming length_le_of_subset->jU
open Classical renaming byContradiction->vG
open Go.World renaming putObj_heap_other->vO
open List.cons renaming injEq->u5
namespace Go.Ev
open Go Go.RowKit
section
variable {x:AV}{K:AV->Prop}{h:Array Obj}{g:Array zS}{G:Gh}{xs:List (List AV)}{mu:Mu}{P:qb}{t:qf}{w:qh}
@[go_sem] def ux(P:qb)(op:BinOp)(t:qf)(x y:AV):Option AV:=
 match x,y with
 | .agg g,.agg j=>match YY P t with
  |some n=>if g.length=n then (match op with
   | .eql=>(aEqs g j).map fun b => .sc (.bool b)
   | .neq=>(aEqs g j).map fun b => .sc (.bool !b)
   |_=>none) else none
  |none=>none
 |x,y=>aBin P op t x y
theorem qbK{n:Nat}(h:YY P t=some n):P.eqGuardType P.depth t=false/\((∃ e q,P.underlying t=some (.array n e)/\P.underlying e=some (.int q)/\szOf P e=some 1) \/
  ∃ fs,P.underlying t=some (.struct fs)/\Qi P fs.toList 0=true/\P.stoodInHeld t=false/\fs.size=n):=by
 unfold YY at h;split at h
 .rename_i fs g
  split at h
  .rename_i hf
   simp only[qo]at h;subst h;exact⟨hf.2.2,.inr ⟨fs,g,hf.1,hf.2.1,rfl⟩⟩
  .exact absurd h (by simp)
 .rename_i o e g
  split at h
  .rename_i q i j
   split at h
   .rename_i l
    simp only[qo]at h;subst h;exact⟨l,.inl ⟨e,q,g,i,j⟩⟩
   .exact absurd h (by simp)
  .exact absurd h (by simp)
 .exact absurd h (by simp)
theorem qbL{op:BinOp}{y z:AV}{ox oy:zT}{u v:zS}(p:VRel G w.heap x u)(C:VRel G w.heap y v)(h:ux P op t x y=some z) :
    ∃ r,(do eqGuard op t ox oy u v;binOp op t u v:Sem zS).run P w = .ok r w/\VRel G w.heap z r:=by
  unfold ux at h;split at h
  · rename_i g j
    split at h
    · rename_i n I
      obtain⟨hg,I⟩:=qbK I;split at h
      · rename_i hl
        have l:=p;have o:=C;cases p with
        |agg _ J hn hv =>
        cases C with
        |agg _ R hm hw =>
        have T:(eqGuard op t ox oy (.agg J) (.agg R)).run P w = .ok () w:=run_eqGuard_agg w op t ox oy J R hg;simp only[qJ,T,qL];have heq:∀ b,aEqs g j=some b->(Op.equal t (.agg J) (.agg R)).run P w = .ok b w:=fun b i=>by
          rcases I with ⟨e,q,U,he,hs⟩|⟨fs,U,hf,hp,a0⟩
          · exact X8 (G:=G) 9998 U he hs hl l o i
          · exact qaU (G:=G) 9998 U hf hp (by omega) l o i
        cases op<;>simp only at h<;>first
          | (simp at h;done)
          | (cases i:aEqs g j with
             |none=>simp[i]at h
             |some b =>
               simp only[i,qW,qo]at h;subst h;refine⟨_,?_,.sc _ rfl⟩;simp[binOp,heq b i];done)
      · exact absurd h (by simp)
    · exact absurd h (by simp)
  · exact m8 p C h
def uy:zT->Bool
 | .const (.slice none 0 0)=>true
 |_=>false
def jL(P:qb)(det:Bool)(op:BinOp)(t:qf)(x:AV)(K:AV->Prop):Prop:=
 (qC P t).isSome=true/\(op = .eql\/op = .neq) /\
 match x with
 | .lst _ []=>det=false/\K (.sc (.bool true))/\K (.sc (.bool false))
 | .lst _ (_ :: _) | .sl .. => K (.sc (.bool (decide (op = .neq))))
 |_=>False
theorem qbM(d:Nat){t e:qf}(g:P.underlying t=some (.slice e))(b:Option Addr)(len cap:Nat) :
  (Op.equalIn (d+1) t (.slice b len cap) (.slice none 0 0)).run P w = .ok b.isNone w:=by
 cases b<;>simp[Op.equalIn,run_underlying g]
theorem jL.sound{det:Bool}{op:BinOp}{ox oy:zT}{u:zS}(U:VRel G w.heap x u)(h:jL P det op t x K) :
  ∃ z r,K z/\(do eqGuard op t ox oy u (.slice none 0 0);binOp op t u (.slice none 0 0):Sem zS).run P w = .ok r w/\VRel G w.heap z r:=by
 obtain⟨hs,ho,h⟩:=h;obtain⟨e,hu⟩:∃ e,P.underlying t=some (.slice e):=by
  cases I:qC P t with
  |none=>simp[I]at hs
  |some q=>obtain⟨J,a0,a1⟩:=q;obtain⟨i',l,_⟩:=jW I;exact⟨J,l⟩
 have key:∀(b:Option Addr) (len cap:Nat),u = .slice b len cap->(do eqGuard op t ox oy u (.slice none 0 0);binOp op t u (.slice none 0 0):Sem zS).run P w = .ok (.bool (if op = .neq then b.isSome else b.isNone)) w:=by
  intro b len cap C;subst C;have R:(eqGuard op t ox oy (.slice b len cap) (.slice none 0 0)).run P w = .ok () w:=by
   unfold eqGuard;cases op<;>rfl
  have T:(Op.equal t (.slice b len cap) (.slice none 0 0)).run P w = .ok b.isNone w:=qbM 9999 hu b len cap;rcases ho with rfl|rfl
  .simp [R,binOp,T]
  .cases b<;>simp[R,binOp,T]
 have fin:∀(b:Bool),K (.sc (.bool b))->∀(c:Option Addr) (len cap:Nat),u = .slice c len cap->(if op = .neq then c.isSome else c.isNone)=b ->
   ∃ z r,K z/\(do eqGuard op t ox oy u (.slice none 0 0);binOp op t u (.slice none 0 0):Sem zS).run P w = .ok r w/\VRel G w.heap z r:=
  fun b hk c len cap C e2=>⟨_,_,hk,key c len cap C,by rw[e2];exact .sc _ rfl⟩
 cases U with
 |nil full =>
  obtain⟨_,l,o⟩:=h;by_cases i:op = .neq
  .exact fin false o none 0 0 rfl (by rw[if_pos i];rfl)
  .exact fin true l none 0 0 rfl (by rw[if_neg i];rfl)
 |emp full a cap hc =>
  obtain⟨_,l,o⟩:=h;by_cases i:op = .neq
  .exact fin true l (some a) 0 cap rfl (by rw[if_pos i];rfl)
  .exact fin false o (some a) 0 cap rfl (by rw[if_neg i];rfl)
 |lst full g p a cap cs J fr rd hb a2 hl hc hi hz hr hv =>
  cases g with
  |nil =>
   obtain⟨_,l,o⟩:=h;by_cases i:op = .neq
   .exact fin true l (some a) _ cap rfl (by rw[if_pos i];rfl)
   .exact fin false o (some a) _ cap rfl (by rw[if_neg i];rfl)
  |cons y j =>
   refine fin _ h (some a) _ cap rfl ?_;by_cases i:op = .neq
   .rw [if_pos i];simp[i]
   .rw [if_neg i];simp[i]
 |sl b p off len a3 a4 cap hb ht hl =>
  refine fin _ h (some _) _ cap rfl ?_;by_cases i:op = .neq
  .rw [if_pos i];simp[i]
  .rw [if_neg i];simp[i]
 |_=>exact h.elim
theorem jL.det{op:BinOp}(h:jL P true op t x K):∃ z,K z/\∀ i:AV->Prop,i z->jL P true op t x i:=by
 obtain⟨l,g,h⟩:=h;unfold jL;split at h
 .exact absurd h.1 (by simp)
 .exact ⟨_,h,fun i j=>⟨l,g,j⟩⟩
 .exact ⟨_,h,fun i j=>⟨l,g,j⟩⟩
 .exact h.elim
theorem jL.mono{det:Bool}{op:BinOp}{j:AV->Prop}(h:jL P det op t x K)(g:∀ z,K z->j z):jL P det op t x j:=by
 obtain⟨l,i,h⟩:=h;unfold jL;refine⟨l,i,?_⟩;split at h
 .exact ⟨h.1,g _ h.2.1,g _ h.2.2⟩
 .exact g _ h
 .exact g _ h
 .exact h.elim
theorem qbN{y:zT}(h:uy y=true):y = .const (.slice none 0 0):=by
 unfold uy at h;split at h
 .rfl
 .exact absurd h (by simp)
def WK(x y:AV):Prop:=∀(G:Gh) (h:Array Obj) (v:zS),VRel G h x v->VRel ⟨G.imm,[]⟩ h y v
theorem WK.hf(h:HF x):WK x x:=h
theorem VRel.ro{full:Bool}{v:zS}(r:VRel G h (.lst full xs) v):VRel G h (.lst false xs) v:=by
 cases r with
 |nil=>exact .nil _
 |emp _ a cap g=>exact .emp _ a cap (by simp)
 |lst _ _ p a cap i e j rd l o t g C I J P=>exact .lst _ _ p a cap i e j rd l o t (by simp) C I J P
theorem WK.lst{full:Bool}(h:∀ r,r∈xs->∀ c,c∈r->HF c):WK (.lst full xs) (.lst false xs):=fun G g v r=>VRel.ro (HF.lst h G g v r)
theorem WK.agg{xs ys:List AV}(o:ys.length=xs.length)(h:∀(k:Nat) x y,xs[k]?=some x->ys[k]?=some y->WK x y):WK (.agg xs) (.agg ys):=fun G j v r=>by
 cases r with
 |agg _ p t l =>
  refine .agg _ _ (by omega) (fun k y g=>?_);have C:k<ys.length:=(qj.1 g).1;have i:xs[k]?=some (xs[k]'(by omega)):=by simp[show k<xs.length by omega]
  exact h k _ y i g G j _ (l k _ i)
def WKs:List AV->List AV->Prop
 | [],[]=>True
 |x :: g,y :: j=>WK x y/\WKs g j
 |_,_=>False
theorem WKs.get:∀{xs ys:List AV},WKs xs ys->ys.length=xs.length/\∀(k:Nat) x y,xs[k]?=some x->ys[k]?=some y->WK x y
 | [],[],_=>⟨rfl,by simp⟩
 |x :: xs,y :: ys,⟨h,t⟩=>by
  obtain⟨j,l⟩:=WKs.get t;refine⟨by simp[j],fun k a b g i=>?_⟩;cases k with
  |zero=>simp at g i;subst g;subst i;exact h
  |succ k=>exact l k a b (by simpa using g) (by simpa using i)
 | [],_ :: _,h=>h.elim
 |_ :: _,[],h=>h.elim
theorem WK.aggs{xs ys:List AV}(h:WKs xs ys):WK (.agg xs) (.agg ys) := .agg h.get.1 h.get.2
def Rds(mu:Mu):List AV->List AV->Prop
 | [],[]=>True
 |x :: g,y :: j=>Rd mu x y/\Rds mu g j
 |_,_=>False
theorem Rds.get:∀{xs ys:List AV},Rds mu xs ys->ys.length=xs.length/\∀(k:Nat) x y,xs[k]?=some x->ys[k]?=some y->Rd mu x y
 | [],[],_=>⟨rfl,by simp⟩
 |x :: xs,y :: ys,⟨h,t⟩=>by
  obtain⟨j,l⟩:=Rds.get t;refine⟨by simp[j],fun k a b g i=>?_⟩;cases k with
  |zero=>simp at g i;subst g;subst i;exact h
  |succ k=>exact l k a b (by simpa using g) (by simpa using i)
 | [],_ :: _,h=>h.elim
 |_ :: _,[],h=>h.elim
def MuLe(mu l:Mu):Prop:=∀(b:Nat) c,mu[b]?=some c->l[b]?=some c
theorem MuLe.push(mu:Mu)(c:Cell):MuLe mu (mu++[c]):=fun b x h=>by rw[qx (qj.1 h).1];exact h
theorem MuLe.trans{a b c:Mu}(g:MuLe a b)(j:MuLe b c):MuLe a c:=fun i x h=>j i x (g i x h)
def ZO(P:qb)(mu:Mu)(f:AV)(args:List AV)(v:AV):Prop:=
 (∃ g first j i,f = .fn (.func g) first j/\qe P g i v/\(WKs (first++args++j) i\/(Rds mu (first++args++j) i/\FL v))) \/
 ∃ g first j i,f = .fn (.func g) first j/\qaP P g i v/\Rds mu (first++args++j) i
def wd(P:qb)(i:Nat)(args:List AV)(mu:Mu)(R:Bool->Mu->Prop):Prop:=
 ∀(G:Gh) (w:qh) (r:Array zS),Sim G mu w.heap->zC G w.heap args r->∀(l p:Nat),G.blk[i]?=some (l,p) ->
  ∃ fn g assign j,(Instr.yield l r).run P w = .ok (.round l fn g assign j) w /\
   RoundIn Fence.wide 0 P l fn g assign j w fun e t=>∃ b C o,e = .returned (.bool b)/\Stp G mu w C o t/\R b o
def qd(P:qb)(det:Bool)(mu:Mu)(f:AV)(args:List AV)(K o:AV->Mu->Prop):Prop:=
 (∃ v,ZO P mu f args v/\K v mu) \/
 (det=false/\((∃ g first j R,f = .fn (.func g) first j/\qP P g (first++args++j) mu R/\(∀ r l,R (.ret r) l->K r l)/\(∀ r l,R (.pan r) l->o r l)) \/
  ∃ i R,f = .yl i/\wd P i args mu R/\∀ b l,R b l->K (.sc (.bool b)) l))
def OptK{C:Type}(o:Option C)(k:C->Prop):Prop:=∃ v,o=some v/\k v
@[go_sem] def lenA(P:qb)(mu:Mu)(t:qf):AV->Option AV
 | .lst _ g=>if (qC P t).isSome then some (.sc (.int .i64 g.length)) else none
 | .sl _ _ _ len=>if (qC P t).isSome then some (.sc (.int .i64 len)) else none
 | .sc (.string s)=>match P.underlying t with|some .string=>some (.sc (.int .i64 s.size))|_=>none
 | .im T=>match P.underlying t with|some (.map _ _)=>some (.sc (.int .i64 T.length))|_=>none
 | .ims T=>match P.underlying t with|some (.map _ _)=>some (.sc (.int .i64 T.length))|_=>none
 | .mp b=>match P.underlying t,mu[b]? with|some (.map _ _),some (.mp T)=>some (.sc (.int .i64 T.length))|_,_=>none
 |_=>none
@[go_sem] def minA:AV->AV->Option AV
 | .sc (.int k x),.sc (.int _ y)=>some (.sc (.int k (if y<x then y else x)))
 |_,_=>none
@[go_sem] def maxA:AV->AV->Option AV
 | .sc (.int k x),.sc (.int _ y)=>some (.sc (.int k (if y > x then y else x)))
 |_,_=>none
@[go_sem] def jX(P:qb)(mu:Mu)(b:Builtin)(i:Array qf)(args:List AV):Option AV:=
 match b,args,i[0]? with
 | .len,[x],some t=>lenA P mu t x
 | .cap,[.lst true g],some t=>if (qC P t).isSome then some (.sc (.int .i64 g.length)) else none
 | .min,[x,y],_=>minA x y
 | .max,[x,y],_=>maxA x y
 |_,_,_=>none
theorem Ue(h:(qC P t).isSome=true):∃ e,P.underlying t=some (.slice e):=by
 cases g:qC P t with
 |none=>simp[g]at h
 |some q=>obtain⟨i,j,l⟩:=q;obtain⟨p,o,_⟩:=jW g;exact⟨i,o⟩
theorem zC.one_inv(r:zC G h [x] g):∃ v,g=#[v]/\VRel G h x v:=by
 obtain⟨l,o⟩:=r;have:=o 0 x rfl;refine⟨g.getD 0 j2,?_,this⟩;have j:g.size=1:=by simpa using l
 apply Array.ext
 .simpa using j
 .intro i p t
  have:i=0:=by omega
  subst this;simp[qF,p]
theorem zC.two_inv{y:AV}(r:zC G h [x,y] g):∃ u v,g=#[u,v]/\VRel G h x u/\VRel G h y v:=by
 obtain⟨o,l⟩:=r;have a:=l 0 x rfl;have b:=l 1 y rfl;refine⟨g.getD 0 j2,g.getD 1 j2,?_,a,b⟩;have j:g.size=2:=by simpa using o
 apply Array.ext
 .simpa using j
 .intro i p t
  have:i=0\/i=1:=by omega
  rcases this with rfl|rfl<;>simp[qF,p]
theorem qbO(s:Sim G mu w.heap){t ty:qf}{x z:AV}{v:zS}(r:VRel G w.heap x v)(h:lenA P mu t x=some z)(l:Array qf)(j:l[0]?=some t) :
  ∃ u,(Builtin.len_ l ty #[v]).run P w = .ok u w/\VRel G w.heap z u:=by
 unfold lenA at h;split at h
 .split at h
  .rename_i C
   simp only[qo]at h;subst h;obtain⟨e,i⟩:=Ue C;obtain⟨a,cap,rfl,_⟩:=r.lst_inv;exact⟨_,by simp[Builtin.len_,j,run_underlying i,goInt],.sc _ rfl⟩
  .exact absurd h (by simp)
 .split at h
  .rename_i C
   simp only[qo]at h;subst h;obtain⟨e,i⟩:=Ue C;cases r;exact⟨_,by simp[Builtin.len_,j,run_underlying i,goInt],.sc _ rfl⟩
  .exact absurd h (by simp)
 .split at h
  .rename_i i
   simp only[qo]at h;subst h;cases r;exact⟨_,by simp[Builtin.len_,j,run_underlying i,goInt],.sc _ rfl⟩
  .exact absurd h (by simp)
 .split at h
  .rename_i i
   simp only[qo]at h;subst h;cases r with
   |im _ g ce clock o R I U hv hd =>
   have p:(getObj g).run P w = .ok (.map ce clock) w:=by simp[getObj,Sem.run,o]
   exact⟨_,by simp[Builtin.len_,j,run_underlying i,goInt,p,I],.sc _ rfl⟩
  .exact absurd h (by simp)
 .split at h
  .rename_i i
   simp only[qo]at h;subst h;cases r with
   |ims _ a0 σ τ _ hp hd r =>
   cases r with
   |im _ g ce clock o R I U hv a1 =>
   have p:(getObj g).run P w = .ok (.map ce clock) w:=by simp[getObj,Sem.run,o]
   exact⟨_,by simp[Builtin.len_,j,run_underlying i,goInt,p,I,hp.1],.sc _ rfl⟩
  .exact absurd h (by simp)
 .split at h
  .rename_i T i hm
   simp only[qo]at h;subst h;cases r with
   |mp _ g J o =>
   obtain⟨ce,cl,h1,h2,_⟩:=s.mp _ T g J hm o;have p:(getObj g).run P w = .ok (.map ce cl) w:=by simp[getObj,Sem.run,h1]
   exact⟨_,by simp[Builtin.len_,j,run_underlying i,goInt,p,h2],.sc _ rfl⟩
  .exact absurd h (by simp)
 .exact absurd h (by simp)
theorem qbP(s:Sim G mu w.heap){b:Builtin}{g:Array qf}{ty:qf}{cs:Array Bool}{args:List AV}{o:Array zS}{z:AV}(r:zC G w.heap args o)
  (h:jX P mu b g args=some z):∃ u,(builtin b g ty cs o).run P w = .ok (.value u) w/\VRel G w.heap z u:=by
 unfold jX at h;split at h
 .rename_i j
  obtain⟨v,rfl,i⟩:=r.one_inv;obtain⟨u,p,t⟩:=qbO s i h g j (ty:=ty);exact⟨u,by simp[builtin,p],t⟩
 .rename_i j
  obtain⟨v,rfl,i⟩:=r.one_inv;split at h
  .rename_i C
   simp only[qo]at h;subst h;obtain⟨e,I⟩:=Ue C;obtain⟨a,cap,rfl,_,J,_⟩:=i.lst_inv;have:=J rfl;subst this;exact⟨_,by simp[builtin,Builtin.cap_,j,run_underlying I,goInt],.sc _ rfl⟩
  .exact absurd h (by simp)
 .obtain ⟨u,v,rfl,l,i⟩:=r.two_inv
  unfold minA at h;split at h
  .simp only[qo]at h;subst h
   cases l;cases i;exact⟨_,by simp[builtin,Builtin.min_,Builtin.min2],.sc _ rfl⟩
  .exact absurd h (by simp)
 .obtain ⟨u,v,rfl,l,i⟩:=r.two_inv
  unfold maxA at h;split at h
  .simp only[qo]at h;subst h
   cases l;cases i;exact⟨_,by simp[builtin,Builtin.max_,Builtin.max2],.sc _ rfl⟩
  .exact absurd h (by simp)
 .exact absurd h (by simp)
end
end Go.Ev
namespace Go.Ev
open Go Go.RowKit
section
variable {next:Act->qh->Prop}{h:Array Obj}{Q:Exit->Act->qh->Prop}{G:Gh}{P:qb}{w:qh}
@[go_sem] def Jh:AV->Option AV
 | .ip g=>some (.ip g)
 | .ptr b o=>some (.ptr b o)
 | .ifc t x=>some (.ifc t x)
 | .fn (.func f) a b=>some (.fn (.func f) a b)
 |_=>none
@[go_sem] def Ji(i:Nat):AV->Option AV
 | .tup g=>g[i]?
 |_=>none
def ZP(P:qb)(t:qf):Bool:=match P.underlying t with|some (.interface _)=>false|some _=>true|none=>false
@[go_sem] def Jj(P:qb)(t:qf)(ok:Bool)(x:AV):Option AV:=
 if ZP P t=true then
  match x with
  | .ifc u v=>if u=t then some (if ok then .tup [v,.sc (.bool true)] else v) else if ok then (qB P t).map fun z => .tup [z,.sc (.bool false)] else none
  | .sc .nilIface=>if ok then (qB P t).map fun z => .tup [z,.sc (.bool false)] else none
  |_=>none
 else none
@[go_sem] def Uf(P:qb)(t:qf)(x:AV):Prop:=
 match x with
 | .lst _ g=>∃ e p i,qC P t=some (e,p,i)/\z6 p g
 |_=>True
def yL(P:qb)(t:qf):Bool:=match qB P t with|some z=>z.cells.all AV.one|none=>false
def evs(ev:zT->AV)(l:List zT):List AV:=l.map ev
def wJ(P:qb)(mu:Mu)(b:Builtin)(g:Array qf)(args:List AV)(K:AV->Mu->Prop):Prop:=∃ z m,ExtB P mu b g args z m/\K z m
def qA(P:qb)(pl:Pol)(det:Bool)(g:Option Tmp)(op:Op)(ev:zT->AV)(mu:Mu)(K C:AV->Mu->Prop):Prop:=
 match op with
 | .move x | .assign x=>K (ev x) mu
 | .pick c a b=>∃ t,ev c = .sc (.bool t)/\K (if t then ev a else ev b) mu
 | .alloc e=>OptK (qB P e) fun z=>z.cells.all AV.one=true/\K (.ptr mu.length 0) (mu++[.arr z.cells])
 | .box e x=>(ev x).cells.all AV.one=true/\(if (g.any pl.mt.contains)=true then K (.ptr mu.length 0) (mu++[.arr (ev x).cells]) else K (.ip (ev x).cells) mu)
 | .build t o=>yL P t=true/\OptK (ZE P t (o.toList.map fun p=>(p.1,ev p.2))) fun z=>K z mu
 | .buildSlice t n o=>OptK (ZH P t n (o.toList.map fun p=>(p.1,ev p.2))) fun z=>K z mu
 | .load t a=>OptK (vP P mu t (ev a)) fun z=>K z mu
 | .store t a x=>OptK (Zw P mu t (ev a) (ev x)) fun m=>K (.sc j2) m
 | .nilCheck x=>OptK (Jh (ev x)) fun z=>K z mu
 | .binOp op t x y _=>if uy y=true then jL P det op t (ev x) (fun z=>K z mu) else OptK (ux P op t (ev x) (ev y)) fun z=>K z mu
 | .unOp op _ x=>OptK (aUn op (ev x)) fun z=>K z mu
 | .convert src g x=>(P.underlying src).isSome=true/\OptK (Zx P src g (ev x)) fun z=>K z mu
 | .makeInterface t x=>ZP P t=true/\K (.ifc t (ev x)) mu
 | .makeFunc f first j=>K (.fn f (evs ev first.toList) (evs ev j.toList)) mu
 | .makeSlice t l c=>OptK (Qm P mu t (ev l) (ev c)) fun z=>K z.1 z.2
 | .slice t x I J R=>Uf P t (ev x)/\OptK (ZC P t (ev x) (I.map ev) (J.map ev) (R.map ev)) fun z=>K z mu
 | .fieldAddr s x f=>OptK (Zy P s f (ev x)) fun z=>K z mu
 | .field t x f=>OptK (ZA P t f (ev x)) fun z=>K z mu
 | .indexAddr t x i=>OptK (Zz P t (ev x) (ev i)) fun z=>K z mu
 | .index t x i=>OptK (ZB P t (ev x) (ev i)) fun z=>K z mu
 | .extract t i=>OptK (Ji i (ev t)) fun z=>K z mu
 | .typeAssert x _ t ok=>OptK (Jj P t ok (ev x)) fun z=>K z mu
 | .makeMap _ r=>r=none/\K (.mp mu.length) (mu++[.mp []])
 | .lookup t m k ok=>OptK (yK P mu t (ev m) (ev k) ok) fun z=>K z mu
 | .mapUpdate t m k v=>OptK (vR P mu t (ev m) (ev k) (ev v)) fun m=>K (.sc j2) m
 | .insert t m k v=>OptK (vR P mu t (ev m) (ev k) (ev v)) fun m=>K (.sc j2) m
 | .mapEntry t m k=>OptK (wH P mu t (ev m) (ev k)) fun z=>K z.1 z.2
 | .entryStore _ m s v=>OptK (Jf mu (ev m) (ev s) (ev v)) fun m=>K (.sc j2) m
 | .range t m=>OptK (Jg P mu t (ev m)) fun z=>K z.1 z.2
 | .next i str=>det=false/\str=false/\Ud mu (ev i) K
 | .entry i=>OptK (wI mu (ev i)) fun z=>K z mu
 | .panic x=>det=false/\∃ t v,ev x = .ifc t v/\C (.ifc t v) mu
 | .call c=>match c.callee with
  | .value f=>qd P det mu (ev f) (evs ev c.args.toList) K C
  | .builtin b=>match b with
   | .append=>∃ s x,evs ev c.args.toList=[s,x]/\qD P mu c.argTypes s x K
   | .copy=>wJ P mu .copy c.argTypes (evs ev c.args.toList) K
   | .delete=>wJ P mu .delete c.argTypes (evs ev c.args.toList) K
   | .clear=>wJ P mu .clear c.argTypes (evs ev c.args.toList) K
   |b=>OptK (jX P mu b c.argTypes (evs ev c.args.toList)) fun z=>K z mu
  | .invoke _ _=>False
 |_=>False
theorem qbQ{o:us}{a:Act}{s:Sem zS}{u:zS}{w':qh}(g:s.run P w = .ok u w')(i:next (a.put o.dst u) w') :
  o.upon P a next Q ((do pure (Next.value (<-s)):Sem Next).run P w):=by
 simp only[qJ,g,qL,zk,Oper.upon];exact i
theorem Jk{o:us}{a:Act}{s:Sem Unit}{w':qh}(g:s.run P w = .ok () w')(i:next (a.put o.dst j2) w') :
  o.upon P a next Q ((do s;pure Next.skip:Sem Next).run P w):=by
 simp only[qJ,g,qL,zk,Oper.upon];exact i
theorem uz{ev:zT->AV}{g:zT->zS}(i:∀ x,VRel G h (ev x) (g x))(l:Array zT):zC G h (evs ev l.toList) (l.map g):=by
 refine⟨by simp[evs],fun k x j=>?_⟩;simp only[evs,List.getElem?_map,Option.map_eq_some_iff,Array.getElem?_toList]at j;obtain⟨y,o,rfl⟩:=j;have:(l.map g).getD k j2=g y:=by simp[qF,o]
 rw[this];exact i y
theorem Kn{ev:zT->AV}{i:zT->zS}(g:∀ x,VRel G h (ev x) (i x))(l:Array (Nat×zT)) :
  ZD G h (l.toList.map fun p=>(p.1,ev p.2)) ((l.map fun (x:Nat×zT)=>(x.1,i x.2)).toList):=by
 rw[Array.toList_map];induction l.toList with
 |nil=>trivial
 |cons p o j=>exact⟨rfl,g _,j⟩
theorem zC.append3{xs ys zs:List AV}{a b c:Array zS}(j:zC G h xs a)(l:zC G h ys b)(o:zC G h zs c):zC G h (xs++ys++zs) (a++b++c):=by
 obtain⟨i,g1⟩:=j;obtain⟨l2,p⟩:=l;obtain⟨r,t⟩:=o;refine⟨by simp[i,l2,r],fun k x g=>?_⟩;simp only[qF]at *
 by_cases C:k<xs.length
 .rw [zc,qx C]at g
  rw[Array.append_assoc,Array.getElem?_append_left (by omega)];exact g1 k x g
 .by_cases J:k<xs.length+ys.length
  .rw [qx (by simp;omega),qV (by omega)]at g
   rw[Array.getElem?_append_left (by simp;omega),Array.getElem?_append_right (by omega),i];exact p _ x g
  .rw [qV (by simp;omega)]at g
   rw[Array.getElem?_append_right (by simp;omega)];have I:(xs++ys).length=(a++b).size:=by simp[i,l2]
   rw[I]at g;exact t _ x g
theorem Ko{mu:Mu}(s:Sim G mu w.heap){f:AV}{args:List AV}{v:AV}{fv:zS}{vs:Array zS}(rf:VRel G w.heap f fv)(ra:zC G w.heap args vs)
  (h:ZO P mu f args v):∃ g first caps,fv = .func (.func g) first caps/\ym P g/\Calls P g (first++vs++caps) w fun e w'=>∃ G' u,e = .returned u/\Stp G mu w G' mu w'/\VRel G' w'.heap v u:=by
 have step:∀(U l:Nat->Prop) (w':qh),(∀ b,G.imm b->U b)->(∀ b,l b->b<w'.heap.size/\(U b\/w.heap.size<=b))->ZJ w.heap.size w w'->(∀ b,U b->G.imm b\/Live G mu b) ->
   Stp G mu w ⟨fun b=>G.imm b\/(l b/\w.heap.size<=b),G.blk⟩ mu w':=by
  intro U l w' h1 T r h3;have a1:G.le ⟨fun b=>G.imm b\/(l b/\w.heap.size<=b),G.blk⟩:=⟨fun b h => .inl h,fun _ _ h=>h⟩;have he:Ext G w.heap w'.heap:=⟨r.size,fun b p=>r.block b (s.imm b p)⟩;have key:∀ b,Live G mu b->w'.heap[b]?=w.heap[b]?:=fun b hl=>r.block b (s.livesize hl)
  refine⟨a1,⟨s.len,?_,?_,?_,s.inj,s.tab.mono a1.imm (fun b p=>r.block b (s.imm b p))⟩,fun b a2 _=>r.block b a2,r.size,fun b h => .inl h,fun b h=>h.elim .inl (fun e => .inr (.inr e.2)),r.tape,r.os,r.output,r.drawn⟩
  .intro b p
   rcases p with p|p
   .exact VQ (s.imm b p) r.size
   .exact (T b p.1).1
  .intro i c a0 I hc hd hk
   obtain⟨o',g1,g2⟩:=s.obj i c a0 I hc hd hk;exact⟨o',by rw[key a0 ⟨i,_,I,hc,hd,hk⟩];exact g1,g2.mono a1 he⟩
  .intro i c a0 I hc hd hk p
   rcases p with p|p
   .exact s.live i c a0 I hc hd hk p
   .have:=s.livesize ⟨i,c,I,hc,hd,hk⟩;omega
 rcases h with h|⟨g,fi,ca,j,rfl,⟨J,hs⟩,h⟩
 case inr =>
  cases rf with
  |fn _ _ _ t C hn hm hv hw =>
  refine⟨g,t,C,rfl,J,?_⟩;have o:=zC.append3 (G:=G) (h:=w.heap) ⟨hn,hv⟩ ra ⟨hm,hw⟩;obtain⟨hl,hg⟩:=h.get;have R:zC ⟨fun b=>G.imm b\/Live G mu b,[]⟩ w.heap j (t++vs++C):=by
   refine⟨by rw[o.1,hl],fun k y hy=>?_⟩;have hk:k<j.length:=(qj.1 hy).1;have hx:(fi++args++ca)[k]?=some ((fi++args++ca)[k]'(by omega)):=by rw[qz]
   exact(hg k _ y hx hy).sound s (o.2 k _ hx)
  refine(hs _ w _ (s.all) R).mono fun e w' ⟨nw,u,he,T,r,hr⟩=>?_
  have st:=step (fun b=>G.imm b\/Live G mu b) nw w' (fun b h => .inl h) (fun b h=>⟨(T b h).2,.inr (T b h).1⟩) r (fun b h=>h);refine⟨_,u,he,st,hr.le (G':=⟨fun b=>G.imm b\/(nw b/\w.heap.size<=b),G.blk⟩) ⟨fun b p => .inr ⟨p,(T b p).1⟩,fun i x h=>by simp at h⟩⟩
 obtain⟨g,fi,ca,j,rfl,⟨J,hs⟩,h⟩:=h;cases rf with
 |fn _ _ _ t C hn hm hv hw =>
 refine⟨g,t,C,rfl,J,?_⟩;have o:=zC.append3 (G:=G) (h:=w.heap) ⟨hn,hv⟩ ra ⟨hm,hw⟩;rcases h with h|⟨h,a3⟩
 .obtain ⟨hl,hg⟩:=h.get
  have R:zC ⟨G.imm,[]⟩ w.heap j (t++vs++C):=by
   refine⟨by rw[o.1,hl],fun k y hy=>?_⟩;have hk:k<j.length:=(qj.1 hy).1;have hx:(fi++args++ca)[k]?=some ((fi++args++ca)[k]'(by omega)):=by rw[qz]
   exact hg k _ y hx hy G w.heap _ (o.2 k _ hx)
  refine(hs G.imm w _ s.bare R).mono fun e w' ⟨l,u,he,h1,T,r,hr⟩=>?_
  have st:=step G.imm l w' (fun b h=>h) T r (fun b h => .inl h);refine⟨_,u,he,st,?_⟩;refine hr.le ⟨fun b p=>?_,fun i x h=>by simp at h⟩;rcases (T b p).2 with h|h
  .exact .inl h
  .exact .inr ⟨p,h⟩
 .obtain ⟨hl,hg⟩:=h.get
  have R:zC ⟨fun b=>G.imm b\/Live G mu b,[]⟩ w.heap j (t++vs++C):=by
   refine⟨by rw[o.1,hl],fun k y hy=>?_⟩;have hk:k<j.length:=(qj.1 hy).1;have hx:(fi++args++ca)[k]?=some ((fi++args++ca)[k]'(by omega)):=by rw[qz]
   exact(hg k _ y hx hy).sound s (o.2 k _ hx)
  refine(hs _ w _ (s.all) R).mono fun e w' ⟨l,u,he,h1,T,r,hr⟩=>?_
  have st:=step _ l w' (fun b h => .inl h) T r (fun b h=>h);exact⟨_,u,he,st,a3 _ _ _ _ _ hr⟩
end
end Go.Ev
namespace Go.Ev
open Go Go.RowKit
section
variable {K Kp:AV->Mu->Prop}{a:Act}{G:Gh}{o:us}{P:qb}{w:qh}
theorem qbR{h:Array Obj}{x z:AV}{v:zS}(r:VRel G h x v)(e:Jh x=some z) :
  z=x/\((∃ a,v = .pointer (some a))\/(∃ t u,v = .iface t u)\/(∃ f a b,v = .func (.func f) a b)):=by
 unfold Jh at e;split at e<;>simp only[qo,reduceCtorEq]at e<;>subst e
 .cases r;exact⟨rfl,.inl ⟨_,rfl⟩⟩
 .cases r;exact⟨rfl,.inl ⟨_,rfl⟩⟩
 .cases r;exact⟨rfl,.inr (.inl ⟨_,_,rfl⟩)⟩
 .cases r;exact⟨rfl,.inr (.inr ⟨_,_,_,rfl⟩)⟩
theorem Kq{t:qf}(h:ZP P t=true):∃ d,P.underlying t=some d/\∀ g,d ≠ .interface g:=by
 unfold ZP at h;split at h
 .exact absurd h (by simp)
 .rename_i d i j
  exact⟨d,j,fun g e=>i g e⟩
 .exact absurd h (by simp)
theorem qbS{U t:qf}{ok:Bool}{x z:AV}{v:zS}(r:VRel G w.heap x v)(h:Jj P t ok x=some z) :
  ∃ u,(Instr.typeAssert v U t ok).run P w = .ok u w/\VRel G w.heap z u:=by
 unfold Jj at h;have tup:∀(y:AV) (u:zS) (b:Bool),VRel G w.heap y u->VRel G w.heap (.tup [y,.sc (.bool b)]) (.tuple #[u,.bool b]):=by
  intro y u b ry;refine .tup _ _ rfl (fun k c l=>?_);cases k with
  |zero=>simp at l;subst l;exact ry
  |succ k=>cases k with
   |zero=>simp at l;subst l;exact .sc _ rfl
   |succ k=>simp at l
 split at h
 .rename_i hc
  obtain⟨d,p,C⟩:=Kq hc;have zero:∀ z,qB P t=some z->∃ g,(zeroValue t).run P w = .ok g w/\VRel G w.heap z g:=by
   intro z i;obtain⟨g,o,rfl⟩:=wE i w;exact⟨g,o,.ofV g⟩
  split at h
  .rename_i ut uv
   cases r with
   |ifc _ _ v T =>
   split at h
   .rename_i I
    subst I;simp only[qo]at h;subst h;cases ok
    .refine ⟨v,?_,T⟩
     simp only[Instr.typeAssert,qJ,run_underlying p,qL];cases d<;>first | (exact absurd rfl (C _))|simp
    .refine ⟨.tuple #[v,.bool true],?_,tup _ _ _ T⟩
     simp only[Instr.typeAssert,qJ,run_underlying p,qL];cases d<;>first | (exact absurd rfl (C _))|simp
   .rename_i I
    split at h
    .rename_i j
     subst j;cases i:qB P t with
     |none=>simp[i]at h
     |some J =>
      simp only[i,qW,qo]at h;subst h;obtain⟨g,o,R⟩:=zero J i;refine⟨.tuple #[g,.bool false],?_,tup _ _ _ R⟩;simp only[Instr.typeAssert,qJ,run_underlying p,qL];cases d<;>first | (exact absurd rfl (C _))|simp[I,o]
    .exact absurd h (by simp)
  .cases r
   split at h
   .rename_i j
    subst j;cases i:qB P t with
    |none=>simp[i]at h
    |some J =>
     simp only[i,qW,qo]at h;subst h;obtain⟨g,o,R⟩:=zero J i;refine⟨.tuple #[g,.bool false],?_,tup _ _ _ R⟩;simp only[Instr.typeAssert,qJ,run_underlying p,qL];cases d<;>first | (exact absurd rfl (C _))|simp[o]
   .exact absurd h (by simp)
  .exact absurd h (by simp)
 .exact absurd h (by simp)
def Kr(P:qb)(op:Op)(ev:zT->AV)(mu:Mu)(K:AV->Mu->Prop):Prop:=
 ∃ f args j i R,op = .call { callee := .value f,args,argTypes:=j }/\ev f = .yl i/\wd P i (evs ev args.toList) mu R/\∀ b m,R b m->K (.sc (.bool b)) m
theorem qbT{pl:Pol}{det:Bool}{mu:Mu}{ev:zT->AV}(s:Sim G mu w.heap)(j:∀ x,VRel G w.heap (ev x) (a.eval x))
  (h:qA P pl det o.dst o.op ev mu K Kp) (U:¬Kr P o.op ev mu K) {next:Act->qh->Prop} {Q:Exit->Act->qh->Prop}
  (hK:∀ v T G' w' u,K v T->Stp G mu w G' T w'->VRel G' w'.heap v u->next (a.put o.dst u) w')
  (a3:∀ v T G' w' u,Kp v T->Stp G mu w G' T w'->VRel G' w'.heap v u->Q (.panic [{ v:=u,recovered:=false }]) a w'):o.wp P a w next Q:=by
 obtain⟨dst,op,ty,pos,after,guard⟩:=o;simp only at h hK a3 U;have J:∀{c:Sem zS} {x:AV} {T:Mu},Good P G mu w c x T->K x T->∀{o':us},o'.dst=dst->o'.upon P a next Q ((do pure (Next.value (<-c)):Sem Next).run P w):=by
  intro c x T ⟨u,w',G',h1,h2,h3⟩ p o' ho;exact qbQ h1 (by rw[ho];exact hK _ _ _ _ _ p h2 h3)
 have quiet:∀{c:Sem zS} {x:AV} {u:zS},c.run P w = .ok u w->VRel G w.heap x u->K x mu->∀{o':us},o'.dst=dst->o'.upon P a next Q ((do pure (Next.value (<-c)):Sem Next).run P w):=
  fun h1 h2 p _ ho=>J (Good.quiet s h1 h2) p ho
 unfold Oper.wp;cases op<;>simp only[qA]at h<;>try (exact h.elim)
 case move x=>exact hK _ _ _ _ _ h (Stp.refl s) (j x)
 case assign x=>exact hK _ _ _ _ _ h (Stp.refl s) (j x)
 case pick c x y =>
  obtain⟨t,hc,p⟩:=h;have rc:=j c;rw[hc]at rc;have ec:a.eval c = .bool t:=by generalize a.eval c=cv at rc;cases rc;rfl
  simp only[execOp,ec,asBool];refine hK _ _ _ _ _ p (Stp.refl s) ?_;cases t
  .exact j y
  .exact j x
 case alloc e =>
  obtain⟨z,C,h1,p⟩:=h;obtain⟨zv,a8,rfl⟩:=wE C w;obtain⟨G',g1,I,g3⟩:=XX (P:=P) s e (VRel.ofV zv) h1;refine J ⟨_,_,G',?_,I,g3⟩ p rfl;simp only[Instr.alloc,qJ,a8,qL,g1,zk]
 case box e x =>
  obtain⟨h1,p⟩:=h;split at p
  .obtain ⟨G',g1,I,g3⟩:=XX (P:=P) s e (j x) h1
   refine J ⟨_,_,G',?_,I,g3⟩ p rfl;simp only[Instr.box,qJ,qL,g1,zk]
  .obtain ⟨G',g1,I,g3⟩:=qaK (P:=P) s e (j x) h1
   refine J ⟨_,_,G',?_,I,g3⟩ p rfl;simp only[Instr.box,qJ,qL,g1,zk]
 case build t ps =>
  obtain⟨h1,z,C,p⟩:=h;obtain⟨u,g1,I⟩:=qaJ (P:=P) (w:=w) (Kn j ps) (fun y U=>by unfold yL at h1;rw[U]at h1;exact h1) C;exact quiet g1 I p rfl
 case buildSlice t n ps =>
  obtain⟨z,C,p⟩:=h;exact J (qaM s (Kn j ps) C) p rfl
 case load t x =>
  obtain⟨z,C,p⟩:=h;obtain⟨ad,u,g0,g1,I⟩:=XK (P:=P) s (j x) C;refine quiet ?_ I p rfl;simp only[Instr.loadAt,g0,Instr.sureAddr,qJ,zk,qL,g1]
 case store t x y =>
  obtain⟨m,hm,p⟩:=h;obtain⟨ad,w',g0,g1,I⟩:=mV (P:=P) s (j x) (j y) hm;refine Jk (w':=w') ?_ ?_
  .simp only[Instr.storeAt,g0,Instr.sureAddr,qJ,zk,qL,g1]
  .exact hK _ _ _ _ _ p I (.sc _ rfl)
 case nilCheck x =>
  obtain⟨z,C,p⟩:=h;obtain⟨rfl,hv⟩:=qbR (j x) C;have:(execOp a.eval { dst,op := .nilCheck x,type:=ty,pos,after,guard }).run P w = .ok (.value (a.eval x)) w:=by
   rcases hv with ⟨ad,hv⟩|⟨t,u,hv⟩|⟨f,b,c,hv⟩<;>simp[execOp,hv]
  rw[this];exact hK _ _ _ _ _ p (Stp.refl s) (j x)
 case binOp op t x y yt =>
  split at h
  .rename_i U
   obtain rfl:=qbN U;obtain⟨z,r,p,g1,I⟩:=jL.sound (ox:=x) (oy := .const (.slice none 0 0)) (j x) h;exact quiet g1 I p rfl
  obtain⟨z,C,p⟩:=h;obtain⟨u,g1,I⟩:=qbL (P:=P) (ox:=x) (oy:=y) (j x) (j y) C;exact quiet g1 I p rfl
 case unOp op t x =>
  obtain⟨z,C,p⟩:=h;obtain⟨u,g1,I⟩:=m9 (P:=P) (j x) C;exact quiet g1 I p rfl
 case convert src af x =>
  obtain⟨h1,z,C,p⟩:=h;obtain⟨u,g1,I⟩:=qaA (P:=P) (src:=src) (j x) (Option.isSome_iff_exists.1 h1) C;exact quiet g1 I p rfl
 case makeInterface t x =>
  obtain⟨h1,p⟩:=h;obtain⟨d,hu,hd⟩:=Kq h1;refine quiet (u := .iface t (a.eval x)) ?_ (.ifc t _ _ (j x)) p rfl;simp only[Instr.makeInterface,qJ,run_underlying hu,qL];cases d<;>first | (exact absurd rfl (hd _))|simp
 case makeFunc f first a2 =>
  refine quiet (u := .func f (first.map a.eval) (a2.map a.eval)) rfl ?_ h rfl;have r1:=uz j first;have r2:=uz j a2;exact .fn f _ _ _ _ r1.1 r2.1 r1.2 r2.2
 case makeSlice t l c =>
  obtain⟨z,C,p⟩:=h;exact J (qaN s (j l) (j c) C) p rfl
 case slice t x lo hi mx =>
  obtain⟨hr,z,C,p⟩:=h;obtain⟨u,g1,I⟩:=qaF (P:=P) (w:=w) (vlo:=lo.map a.eval) (vhi:=hi.map a.eval) (vmx:=mx.map a.eval) (j x)
   (fun y U=>by cases lo with|none=>simp at U|some q=>simp at U;subst U;exact⟨_,rfl,j q⟩) (fun h=>by cases lo with|none=>rfl|some q=>simp at h)
   (fun y U=>by cases hi with|none=>simp at U|some q=>simp at U;subst U;exact⟨_,rfl,j q⟩) (fun h=>by cases hi with|none=>rfl|some q=>simp at h)
   (fun y U=>by cases mx with|none=>simp at U|some q=>simp at U;subst U;exact⟨_,rfl,j q⟩) (fun h=>by cases mx with|none=>rfl|some q=>simp at h)
   (fun full xs e=>by rw[e]at hr;exact hr) C
  exact quiet g1 I p rfl
 case fieldAddr t x f =>
  obtain⟨z,C,p⟩:=h;obtain⟨u,g1,I⟩:=qaB (P:=P) (j x) C;exact quiet g1 I p rfl
 case field t x f =>
  obtain⟨z,C,p⟩:=h;obtain⟨u,g1,I⟩:=qaD (P:=P) (j x) C;exact quiet g1 I p rfl
 case indexAddr t x i =>
  obtain⟨z,C,p⟩:=h;obtain⟨u,g1,I⟩:=qaC (P:=P) (j x) (j i) C;exact quiet g1 I p rfl
 case index t x i =>
  obtain⟨z,C,p⟩:=h;obtain⟨u,g1,I⟩:=qaE (P:=P) (j x) (j i) C;exact quiet g1 I p rfl
 case extract t i =>
  obtain⟨z,C,p⟩:=h;have rt:=j t;unfold Ji at C;split at C
  .rename_i cs e
   rw[e]at rt;generalize hq:a.eval t=tv at rt;cases rt with
   |tup _ vs hn hv =>
   have aj:i<cs.length:=(qj.1 C).1;have a9:i<vs.size:=by omega
   refine quiet (u:=vs.getD i j2) ?_ (hv i z C) p rfl;simp[hq,Instr.extract,a9,qF]
  .exact absurd C (by simp)
 case typeAssert x xt t ok =>
  obtain⟨z,C,p⟩:=h;obtain⟨u,g1,I⟩:=qbS (P:=P) (j x) C;exact quiet g1 I p rfl
 case makeMap t r =>
  obtain⟨rfl,p⟩:=h;exact J (qbD (P:=P) (t:=t) s) p rfl
 case lookup t m k ok =>
  obtain⟨z,C,p⟩:=h;obtain⟨u,g1,I⟩:=qa2 (P:=P) s (j m) (j k) C;exact quiet g1 I p rfl
 case mapUpdate t m k v =>
  obtain⟨m',hm,p⟩:=h;obtain⟨w',g1,I⟩:=Kk (P:=P) s (j m) (j k) (j v) hm;exact Jk (w':=w') g1 (hK _ _ _ _ _ p I (.sc _ rfl))
 case insert t m k v =>
  obtain⟨m',hm,p⟩:=h;obtain⟨w',g1,I⟩:=Kk (P:=P) s (j m) (j k) (j v) hm;exact Jk (w':=w') g1 (hK _ _ _ _ _ p I (.sc _ rfl))
 case mapEntry t m k =>
  obtain⟨z,C,p⟩:=h;exact J (qbB s (j m) (j k) C) p rfl
 case entryStore t m st v =>
  obtain⟨m',hm,p⟩:=h;obtain⟨w',g1,I⟩:=qbC (P:=P) (t:=t) s (j m) (j st) (j v) hm;exact Jk (w':=w') g1 (hK _ _ _ _ _ p I (.sc _ rfl))
 case range t m =>
  obtain⟨z,C,p⟩:=h;exact J (qbE s (j m) C) p rfl
 case next i str =>
  obtain⟨_,rfl,hn⟩:=h;obtain⟨z,T,p,hg⟩:=qbF (P:=P) (ty:=ty) s (j i) hn;exact J hg p rfl
 case entry i =>
  obtain⟨z,C,p⟩:=h;obtain⟨u,g1,I⟩:=qbG (P:=P) s (j i) C;exact quiet g1 I p rfl
 case panic x =>
  obtain⟨_,t,v,hx,p⟩:=h;have rx:=j x;rw[hx]at rx;generalize hq:a.eval x=xv at rx;cases rx with
  |ifc _ _ u hu =>
  simp only[execOp,hq,Instr.panic];exact a3 _ _ _ _ _ p (Stp.refl s) (.ifc t v u hu)
 case call c =>
  obtain⟨callee,args,argTypes⟩:=c;simp only at h;cases callee with
  |invoke r m=>exact h.elim
  |builtin b =>
   have fin:∀ z,jX P mu b argTypes (evs ev args.toList)=some z->K z mu->Oper.upon P { dst,op := .call { callee := .builtin b,args,argTypes },type:=ty,pos,after,guard } a next Q
     ((execOp a.eval { dst,op := .call { callee := .builtin b,args,argTypes },type:=ty,pos,after,guard }).run P w):=by
    intro z C p;obtain⟨u,g1,I⟩:=qbP (P:=P) (ty:=ty) (cs:=args.map fun | .const _=>true|_=>false) s (uz j args) C;have:(execOp a.eval { dst,op := .call { callee := .builtin b,args,argTypes },type:=ty,pos,after,guard }).run P w = .ok (.value u) w:=by
     simp only[execOp,resolve,qJ,zk,qL,invoke];exact g1
    rw[this];exact hK _ _ _ _ _ p (Stp.refl s) I
   have aa:wJ P mu b argTypes (evs ev args.toList) K->Oper.upon P { dst,op := .call { callee := .builtin b,args,argTypes },type:=ty,pos,after,guard } a next Q
     ((execOp a.eval { dst,op := .call { callee := .builtin b,args,argTypes },type:=ty,pos,after,guard }).run P w):=by
    intro⟨z,m,C,p⟩;have ra:=uz j args;obtain⟨u,w',g1,I,g3⟩:=qbI (P:=P) (ty:=ty) (cs:=args.map fun | .const _=>true|_=>false) s ra.1 ra.2 C;have:(execOp a.eval { dst,op := .call { callee := .builtin b,args,argTypes },type:=ty,pos,after,guard }).run P w = .ok (.value u) w':=by
     simp only[execOp,resolve,qJ,zk,qL,invoke];exact g1
    rw[this];exact hK _ _ _ _ _ p I g3
   cases b<;>simp only at h<;>try (first|exact aa h | (obtain⟨z,C,p⟩:=h;exact fin z C p))
   obtain⟨sv,xv,hl,ab⟩:=h;have ra:=uz j args;rw[hl]at ra;obtain⟨u,v,e1,ru,rv⟩:=ra.two_inv;obtain⟨z,T,p,v',w',G',g1,I,g3⟩:=qaR (ty:=ty) s ru rv ab;have:(execOp a.eval { dst,op := .call { callee := .builtin .append,args,argTypes },type:=ty,pos,after,guard }).run P w = .ok (.value v') w':=by
    simp only[execOp,resolve,qJ,zk,qL,invoke,builtin,e1,g1]
   rw[this];exact hK _ _ _ _ _ p I g3
  |value f =>
   rcases h with ⟨v,hp,p⟩|⟨_,⟨g,fi,ca,R,hf,hs,hr,ae⟩|⟨i,R,hf,hs,p⟩⟩
   .obtain ⟨g,a5,a6,e1,a0,hc⟩:=Ko s (j f) (uz j args) hp
    have:(execOp a.eval { dst,op := .call { callee := .value f,args,argTypes },type:=ty,pos,after,guard }).run P w = .ok (.enter g (a5++args.map a.eval++a6)) w:=by
     simp only[execOp,resolve,qJ,zk,qL,e1,Deferred.ofValue,invoke,a0 _ w]
    rw[this];refine hc.mono fun e w' ⟨G',u,he,a1,hu⟩=>?_
    subst he;exact hK _ _ _ _ _ p a1 hu
   .have rf:=j f
    rw[hf]at rf;generalize hq:a.eval f=fv at rf;cases rf with
    |fn _ _ _ a5 a6 hn hm hv hw =>
    obtain⟨a0,hs⟩:=hs;have:(execOp a.eval { dst,op := .call { callee := .value f,args,argTypes },type:=ty,pos,after,guard }).run P w = .ok (.enter g (a5++args.map a.eval++a6)) w:=by
     simp only[execOp,resolve,qJ,zk,qL,hq,Deferred.ofValue,invoke,a0 _ w]
    rw[this];refine(hs G w _ s (zC.append3 ⟨hn,hv⟩ (uz j args) ⟨hm,hw⟩)).mono fun e w' ⟨G',T,a1,h⟩=>?_
    rcases h with ⟨r,v,hR,rfl,a7⟩|⟨r,v,hR,rfl,a7⟩
    .exact hK _ _ _ _ _ (hr r T hR) a1 a7
    .exact a3 _ _ _ _ _ (ae r T hR) a1 a7
   .exact (U ⟨f,args,argTypes,i,R,rfl,hf,hs,p⟩).elim
structure Ro where
 rd:Option Nat
 dl:List Deferred
 mks:Bool
 kp:List (AV×zS)
def Ro.fn:Ro:=⟨none,[],true,[]⟩
def Ro.round(l:Nat):Ro:=⟨some l,[],true,[]⟩
def WF(ro:Ro):Fence:={ Fence.wide with round:=ro.rd }
theorem Ks{ro:Ro}{next:Act->qh->Prop}{Q:Exit->Act->qh->Prop}{g:Result Next}(h:o.upon P a next Q g):o.uponIn (WF ro) 0 P a next Q g:=by
 have j:((WF ro).depth.isSome=true->1<=0):=fun h=>by simp[WF,Fence.wide]at h
 cases g with
 |halt i w=>cases i<;>first|exact h|exact h.elim
 |ok n w =>
  cases n
  case value v=>exact h
  case skip=>exact h
  case defer d=>exact h
  case enter f args =>
   refine⟨j,?_⟩;have:=(callsIn_wide (n:=0)).2 h;exact this
  case row row args =>
   refine⟨j,fun c l _=>?_⟩;obtain⟨v,p,r,t⟩:=h c l;exact⟨v,p,r,stepsIn_wide.2 t⟩
  all_goals exact h.elim
theorem Jl{pl:Pol}{det:Bool}{ro:Ro}{mu:Mu}{ev:zT->AV}(s:Sim G mu w.heap)(j:∀ x,VRel G w.heap (ev x) (a.eval x))
  (h:qA P pl det o.dst o.op ev mu K Kp) {next:Act->qh->Prop} {Q:Exit->Act->qh->Prop}
  (J:∀ v g G' w' u,K v g->Stp G mu w G' g w'->VRel G' w'.heap v u->next (a.put o.dst u) w')
  (t:∀ v g G' w' u,Kp v g->Stp G mu w G' g w'->VRel G' w'.heap v u->Q (.panic [{ v:=u,recovered:=false }]) a w'):o.wpIn (WF ro) 0 P a w next Q:=by
 have T:∀ c,o.op ≠ .defer c:=by
  intro c e;rw[e]at h;simp only[qA]at h
 refine⟨fun _ _=>trivial,?_⟩;rw[show (WF ro).round=ro.rd from rfl,Oper.semAt_eq _ _ _ T];by_cases hy:Kr P o.op ev mu K
 .obtain ⟨f,args,U,i,R,ho,hf,hs,hk⟩:=hy
  obtain⟨dst,op,ty,pos,after,guard⟩:=o;simp only at ho J t⊢;subst ho;have rf:=j f;rw[hf]at rf;generalize hq:a.eval f=fv at rf;cases rf with
  |yl _ l a0 hb =>
  obtain⟨fn,C,a1,I,h1,h2⟩:=hs G w (args.map a.eval) s (uz j args) l a0 hb;have:(execOp a.eval { dst,op := .call { callee := .value f,args,argTypes:=U },type:=ty,pos,after,guard }).run P w = .ok (.round l fn C a1 I) w:=by
   simp only[execOp,resolve,qJ,zk,qL,hq,Deferred.ofValue,invoke];simpa using h1
  rw[this];refine⟨fun h=>by simp[WF,Fence.wide]at h,?_⟩;refine RoundIn.mono (F:=WF ro) (n:=0) h2 ?_;rintro e w' ⟨b,G',g,rfl,a2,hR⟩;exact J _ _ _ _ _ (hk b g hR) a2 (.sc _ rfl)
 .exact Ks (qbT s j h hy J t)
end
end Go.Ev
namespace Go.Ev
open Go Go.RowKit
section
variable {ops:Array us}
def pe(o:us):List Edge:=o.after.toList.filter (Region.binds .any)
theorem Jm{e:Edge}(h:Region.binds .any e=true)(m:Region.Mode):Region.binds m e=true:=by
 unfold Region.binds at *
 split at h
 .exact absurd h (by simp)
 .exact absurd h (by simp)
 .rfl
def we(ops:Array us)(i:Nat):List Nat:=match ops[i]? with|some o=>(pe o).map (·.on)|none=>[]
def Kt(ops:Array us):Bool:=(qt ops.size).all fun i=>match ops[i]? with|some o=>o.after.toList.all fun e=>decide (e.on<i)||!Region.binds .text e|none=>true
def Ku(ops:Array us):Bool:=(qt ops.size).all fun i=>match ops[i]? with|some o=>o.after.toList.all fun e=>decide (e.on<i)|none=>true
def Kv(ops:List us):Nat->List Nat->List Nat
 | 0,g=>g.reverse
 |n+1,g=>match (qt ops.length).find? fun i=>!g.contains i&&(match ops[i]? with|some o=>o.after.toList.all fun e=>!Region.binds .gc e||g.contains e.on|none=>false) with
  |some i=>Kv ops n (i :: g)
  |none=>g.reverse
def Ug(ops:Array us)(L:List Nat):Bool:=decide (L.length=ops.size)&&(qt L.length).all fun p=>match L[p]? with
 |some i=>!(L.take p).contains i&&(match ops[i]? with|some o=>o.after.toList.all fun e=>!Region.binds .gc e||(L.take p).contains e.on|none=>false)
 |none=>false
def yM(ops:Array us):Bool:=Kt ops&&(Ku ops||Ug ops (Kv ops.toList ops.size []))
theorem Uh(h:yM ops=true):∀(i:Nat) (o:us),ops[i]?=some o->∀ e,e∈o.after.toList->Region.binds .text e=true->e.on<i:=by
 intro i o g e j l;unfold yM at h;rw[qr]at h;have h:=h.1;unfold Kt at h;rw[qH]at h;have:=h i (by simpa using (zJ.1 g).1);rw[g]at this;simp only[qH]at this;have:=this e j;rw[l]at this;simpa using this
theorem Kw{o:us}{e:Edge}(h:e∈pe o):e∈o.after.toList/\Region.binds .text e=true:=⟨(y9.1 h).1,Jm (y9.1 h).2 .text⟩
def Topo(ops:Array us)(L:List Nat):Prop:=∀ pre j post,L=pre++j :: post->j<ops.size/\j ∉ pre/\∀ e,e∈we ops j->e∈pre
theorem Topo.nil(ops:Array us):Topo ops []:=fun pre j post h=>by simp at h
theorem Topo.snoc{L:List Nat}{j:Nat}(h:Topo ops L)(i:j<ops.size)(l:j ∉ L)(o:∀ e,e∈we ops j->e∈L):Topo ops (L++[j]):=by
 intro pre k post e;rcases List.eq_nil_or_concat post with rfl|⟨g,x,rfl⟩
 .have:=List.append_inj' e rfl
  obtain⟨rfl,h⟩:=this;simp only[u5,and_true]at h;subst h;exact⟨i,l,o⟩
 .rw [<-List.concat_eq_append,List.concat_eq_append,List.concat_eq_append,<-yD,<-zc]at e
  have:=List.append_inj' e rfl;exact h pre k g this.1
theorem qbU(g:List Nat){n:Nat}:∀ i,i<n->i ∉ g->∃ j,j<n/\j ∉ g/\∀ k,k<j->k∈g:=by
 intro i;induction i using Nat.strongRecOn with
 |_ i r =>
  intro t l;by_cases h:∀ k,k<i->k∈g
  .exact ⟨i,t,l,h⟩
  .obtain ⟨k,C⟩:=Classical.not_forall.1 h
   obtain⟨o,p⟩:=Classical.not_imp.1 C;exact r k o (by omega) p
theorem Ui{m:Region.Mode}(l:∀(i:Nat) (o:us),ops[i]?=some o->∀ e,e∈o.after.toList->Region.binds m e=true->e.on<i)(g:List Nat)(r:∃ i,i<ops.size/\i ∉ g) :
  ∃ j,j<ops.size/\j ∉ g/\∀ o,ops[j]?=some o->∀ e,e∈o.after.toList->Region.binds m e=true->e.on∈g:=by
 obtain⟨i,I,t⟩:=r;obtain⟨j,J,C,p⟩:=qbU g i I t;exact⟨j,J,C,fun o P e R T=>p _ (l j o P e R T)⟩
theorem qbV{L:List Nat}(h:Ug ops L=true)(g:List Nat)(a0:∃ i,i<ops.size/\i ∉ g) :
  ∃ j,j<ops.size/\j ∉ g/\∀ o,ops[j]?=some o->∀ e,e∈o.after.toList->Region.binds .gc e=true->e.on∈g:=by
 unfold Ug at h;rw[qr,decide_eq_true_eq,qH]at h;obtain⟨a6,J⟩:=h;have J:∀ p,p<L.length->∃ i,L[p]?=some i/\i ∉ L.take p/\∃ o,ops[i]?=some o/\∀ e,e∈o.after.toList->Region.binds .gc e=true->e.on∈L.take p:=by
  intro p l;have:=J p (by simpa using l);rw[qz l]at this;simp only[qr,Bool.not_eq_true']at this;refine⟨L[p],by simp[l],by simpa using this.1,?_⟩;cases C:ops[L[p]]? with
  |none=>rw[C]at this;simp at this
  |some o =>
   rw[C]at this;refine⟨o,rfl,fun e he hb=>?_⟩;have R:=this.2;simp only[qH]at R;have:=R e he;rw[hb]at this;simpa using this
 have a1:L.Nodup:=by
  unfold List.Nodup;rw[List.pairwise_iff_getElem];intro i j T U a7 e;obtain⟨x,t,hn,_⟩:=J j U;rw[qz U]at t;simp only[qo]at t;refine hn ?_;rw[<-t,<-e];exact vE.2 ⟨i,by simp;omega,by simp⟩
 have a2:∀ x,x∈L->x<ops.size:=by
  intro x t;obtain⟨p,l,e⟩:=vE.1 t;obtain⟨y,hy,_,o,C,_⟩:=J p l;rw[qz l]at hy;simp only[qo]at hy;rw[<-e,hy];exact(zJ.1 C).1
 have P:∀ i,i<ops.size->i∈L:=by
  intro i T;refine vG fun hn=>?_
  have h1:(i :: L).length<=(qt ops.size).length:=jU (jx.2 ⟨hn,a1⟩) (fun k hk=>by
   rcases qw.1 hk with rfl|hk
   .simpa using T
   .simpa using a2 k hk)
  simp at h1;omega
 obtain⟨i,T,a3⟩:=a0;have key:∀ n p,L.length=p+n->(∀ x,x∈L.take p->x∈g)->∃ q,q<L.length/\(∀ x,x∈L.take q->x∈g)/\∀ x,L[q]?=some x->x ∉ g:=by
  intro n;induction n with
  |zero =>
   intro p a4 t;rw[List.take_of_length_le (by omega)]at t;exact absurd (t i (P i T)) a3
  |succ n ih =>
   intro p a4 t;by_cases hc:L[p]'(by omega)∈g
   .refine ih (p+1) (by omega) fun x r=>?_
    rw[List.take_add_one,qz (by omega)]at r;rcases qG.1 r with h|h
    .exact t x h
    .simp at h;rw[h];exact hc
   .refine ⟨p,by omega,t,fun x r=>?_⟩
    rw[qz (by omega)]at r;simp only[qo]at r;rw[<-r];exact hc
 obtain⟨q,hq,h1,R⟩:=key L.length 0 (by omega) (by simp);obtain⟨j,U,_,o,C,he⟩:=J q hq;refine⟨j,(zJ.1 C).1,R j U,fun o' I e a5 hb=>h1 _ (he e ?_ hb)⟩;rw[C]at I;simp only[qo]at I;rw[I];exact a5
theorem qbW(h:yM ops=true)(m:Region.Mode)(g:List Nat)(l:∃ i,i<ops.size/\i ∉ g) :
  ∃ j,j<ops.size/\j ∉ g/\∀ o,ops[j]?=some o->∀ e,e∈o.after.toList->Region.binds m e=true->e.on∈g:=by
 have I:=Uh h;cases m with
 |text=>exact Ui I g l
 |any=>exact Ui (fun i o r e t C=>I i o r e t (Jm C .text)) g l
 |gc =>
  unfold yM at h;rw[qr,jT]at h;rcases h.2 with p|p
  .refine Ui (fun i o r e t _=>?_) g l
   unfold Ku at p;rw[qH]at p;have:=p i (by simpa using (zJ.1 r).1);rw[r]at this;simp only[qH,decide_eq_true_eq]at this;exact this e t
  .exact qbV p g l
theorem qbX(T:yM ops=true)(m:Region.Mode):∀(fuel t:Nat) (listed:Array Bool) (g:List Nat),fuel+g.length=ops.size->listed.size=ops.size ->
  (∀ i,i<ops.size->(listed.getD i true=true↔i∈g))->Topo ops g.reverse->g.Nodup->(∀ i,i∈g->i<ops.size) ->
  Topo ops (Region.linearise.go m ops fuel t listed g)/\(Region.linearise.go m ops fuel t listed g).length=ops.size:=by
 have p:=Uh T;have r:=qbW T m;intro fuel;induction fuel with
 |zero =>
  intro t listed g hf hs I ht hn hb;simp only[Region.linearise.go];exact⟨ht,by simp;omega⟩
 |succ fuel ih =>
  intro t listed g hf hs I ht hn hb;simp only[Region.linearise.go];generalize U:((qt ops.size).filter fun i=>!listed.getD i true&&((ops[i]?).map (·.after.all fun e=>!Region.binds m e||listed.getD e.on false)).getD false)=o;have a0:∀ i,i∈o->i<ops.size/\i ∉ g/\∀ e,e∈we ops i->e∈g:=by
   intro i J;rw[<-U,y9]at J;obtain⟨h1,h2⟩:=J;have h1:i<ops.size:=by simpa using h1
   simp only[qr,Bool.not_eq_true']at h2;refine⟨h1,fun h=>?_,fun e P=>?_⟩
   .rw [(I i h1).2 h]at h2;exact absurd h2.1 (by simp)
   .unfold we at P
    have R:ops[i]?=some ops[i]:=by simp[h1]
    rw[R]at P;simp only[qp]at P;obtain⟨x,a5,rfl⟩:=P;obtain⟨hx,a1⟩:=y9.1 a5;have h3:=h2.2;rw[R]at h3;simp only[qW,Option.getD_some]at h3;have h4:=(Array.all_eq_true'.1 h3) x (by simpa using hx);rw[Jm a1 m]at h4;simp only[Bool.not_true,Bool.false_or]at h4;have ad:x.on<i:=p i _ R x hx (Jm a1 .text);refine(I x.on (by omega)).1 ?_;have:x.on<listed.size:=by omega
    simp only[qF,vM this,Option.getD_some]at h4⊢;exact h4
  have a6:o≠[]:=by
   have a7:∃ i,i<ops.size/\i ∉ g:=by
    refine vG fun a8=>?_
    have a2:∀ i,i<ops.size->i∈g:=fun i J=>vG fun h=>a8 ⟨i,J,h⟩
    have:(qt ops.size).length<=g.length:=jU (List.nodup_range) (fun i J=>a2 i (by simpa using J));simp at this;omega
   obtain⟨j,hj,a9,a3⟩:=r g a7;intro e;have:j∈o:=by
    rw[<-U,y9];refine⟨by simpa using hj,?_⟩;have R:ops[j]?=some ops[j]:=by simp[hj]
    simp only[R,qW,Option.getD_some,qr,Bool.not_eq_true'];refine⟨?_,?_⟩
    .cases hq:listed.getD j true with
     |false=>rfl
     |true=>exact absurd ((I j hj).1 hq) a9
    .refine Array.all_eq_true'.2 fun x hx=>?_
     cases aa:Region.binds m x with
     |false=>rfl
     |true =>
      have hm:=a3 _ R x (by simpa using hx) aa;have ab:=hb _ hm;have:=(I x.on ab).2 hm;have l:x.on<listed.size:=by omega
      simp only[qF,vM l,Option.getD_some]at this⊢;simp[this]
   rw[e]at this;simp at this
  have a4:0<o.length:=List.length_pos_iff.2 a6;have l:t % o.length<o.length:=Nat.mod_lt _ a4;rw[qz l];simp only;obtain⟨g1,g2,g3⟩:=a0 _ (List.getElem_mem l);generalize o[t % o.length]=i at g1 g2 g3;refine ih _ _ _ (by simp;omega) (by simp[hs]) ?_ ?_ (jx.2 ⟨g2,hn⟩) (fun k hk=>?_)
  .intro k hk
   by_cases C:k=i
   .subst C
    have:k<listed.size:=by omega
    simp[qF,this]
   .have:=I k hk
    simp only[qF]at this⊢;rw[XH (fun h=>C h.symm)];rw[this];simp[C]
  .rw [List.reverse_cons]
   exact ht.snoc g1 (by simpa using g2) (fun e P=>by simpa using g3 e P)
  .rcases qw.1 hk with rfl|h
   .exact g1
   .exact hb k h
theorem Kx(j:yM ops=true)(g:Bool)(t:Nat):Topo ops (Region.schedule g ops t)/\(Region.schedule g ops t).length=ops.size:=by
 have key:∀(m:Region.Mode) (t:Nat),Topo ops (Region.linearise m ops t)/\(Region.linearise m ops t).length=ops.size:=by
  intro m t;unfold Region.linearise;exact qbX j m ops.size t _ [] (by simp) (by simp) (fun i l=>by simp[qF,l]) (Topo.nil ops) List.nodup_nil (by simp)
 unfold Region.schedule;split
 .exact key _ _
 .exact key _ _
def uA(g:List Nat)(o:us):Nat:=(pe o).foldl (fun s e=>s ||| (2 ^ e.on ||| g.getD e.on 0)) 0
def vo:List us->List Nat->List Nat
 | [],g=>g
 |o :: l,g=>vo l (g++[uA g o])
theorem Ky:∀(l:List us) (g:List Nat),∃ r,vo l g=g++r/\r.length=l.length
 | [],g=>⟨[],by simp[vo],rfl⟩
 |o :: l,g=>by
  obtain⟨r,i,j⟩:=Ky l (g++[uA g o]);exact⟨uA g o :: r,by simp[vo,i],by simp[j]⟩
theorem Kz(f:Edge->Nat)(i:Nat):∀(l:List Edge) (s:Nat),(l.foldl (fun s e=>s ||| f e) s).testBit i=true->s.testBit i=true\/∃ e,e∈l/\(f e).testBit i=true
 | [],s,h => .inl h
 |e :: l,s,h=>by
  simp only[List.foldl_cons]at h;rcases Kz f i l _ h with h|⟨g,j,o⟩
  .rw [Nat.testBit_or,jT]at h
   rcases h with h|h
   .exact .inl h
   .exact .inr ⟨e,by simp,h⟩
  .exact .inr ⟨g,by simp[j],o⟩
def zP(ops:Array us)(j:Nat):Nat:=(vo ops.toList []).getD j 0
theorem KA:∀(l:List us) (g:List Nat) (k:Nat) (o:us),l[k]?=some o->(∀ e,e∈(pe o)->e.on<g.length+k) ->
  (vo l g).getD (g.length+k) 0=(pe o).foldl (fun s e=>s ||| (2 ^ e.on ||| (vo l g).getD e.on 0)) 0
 | [],g,k,o,h,_=>by simp at h
 |x :: l,g,k,o,h,p=>by
  simp only[vo];cases k with
  |zero =>
   simp at h;subst h;obtain⟨r,t,R⟩:=Ky l (g++[uA g x]);rw[t];have C:(g++[uA g x]++r).getD (g.length+0) 0=uA g x:=by simp[za]
   rw[C];unfold uA;have key:∀(T:List Edge) (s:Nat),(∀ e,e∈T->e.on<g.length)->T.foldl (fun s e=>s ||| (2 ^ e.on ||| g.getD e.on 0)) s=T.foldl (fun s e=>s ||| (2 ^ e.on ||| (g++[(pe x).foldl (fun s e=>s ||| (2 ^ e.on ||| g.getD e.on 0)) 0]++r).getD e.on 0)) s:=by
    intro T;induction T with
    |nil=>intro s _;rfl
    |cons e T I =>
     intro s j;simp only[List.foldl_cons];have J:=j e (by simp);have:(g++[(pe x).foldl (fun s e=>s ||| (2 ^ e.on ||| g.getD e.on 0)) 0]++r).getD e.on 0=g.getD e.on 0:=by
      simp only[za,zc];rw[qx J]
     rw[this];exact I _ (fun P i=>j P (by simp[i]))
   exact key _ _ (fun e i=>by have:=p e i;omega)
  |succ k =>
   have:=KA l (g++[uA g x]) k o (by simpa using h) (fun e i=>by have:=p e i;simp;omega);rw[show (g++[uA g x]).length+k=g.length+(k+1) by simp;omega]at this;exact this
theorem qbY(o:yM ops=true){j i:Nat}(C:j<ops.size)(h:(zP ops j).testBit i=true):∃ e,e∈we ops j/\(i=e\/(zP ops e).testBit i=true):=by
 have g:=Uh o;have r:ops[j]?=some ops[j]:=by simp[C]
 have p:we ops j=(pe ops[j]).map (·.on):=by unfold we;rw[r]
 have:=KA ops.toList [] j ops[j] (by simp) (fun e t=>by
  have:=g j _ r e (Kw t).1 (Kw t).2;simp;omega)
 simp only[List.length_nil,Nat.zero_add]at this;unfold zP at h⊢;rw[this]at h;rcases Kz _ i _ _ h with h|⟨e,I,l⟩
 .simp at h
 .rw [Nat.testBit_or,jT]at l
  refine⟨e.on,by rw[p];exact qp.2 ⟨e,I,rfl⟩,?_⟩;rcases l with l|l
  .rw [Nat.testBit_two_pow]at l
   exact .inl (by simpa using (of_decide_eq_true l).symm)
  .exact .inr l
def Uj(ops:Array us)(S:Nat->Prop):Prop:=∀ j,S j->j<ops.size/\∀ i,(zP ops j).testBit i=true->S i
theorem Uj.mask(g:yM ops=true){S:Nat->Prop}(r:Uj ops S){j:Nat}(t:j<ops.size)(o:∀ e,e∈we ops j->S e) :
  ∀ i,(zP ops j).testBit i=true->S i:=by
 intro i C;obtain⟨e,p,l⟩:=qbY g t C;rcases l with rfl|l
 .exact o i p
 .exact (r e (o e p)).2 i l
def Bef(L:List Nat)(i k:Nat):Prop:=∀ p q,L=p++k :: q->i∈p
theorem Bef.total:∀{L:List Nat} {i k:Nat},i∈L->k∈L->i≠k->Bef L i k\/Bef L k i
 | [],i,k,h,_,_=>absurd h (by simp)
 |x :: l,i,k,J,P,g=>by
  have cons:∀{i k:Nat},Bef l i k->x≠k->Bef (x :: l) i k:=by
   intro i k h j p q e;cases p with
   |nil=>simp only[vf,u5]at e;exact absurd e.1 j
   |cons y I =>
    simp only[yD,u5]at e;exact qO _ (h I q e.2)
  have head:∀{k:Nat},x≠k->Bef (x :: l) x k:=by
   intro k j p q e;cases p with
   |nil=>simp only[vf,u5]at e;exact absurd e.1 j
   |cons y I =>
    simp only[yD,u5]at e;rw[<-e.1];simp
  by_cases o:x=i
  .subst o;exact .inl (head g)
  .by_cases r:x=k
   .subst r;exact .inr (head (fun e=>g e.symm))
   .have t:i∈l:=by simpa[Ne.symm o] using J
    have C:k∈l:=by simpa[Ne.symm r] using P
    rcases Bef.total t C g with h|h
    .exact .inl (cons h r)
    .exact .inr (cons h o)
theorem Topo.pre{p:List Nat}{j:Nat}(h:Topo ops (p++[j])):Topo ops p:=fun pre k post e=>h pre k (post++[j]) (by rw[e];simp)
theorem Topo.pre':∀(q:List Nat) {p:List Nat},Topo ops (p++q)->Topo ops p
 | [],p,h=>by simpa using h
 |j :: q,p,h=>by
  have:Topo ops ((p++[j])++q):=by simpa using h
  exact(Topo.pre' q this).pre
theorem Topo.closed(t:yM ops=true):∀(n:Nat) (p:List Nat),p.length=n->Topo ops p->Uj ops (·∈p)/\p.Nodup:=by
 intro n;induction n with
 |zero=>intro p o _;have:=vH o;subst this;exact⟨fun j r=>by simp at r,List.nodup_nil⟩
 |succ n ih =>
  intro p o R;rcases List.eq_nil_or_concat p with rfl|⟨T,j,rfl⟩
  .simp at o
  .rw [List.concat_eq_append]at *
   obtain⟨C,hn⟩:=ih T (by simpa using o) R.pre;obtain⟨r,I,J⟩:=R T j [] rfl;have g:=C.mask t r J;refine⟨fun k l=>?_,?_⟩
   .rcases qG.1 l with l|l
    .exact ⟨(C k l).1,fun i P=>qG.2 (.inl ((C k l).2 i P))⟩
    .simp only[qN]at l;subst l
     exact⟨r,fun i P=>qG.2 (.inl (g i P))⟩
   .rw [Zv]
    exact⟨hn,by simp,fun x hx y U=>by simp at U;subst U;exact fun e=>I (e ▸ hx)⟩
theorem Topo.bef(g:yM ops=true){L:List Nat}(l:Topo ops L){i k:Nat}(h:(zP ops k).testBit i=true):Bef L i k:=by
 intro p q e;obtain⟨o,_,j⟩:=l p k q e;have r:=(Topo.closed g _ p rfl (Topo.pre' (k :: q) (by rw[<-e];exact l))).1;exact r.mask g o j i h
end
end Go.Ev
namespace Go.Ev
open Go Go.RowKit
section
variable {G G':Gh}{dl:List Deferred}{mu:Mu}{i:Nat}{w w':qh}
theorem Qq{j:Nat}{c:Cell}(h:(mu.set i .dead)[j]?=some c)(l:c ≠ .dead):j≠i/\mu[j]?=some c:=by
 by_cases e:i=j
 .subst e
  rw[List.getElem?_set_self']at h;cases g:mu[i]? with
  |none=>rw[g]at h;simp at h
  |some o=>rw[g]at h;simp at h;exact absurd h.symm l
 .rw [zo e]at h
  exact⟨fun h=>e h.symm,h⟩
theorem Live.hid{b:Nat}(h:Live G (mu.set i .dead) b):Live G mu b:=by
 obtain⟨j,c,g,o,l,p⟩:=h;exact⟨j,c,g,(Qq o l).2,l,p⟩
theorem Sim.hid{h:Array Obj}(s:Sim G mu h)(i:Nat):Sim G (mu.set i .dead) h:=by
 refine⟨by simpa using s.len,s.imm,fun j c g l r o p=>s.obj j c g l (Qq r o).2 o p,fun j c g l r o p=>s.live j c g l (Qq r o).2 o p,?_,s.tab⟩;intro j k C I b J tk r o p t P R;exact s.inj j k C I b J tk (Qq r p).2 (Qq o t).2 p t P R
theorem Sim.hid_not{h:Array Obj}(s:Sim G mu h){i b t:Nat}{c:Cell}(p:mu[i]?=some c)(r:c ≠ .dead)(C:G.blk[i]?=some (b,t)):¬Live G (mu.set i .dead) b:=by
 rintro⟨j,I,g,J,o,P⟩;obtain⟨l,R⟩:=Qq J o;exact l (s.inj j i I c b g t R p o r P C)
theorem Stp.unhid{M m:Mu}{b t:Nat}{c:Cell}(s:Sim G M w.heap)(hc:M[i]?=some c)(hd:c ≠ .dead)(hb:G.blk[i]?=some (b,t))(T:Stp G (M.set i .dead) w G' m w') :
  m[i]?=some .dead/\w'.heap[b]?=w.heap[b]?/\Stp G M w G' (m.set i c) w':=by
 have hn:=s.hid_not hc hd hb;obtain⟨o,ho,hr⟩:=s.obj i c b t hc hd hb;have P:b<w.heap.size:=(zJ.1 ho).1;have hk:w'.heap[b]?=w.heap[b]?:=T.keep b P hn;have p:G'.blk[i]?=some (b,t):=T.le.blk _ _ hb;have R:¬Live G' m b:=fun h=>(T.live b h).elim hn (fun g=>absurd P (Nat.not_lt.2 g))
 have hi:i<m.length:=by rw[<-T.sim.len];exact(qj.1 p).1
 have hm:m[i]?=some .dead:=by
  have e:m[i]?=some m[i]:=qz hi;rw[e];by_cases hq:m[i] = .dead
  .rw [hq]
  .exact absurd ⟨i,m[i],t,e,hq,p⟩ R
 have a0:¬G'.imm b:=fun h=>by
  rcases T.inew b h with h|h|h
  .exact s.live i c b t hc hd hb h
  .exact hn h
  .exact absurd P (Nat.not_lt.2 h)
 have a1:Ext G w.heap w'.heap:=T.ext (s.hid i);have l:∀(j:Nat) (x:Cell),(m.set i c)[j]?=some x->x ≠ .dead->(j=i/\x=c)\/(j≠i/\m[j]?=some x):=by
  intro j x hj hx;by_cases e:i=j
  .subst e
   rw[zr hi]at hj;exact .inl ⟨rfl,(Option.some.inj hj).symm⟩
  .rw [zo e]at hj
   exact .inr ⟨fun h=>e h.symm,hj⟩
 refine⟨hm,hk,T.le,⟨by simpa using T.sim.len,T.sim.imm,?_,?_,?_,T.sim.tab⟩,?_,T.size,?_,?_,T.tape,T.os,T.output,T.drawn⟩
 .intro j x U C h1 I r
  rcases l j x h1 I with ⟨rfl,rfl⟩|⟨_,J⟩
  .rw [p]at r
   obtain⟨rfl,rfl⟩:=Prod.mk.inj (Option.some.inj r);exact⟨o,by rw[hk];exact ho,hr.mono T.le a1⟩
  .exact T.sim.obj j x U C J I r
 .intro j x U C h1 I r
  rcases l j x h1 I with ⟨rfl,rfl⟩|⟨_,J⟩
  .rw [p]at r
   obtain⟨rfl,rfl⟩:=Prod.mk.inj (Option.some.inj r);exact a0
  .exact T.sim.live j x U C J I r
 .intro j k cj ck b' tj tk h1 I r J h5 h6
  rcases l j cj h1 r with ⟨rfl,rfl⟩|⟨e1,g1⟩<;>rcases l k ck I J with ⟨rfl,rfl⟩|⟨e2,g2⟩
  .rfl
  .rw [p]at h5
   obtain⟨rfl,rfl⟩:=Prod.mk.inj (Option.some.inj h5);exact absurd ⟨k,ck,tk,g2,J,h6⟩ R
  .rw [p]at h6
   obtain⟨rfl,rfl⟩:=Prod.mk.inj (Option.some.inj h6);exact absurd ⟨j,cj,tj,g1,r,h5⟩ R
  .exact T.sim.inj j k cj ck b' tj tk g1 g2 r J h5 h6
 .intro x hx hl
  exact T.keep x hx (fun h=>hl h.hid)
 .rintro x ⟨j,cj,C,h1,I,r⟩
  rcases l j cj h1 I with ⟨rfl,rfl⟩|⟨_,J⟩
  .rw [p]at r
   obtain⟨rfl,rfl⟩:=Prod.mk.inj (Option.some.inj r);exact .inl ⟨j,cj,t,hc,hd,hb⟩
  .exact (T.live x ⟨j,cj,C,J,I,r⟩).imp (fun h=>h.hid) id
 .intro x hx
  rcases T.inew x hx with h|h|h
  .exact .inl h
  .exact .inr (.inl h.hid)
  .exact .inr (.inr h)
theorem Stp.drop{M:Mu}(s:Sim G M w.heap)(i:Nat):Stp G M w G (M.set i .dead) w:=
 ⟨.refl G,s.hid i,fun _ _ _=>rfl,qs _,fun _ h => .inl h.hid,fun _ h => .inl h,rfl,rfl,rfl,qs _⟩
theorem Sim.putOther{M:Mu}(s:Sim G M w.heap){D:Nat}{o:Obj}(I:¬Live G M D)(J:¬G.imm D):Sim G M (w.putObj D o).heap:=by
 have g:Ext G w.heap (w.putObj D o).heap:=⟨by simp,fun b p=>vO (fun e=>J (e ▸ p))⟩;refine⟨s.len,fun b p=>by have:=s.imm b p;simpa using this,?_,s.live,s.inj,s.tab.mono (fun _ h=>h) g.keep⟩;intro j x i l r t C;obtain⟨P,R,T⟩:=s.obj j x i l r t C;refine⟨P,?_,T.mono (.refl G) g⟩;rw[vO (fun (e:i=D)=>I ⟨j,x,l,r,t,e ▸ C⟩)];exact R
structure Mk (G:Gh) (mu:Mu) (h:Array Obj) (D:Nat):Prop where
 obj:h[D]?=some (.deferred (some []))
 nlive:¬Live G mu D
 nimm:¬G.imm D
theorem Mk.step{l:Mu}{D:Nat}(m:Mk G mu w.heap D)(t:Stp G mu w G' l w'):Mk G' l w'.heap D:=by
 have i:D<w.heap.size:=(zJ.1 m.obj).1;refine⟨by rw[t.keep D i m.nlive];exact m.obj,fun h=>?_,fun h=>?_⟩
 .exact (t.live D h).elim m.nlive (fun g=>absurd i (Nat.not_lt.2 g))
 .rcases t.inew D h with h|h|h
  .exact m.nimm h
  .exact m.nlive h
  .exact absurd i (Nat.not_lt.2 h)
def mkOf(D:Nat):Deferred:={ target := .collected D,args:=#[] }
def Dfs(dl:List Deferred)(mk:Bool)(base:Nat)(G:Gh)(mu:Mu)(h:Array Obj)(ds:List Deferred):Prop:=∃ g:List Nat,(ds=g.map mkOf++dl/\(mk=false->g=[]))/\g.Nodup/\∀ D,D∈g->base<=D/\Mk G mu h D
theorem Dfs.nil(dl:List Deferred)(mk:Bool)(base:Nat)(G:Gh)(mu:Mu)(h:Array Obj):Dfs dl mk base G mu h dl:=⟨[],⟨rfl,fun _=>rfl⟩,List.nodup_nil,by simp⟩
theorem Dfs.step{mk:Bool}{base:Nat}{l:Mu}{ds:List Deferred}(d:Dfs dl mk base G mu w.heap ds)(t:Stp G mu w G' l w'):Dfs dl mk base G' l w'.heap ds:=by
 obtain⟨j,o,p,g⟩:=d;exact⟨j,o,p,fun D i=>⟨(g D i).1,(g D i).2.step t⟩⟩
def vS:List Nat->qh->qh
 | [],w=>w
 | D :: g,w=>vS g (w.putObj D (.deferred none))
theorem Uk{P:qb}{F:Fence}{n:Nat}{fn:Func}{g:Array zS}{R:Ending->qh->Prop}{u:FrameMode}(o:u ≠ .run):∀(i:List Nat) (w:qh),i.Nodup->(∀ D,D∈i->w.heap[D]?=some (.deferred (some []))) ->
  LeavesInM F n P fn g R dl u (vS i w)->LeavesInM F n P fn g R (i.map mkOf++dl) u w
 | [],w,_,_,h=>h
 | D :: i,w,t,p,h=>by
  obtain⟨j,l⟩:=jx.1 t;refine⟨o,.inl ⟨D,w.putObj D (.deferred none),rfl,run_takeDeferred (p D (by simp)),Uk o i _ l (fun E r=>?_) h⟩⟩;rw[vO (fun (e:E=D)=>j (e ▸ r))];exact p E (by simp[r])
theorem KB{o:Gh}{i:Mu}{l:qh}:∀(j:List Nat) (w:qh),j.Nodup->(∀ D,D∈j->l.heap.size<=D/\Mk G mu w.heap D)->Stp o i l G mu w ->
  Stp o i l G mu (vS j w)/\Ext G w.heap (vS j w).heap
 | [],w,_,_,t=>⟨t,Ext.refl _ _⟩
 | D :: j,w,R,p,t=>by
  obtain⟨r,C⟩:=jx.1 R;obtain⟨hb,I⟩:=p D (by simp);have t1:Stp o i l G mu (w.putObj D (.deferred none)):=by
   refine⟨t.le,t.sim.putOther I.nlive I.nimm,fun b g T=>?_,by simpa using t.size,t.live,t.inew,t.tape,t.os,t.output,t.drawn⟩;rw[vO (by omega)];exact t.keep b g T
  obtain⟨U,P⟩:=KB j (w.putObj D (.deferred none)) C (fun E J=>⟨(p E (by simp[J])).1,by
   have m:=(p E (by simp[J])).2;exact⟨by rw[vO (fun (e:E=D)=>r (e ▸ J))];exact m.obj,m.nlive,m.nimm⟩⟩) t1
  .refine ⟨U,⟨Nat.le_trans (by simp) P.size,fun b g=>?_⟩⟩
   have:=P.keep b g;simp only[vS];rw[this,vO (fun (e:b=D)=>I.nimm (e ▸ g))]
end
end Go.Ev
namespace Go.Ev
open Go Go.RowKit
section
variable {a:Act}{ops:Array us}{G:Gh}{g l m mu:Mu}{o:us}{ev':zT->AV}{pl:Pol}{P:qb}{w:qh}
def Br(b:Bool)(p q:Prop):Prop:=(b=true->p)/\(b=false->q)
def wK:AV->Bool->Option Bool
 | .sc (.bool b),g=>some (b == g)
 | .sc _,_=>some false
 |_,_=>none
def zI(ops:Array us)(st:St)(o:us):Option Bool:=
 match o.guard with
 |none=>some true
 |some (j,g)=>match (ops[j]?).bind (·.dst) with
  |none=>some false
  |some d=>wK (st.tm d) g
def awpS(P:qb)(pl:Pol)(det:Bool)(ops:Array us):List us->(St->Prop)->(AV->St->Prop)->St->Prop
 | [],Q,_,st=>Q st
 |o :: l,Q,g,st=>OptK (zI ops st o) fun b =>
   Br b (qA P pl det o.dst o.op st.ev st.mu (fun v m=>awpS P pl det ops l Q g (st.put o.dst v m)) (fun v m=>g v ⟨st.tm,m⟩)) (awpS P pl det ops l Q g (st.put o.dst (.sc j2) st.mu))
structure Rel (ro:Ro) (G0:Gh) (mu0:Mu) (w0:qh) (n:Nat) (G:Gh) (st:St) (a:Act) (w:qh):Prop where
 tm:∀ i,VRel G w.heap (st.tm i) (a.tmps.getD i j2)
 df:ro.rd=none->Dfs ro.dl ro.mks w0.heap.size G st.mu w.heap a.defers
 size:a.tmps.size=n
 stp:Stp G0 mu0 w0 G st.mu w
 kp:∀ p,p∈ro.kp->VRel G w.heap p.1 p.2
theorem Rel.ev{ro:Ro}{j:Gh}{i:Mu}{l:qh}{n:Nat}{st:St}(r:Rel ro j i l n G st a w)(x:zT):VRel G w.heap (st.ev x) (a.eval x):=by
 cases x with
 |tmp t=>exact r.tm t
 |const v=>exact .ofV v
 |global g=>exact .any _
 |func f=>exact .fn _ [] [] _ _ rfl rfl (by simp) (by simp)
def dOk(n:Nat):Option Tmp->Bool|some d=>decide (d<n)|none=>true
theorem Rel.put{ro:Ro}{j:Gh}{l:qh}{n:Nat}{G':Gh}{st:St}{w':qh}{v:AV}{u:zS}{d:Option Tmp}(I:Sim j g l.heap)(r:Rel ro j g l n G st a w)(t:Stp G st.mu w G' m w')(P:VRel G' w'.heap v u)
  (o:dOk n d=true):Rel ro j g l n G' (st.put d v m) (a.put d u) w':=by
 refine⟨fun i=>?_,?_,?_,r.stp.trans I t,fun p J=>t.vrel r.stp.sim (r.kp p J)⟩
 .cases d with
  |none=>exact t.vrel r.stp.sim (r.tm i)
  |some d =>
   simp only[dOk,decide_eq_true_eq]at o;simp only[St.put,Act.put];by_cases C:i=d
   .subst C
    rw[if_pos rfl];have:i<a.tmps.size:=by rw[r.size];exact o
    simp_all
   .rw [if_neg C]
    have:(a.tmps.setIfInBounds d u).getD i j2=a.tmps.getD i j2:=by
     simp only[qF]
     grind
    rw[this];exact t.vrel r.stp.sim (r.tm i)
 .intro h
  have:=(r.df h).step t;cases d<;>exact this
 .cases d with
  |none=>exact r.size
  |some d=>simp[Act.put,r.size]
theorem Rel.drew{ro:Ro}{i:Gh}{j:qh}{n:Nat}{st:St}(l:Sim i g j.heap)(r:Rel ro i g j n G st a w):Rel ro i g j n G st a w.drew:=
 ⟨r.tm,r.df,r.size,r.stp.trans l (Stp.drew r.stp.sim),r.kp⟩
theorem Jn{ro:Ro}{C:Gh}{I:qh}{n:Nat}{st:St}(r:Rel ro C l I n G st a w){ops:Array us}{o:us}{b:Bool}(h:zI ops st o=some b):Region.wanted o (yielded ops a.tmps)=b:=by
 unfold zI at h;unfold Region.wanted;cases i:o.guard with
 |none=>rw[i]at h;simpa using h
 |some q =>
  obtain⟨j,t⟩:=q;rw[i]at h;simp only at h⊢;unfold yielded;cases J:(ops[j]?).bind (·.dst) with
  |none=>grind
  |some d =>
   rw[J]at h;simp only[Option.bind_some]at h⊢;have rd:=r.tm d;have g:a.tmps[d]?=some (a.tmps.getD d j2)\/a.tmps[d]?=none/\a.tmps.getD d j2=j2:=by
    simp only[qF]
    grind
   unfold wK at h;split at h
   .rename_i P p
    simp only[qo]at h;subst h;rw[p]at rd;generalize a.tmps.getD d j2=v at rd g;cases rd;rcases g with i|⟨_,i⟩
    .grind
    .exact absurd i (by simp[j2])
   .rename_i v R p
    simp only[qo]at h;subst h;rw[p]at rd;generalize a.tmps.getD d j2=T at rd g;cases rd;rcases g with i|⟨i,_⟩
    .grind
    .rw [i];rfl
   grind
theorem KC{ro:Ro}{l2:List us}{C:Gh}{I:qh}{n:Nat}(J:Sim C g I.heap){Q:St->Prop}{Qp:AV->St->Prop}{QQ:Exit->Act->qh->Prop}
  (hQ:∀ st a w G,Q st->Rel ro C g I n G st a w->wpListIn (WF ro) 0 P ops QQ l2 a w)
  (R:∀ v st a w G u,Qp v st->Rel ro C g I n G st a w->VRel G w.heap v u->QQ (.panic [{ v:=u,recovered:=false }]) a w) :
  ∀(l:List us) (st:St) (a:Act) (w:qh) (G:Gh),Rel ro C g I n G st a w->(l.all fun o=>dOk n o.dst)=true->awpS P pl false ops l Q Qp st->wpListIn (WF ro) 0 P ops QQ (l++l2) a w:=by
 intro l;induction l with
 |nil=>intro st a w G r _ h;exact hQ st a w G h r
 |cons o l ih =>
  intro st a w G r p h;simp only[List.all_cons,qr]at p;obtain⟨b,hb,h1,h2⟩:=h;have hw:=Jn r hb;simp only[yD,wpListIn,hw];cases b with
  |false =>
   rw[if_neg (by simp)];exact⟨fun _ _=>trivial,ih _ _ _ G (r.put J (Stp.refl r.stp.sim) (.sc _ rfl) p.1) p.2 (h2 rfl)⟩
  |true =>
   rw[if_pos rfl];refine Jl r.stp.sim r.ev (h1 rfl) ?_ ?_
   .intro v t T w' u U j hv
    exact ih _ _ _ T (r.put J j hv p.1) p.2 U
   .intro v t T w' u U j hv
    refine R v ⟨st.tm,t⟩ a w' T u U ?_ hv;exact r.put (d:=none) J j (.any j2) rfl
theorem Ul{ro:Ro}{j:Gh}{p:qh}{n:Nat}(I:Sim j g p.heap){Q:St->Prop}{C:AV->St->Prop}{QQ:Exit->Act->qh->Prop}
  (J:∀ st a w G,Q st->Rel ro j g p n G st a w->QQ .normal a w)
  (t:∀ v st a w G u,C v st->Rel ro j g p n G st a w->VRel G w.heap v u->QQ (.panic [{ v:=u,recovered:=false }]) a w) :
  ∀(l:List us) (st:St) (a:Act) (w:qh) (G:Gh),Rel ro j g p n G st a w->(l.all fun o=>dOk n o.dst)=true->awpS P pl false ops l Q C st->wpListIn (WF ro) 0 P ops QQ l a w:=by
 intro l st a w G r R h;have:=KC (l2:=[]) I (fun st a w G T r=>J st a w G T r) t l st a w G r R h
 grind
def memW(pl:Pol)(o:us):Bool:=
 match o.op with
 | .alloc _ | .store .. | .makeSlice .. | .mapUpdate .. | .mapEntry .. | .entryStore .. | .makeMap .. | .insert .. | .range .. | .next .. => true
 | .box .. => o.dst.any pl.mt.contains
 | .call c=>match c.callee with | .builtin .append | .builtin .copy | .builtin .delete | .builtin .clear=>true|_=>false
 |_=>false
def memR(o:us):Bool:=
 match o.op with
 | .load .. | .call _ | .lookup .. | .entry .. => true
 |_=>false
def Um(l:Array zT):List Tmp:=l.toList.filterMap fun | .tmp t=>some t|_=>none
def uB(ops:Array us)(o:us):List Tmp:=
 Um o.op.operands++(match o.guard with|some (j,_)=>((ops[j]?).bind (·.dst)).toList|none=>[])
def Un(pl:Pol)(o:us):Bool:=
 match o.op with
 | .alloc _ | .makeSlice .. | .makeMap .. => true
 | .box .. => o.dst.any pl.mt.contains
 |_=>false
def reads(pl:Pol)(o:us):Bool:=memR o&&!memW pl o
def soft(pl:Pol)(a b:us):Bool:=
 (match a.op,b.op with
 | .lookup t _ _ false,.mapEntry g _ _=>t == g
 |_,_=>false)||(reads pl a&&Un pl b)
def z7(pl:Pol)(ops:Array us)(a b:us):Bool:=
 (memW pl a&&(memW pl b||memR b))||(memR a&&memW pl b&&!soft pl a b) ||
 (match a.dst with|some d=>(uB ops b).contains d||b.dst == some d|none=>false) ||
 (match b.dst with|some d=>(uB ops a).contains d|none=>false)
def ZQ(pl:Pol)(ops:Array us):Bool:=
 yM ops&&(let g:=vo ops.toList [];(qt ops.size).all fun j=>(qt j).all fun i =>
  match ops[i]?,ops[j]? with|some a,some b=>!z7 pl ops a b||(g.getD j 0).testBit i|_,_=>true)
theorem qbZ(h:ZQ pl ops=true):yM ops=true/\∀(i j:Nat) a b,i<j->ops[i]?=some a->ops[j]?=some b->z7 pl ops a b=true->(zP ops j).testBit i=true:=by
 unfold ZQ at h;rw[qr]at h;refine⟨h.1,fun i j a b g p l r=>?_⟩;have t:j<ops.size:=(zJ.1 l).1;have o:=h.2;simp only[qH,yk]at o;have:=o j t i g;rw[p,l]at this;simp only[r,Bool.not_true,Bool.false_or]at this;exact this
def Jo(pl:Pol)(ops:Array us)(a b:Nat):Bool:=
 yM ops&&(let g:=vo ops.toList [];(qt ops.size).all fun j=>(qt j).all fun i=>(i == a&&j == b) ||
  match ops[i]?,ops[j]? with|some x,some y=>!z7 pl ops x y||(g.getD j 0).testBit i|_,_=>true) &&
 (qt b).all fun k=>!(decide (a<k))||match ops[k]?,ops[a]? with|some x,some y=>!z7 pl ops x y|_,_=>true
theorem qb0{a b:Nat}(h:Jo pl ops a b=true):yM ops=true/\(∀(i j:Nat) x y,i<j->¬(i=a/\j=b)->ops[i]?=some x->ops[j]?=some y->z7 pl ops x y=true->(zP ops j).testBit i=true) /\
  ∀(k:Nat) x y,a<k->k<b->ops[k]?=some x->ops[a]?=some y->z7 pl ops x y=false:=by
 unfold Jo at h;rw[qr,qr]at h;refine⟨h.1.1,fun i j x y l o t p C=>?_,fun k x y I g J P=>?_⟩
 .have R:j<ops.size:=(zJ.1 p).1
  have g:=h.1.2;simp only[qH,yk]at g;have:=g j R i l;rw[t,p,jT]at this;rcases this with this|this
  .simp at this;exact absurd this o
  .simp only[C,Bool.not_true,Bool.false_or]at this
   exact this
 .have r:=h.2
  simp only[qH,yk]at r;have:=r k g;rw[J,P]at this;simpa[I] using this
def DS(P:qb)(pl:Pol)(o:us)(ev:zT->AV)(mu:Mu)(v:AV)(m:Mu):Prop:=qA P pl true o.dst o.op ev mu (fun a b=>a=v/\b=m) (fun _ _=>False)
theorem qA.det{ev:zT->AV}{K t:AV->Mu->Prop}(h:qA P pl true o.dst o.op ev mu K t):∃ v m,DS P pl o ev mu v m/\K v m:=by
 unfold DS;generalize o.dst=C at *
 cases I:o.op<;>rw[I]at h<;>simp only[qA]at h⊢<;>try (exact h.elim)
 case move=>exact⟨_,_,⟨rfl,rfl⟩,h⟩
 case assign=>exact⟨_,_,⟨rfl,rfl⟩,h⟩
 case makeFunc=>exact⟨_,_,⟨rfl,rfl⟩,h⟩
 case pick=>grind
 case alloc=>obtain⟨z,i,j,J⟩:=h;exact⟨_,_,⟨z,i,j,rfl,rfl⟩,J⟩
 case box =>
  grind
 case build=>obtain⟨l,z,i,j⟩:=h;exact⟨_,_,⟨l,z,i,rfl,rfl⟩,j⟩
 case buildSlice=>obtain⟨z,i,j⟩:=h;exact⟨_,_,⟨z,i,rfl,rfl⟩,j⟩
 case load=>obtain⟨z,i,j⟩:=h;exact⟨_,_,⟨z,i,rfl,rfl⟩,j⟩
 case store=>obtain⟨z,i,j⟩:=h;exact⟨_,_,⟨z,i,rfl,rfl⟩,j⟩
 case nilCheck=>obtain⟨z,i,j⟩:=h;exact⟨_,_,⟨z,i,rfl,rfl⟩,j⟩
 case binOp =>
  split at h
  .rename_i p
   simp only[if_pos p];obtain⟨z,T,U⟩:=h.det
   grind
  .rename_i p
   simp only[if_neg p];obtain⟨z,i,j⟩:=h;exact⟨_,_,⟨z,i,rfl,rfl⟩,j⟩
 case unOp=>obtain⟨z,i,j⟩:=h;exact⟨_,_,⟨z,i,rfl,rfl⟩,j⟩
 case convert=>obtain⟨l,z,i,j⟩:=h;exact⟨_,_,⟨l,z,i,rfl,rfl⟩,j⟩
 case makeInterface=>grind
 case makeSlice=>obtain⟨z,i,j⟩:=h;exact⟨_,_,⟨z,i,rfl,rfl⟩,j⟩
 case slice=>obtain⟨l,z,i,j⟩:=h;exact⟨_,_,⟨l,z,i,rfl,rfl⟩,j⟩
 case fieldAddr=>obtain⟨z,i,j⟩:=h;exact⟨_,_,⟨z,i,rfl,rfl⟩,j⟩
 case field=>obtain⟨z,i,j⟩:=h;exact⟨_,_,⟨z,i,rfl,rfl⟩,j⟩
 case indexAddr=>obtain⟨z,i,j⟩:=h;exact⟨_,_,⟨z,i,rfl,rfl⟩,j⟩
 case index=>obtain⟨z,i,j⟩:=h;exact⟨_,_,⟨z,i,rfl,rfl⟩,j⟩
 case extract=>obtain⟨z,i,j⟩:=h;exact⟨_,_,⟨z,i,rfl,rfl⟩,j⟩
 case typeAssert=>obtain⟨z,i,j⟩:=h;exact⟨_,_,⟨z,i,rfl,rfl⟩,j⟩
 case makeMap=>grind
 case lookup=>obtain⟨z,i,j⟩:=h;exact⟨_,_,⟨z,i,rfl,rfl⟩,j⟩
 case mapUpdate=>obtain⟨z,i,j⟩:=h;exact⟨_,_,⟨z,i,rfl,rfl⟩,j⟩
 case insert=>obtain⟨z,i,j⟩:=h;exact⟨_,_,⟨z,i,rfl,rfl⟩,j⟩
 case mapEntry=>obtain⟨z,i,j⟩:=h;exact⟨_,_,⟨z,i,rfl,rfl⟩,j⟩
 case entryStore=>obtain⟨z,i,j⟩:=h;exact⟨_,_,⟨z,i,rfl,rfl⟩,j⟩
 case range=>obtain⟨z,i,j⟩:=h;exact⟨_,_,⟨z,i,rfl,rfl⟩,j⟩
 case next=>exact absurd h.1 (by simp)
 case entry=>obtain⟨z,i,j⟩:=h;exact⟨_,_,⟨z,i,rfl,rfl⟩,j⟩
 case panic=>exact absurd h.1 (by simp)
 case call c =>
  obtain⟨callee,args,R⟩:=c;cases callee with
  |invoke r m=>exact h.elim
  |value f =>
   rcases h with ⟨v,i,j⟩|⟨i,_⟩
   .exact ⟨_,_,.inl ⟨v,i,rfl,rfl⟩,j⟩
   .exact absurd i (by simp)
  |builtin b =>
   cases b<;>simp only at h⊢<;>try (first | (obtain⟨z,m,i,j⟩:=h;exact⟨_,_,⟨z,m,i,rfl,rfl⟩,j⟩) | (obtain⟨z,i,j⟩:=h;exact⟨_,_,⟨z,i,rfl,rfl⟩,j⟩))
   obtain⟨s,x,i,h⟩:=h;obtain⟨v,m,g,k⟩:=h.det;exact⟨v,m,⟨s,x,i,g⟩,k⟩
theorem DS.mem{ev:zT->AV}{v:AV}(h:DS P pl o ev mu v m)(l:memW pl o=false):m=mu/\(memR o=false->∀ i,DS P pl o ev i v i):=by
 unfold DS at *
 unfold memW at l;unfold memR;cases C:o.op<;>rw[C]at h l<;>simp only[qA]at h⊢<;>try (exact h.elim)
 case move=>grind
 case assign=>grind
 case makeFunc=>grind
 case pick=>grind
 case alloc=>exact absurd l (by simp)
 case box =>
  grind
 case build=>obtain⟨p,z,j,g⟩:=h;exact⟨g.2.symm,fun _ i=>⟨p,z,j,g.1,by first|rfl|trivial⟩⟩
 case buildSlice=>obtain⟨z,j,g⟩:=h;exact⟨g.2.symm,fun _ i=>⟨z,j,g.1,by first|rfl|trivial⟩⟩
 case load=>obtain⟨z,j,g⟩:=h;grind
 case store=>exact absurd l (by simp)
 case nilCheck=>obtain⟨z,j,g⟩:=h;exact⟨g.2.symm,fun _ i=>⟨z,j,g.1,by first|rfl|trivial⟩⟩
 case binOp =>
  split at h
  .rename_i t
   simp only[if_pos t];obtain⟨z,J,R⟩:=h.det
   grind
  .rename_i t
   simp only[if_neg t];obtain⟨z,j,g⟩:=h;exact⟨g.2.symm,fun _ i=>⟨z,j,g.1,by first|rfl|trivial⟩⟩
 case unOp=>obtain⟨z,j,g⟩:=h;exact⟨g.2.symm,fun _ i=>⟨z,j,g.1,by first|rfl|trivial⟩⟩
 case convert=>obtain⟨p,z,j,g⟩:=h;exact⟨g.2.symm,fun _ i=>⟨p,z,j,g.1,by first|rfl|trivial⟩⟩
 case makeInterface=>grind
 case makeSlice=>exact absurd l (by simp)
 case slice=>obtain⟨p,z,j,g⟩:=h;exact⟨g.2.symm,fun _ i=>⟨p,z,j,g.1,by first|rfl|trivial⟩⟩
 case fieldAddr=>obtain⟨z,j,g⟩:=h;exact⟨g.2.symm,fun _ i=>⟨z,j,g.1,by first|rfl|trivial⟩⟩
 case field=>obtain⟨z,j,g⟩:=h;exact⟨g.2.symm,fun _ i=>⟨z,j,g.1,by first|rfl|trivial⟩⟩
 case indexAddr=>obtain⟨z,j,g⟩:=h;exact⟨g.2.symm,fun _ i=>⟨z,j,g.1,by first|rfl|trivial⟩⟩
 case index=>obtain⟨z,j,g⟩:=h;exact⟨g.2.symm,fun _ i=>⟨z,j,g.1,by first|rfl|trivial⟩⟩
 case extract=>obtain⟨z,j,g⟩:=h;exact⟨g.2.symm,fun _ i=>⟨z,j,g.1,by first|rfl|trivial⟩⟩
 case typeAssert=>obtain⟨z,j,g⟩:=h;exact⟨g.2.symm,fun _ i=>⟨z,j,g.1,by first|rfl|trivial⟩⟩
 case makeMap=>exact absurd l (by simp)
 case lookup=>obtain⟨z,j,g⟩:=h;grind
 case mapUpdate=>exact absurd l (by simp)
 case insert=>exact absurd l (by simp)
 case mapEntry=>exact absurd l (by simp)
 case entryStore=>exact absurd l (by simp)
 case range=>exact absurd l (by simp)
 case next=>exact absurd l (by simp)
 case entry=>obtain⟨z,j,g⟩:=h;grind
 case panic=>exact absurd h.1 (by simp)
 case call c =>
  obtain⟨callee,args,I⟩:=c;cases callee with
  |invoke r m=>exact h.elim
  |value f =>
   rcases h with ⟨v,j,g⟩|⟨j,_⟩
   .grind
   grind
  |builtin b =>
   cases b<;>simp only at h l⊢<;>first
    | (obtain⟨z,j,g⟩:=h;grind)
    | (exact absurd l (by simp))
theorem wL{ev:zT->AV}{l:Array zT}(h:∀ x,x∈l->ev x=ev' x):evs ev l.toList=evs ev' l.toList:=
 List.map_congr_left fun x g=>h x (by simpa using g)
theorem Jp{ev:zT->AV}{l:Array (Nat×zT)}(h:∀ x,x∈(l.toList.map (·.2)).toArray->ev x=ev' x):(l.toList.map fun p=>(p.1,ev p.2))=l.toList.map fun p=>(p.1,ev' p.2):=
 List.map_congr_left fun p g=>by grind
theorem Jq{ev:zT->AV}{o:Option zT}(h:∀ x,x∈o.toArray->ev x=ev' x):o.map ev=o.map ev':=by
 cases o with
 |none=>rfl
 |some x=>simp[h x (by simp)]
theorem DS.congr{ev:zT->AV}{v:AV}(h:DS P pl o ev mu v m)(g:∀ x,x∈o.op.operands->ev x=ev' x):DS P pl o ev' mu v m:=by
 unfold DS at *
 cases p:o.op<;>rw[p]at h g<;>simp only[qA,Op.operands]at h g⊢<;>try (exact h.elim)
 case move x=>rw[<-g x (by simp)];exact h
 case assign x=>rw[<-g x (by simp)];exact h
 case makeFunc f first j =>
  grind [wL]
 case pick c x y=>grind
 case alloc=>exact h
 case box t x=>rw[<-g x (by simp)];exact h
 case build t C=>rw[<-Jp g];exact h
 case buildSlice t n C=>rw[<-Jp g];exact h
 case load t x=>rw[<-g x (by simp)];exact h
 case store t x y=>grind
 case nilCheck x=>rw[<-g x (by simp)];exact h
 case binOp op t x y R=>grind
 case unOp op t x=>rw[<-g x (by simp)];exact h
 case convert s t x=>rw[<-g x (by simp)];exact h
 case makeInterface t x=>rw[<-g x (by simp)];exact h
 case makeSlice t x y=>grind
 case slice t x T U mx =>
  grind [Jq]
 case fieldAddr t x f=>rw[<-g x (by simp)];exact h
 case field t x f=>rw[<-g x (by simp)];exact h
 case indexAddr t x i=>grind
 case index t x i=>grind
 case extract x i=>rw[<-g x (by simp)];exact h
 case typeAssert x xt t ok=>rw[<-g x (by simp)];exact h
 case makeMap=>exact h
 case lookup t m k ok=>grind
 case mapUpdate t m k v=>grind
 case insert t m k v=>grind
 case mapEntry t m k=>grind
 case entryStore t m k v=>grind
 case range t m=>rw[<-g m (by simp)];exact h
 case next=>exact absurd h.1 (by simp)
 case entry i=>rw[<-g i (by simp)];exact h
 case panic x=>exact absurd h.1 (by simp)
 case call c =>
  obtain⟨callee,args,I⟩:=c;cases callee with
  |invoke r m=>exact h.elim
  |value f =>
   grind [Call.operands,wL]
  |builtin b =>
   simp only[Call.operands]at g;simp only at h⊢;rw[<-wL (l:=args) (fun x J=>g x (by simp[J]))];exact h
theorem KD(g:MuLe mu l){p:AV}{n:Nat}{cs:List AV}(h:jJ mu p n=some cs):jJ l p n=some cs:=by
 unfold jJ at *
 split at h
 .exact h
 .split at h
  .rename_i i;rw[g _ _ i];exact h
  grind
 grind
theorem qb1(i:MuLe mu l){t:qf}{p z:AV}(h:vP P mu t p=some z):vP P l t p=some z:=by
 unfold vP at *
 split at h
 .rename_i n o r
  cases g:jJ mu p n with
  |none=>rw[g]at h;exact absurd h (by simp)
  |some j=>rw[g]at h;rw[KD i g];exact h
 .cases g:jJ mu p 1 with
  |none=>rw[g]at h;exact absurd h (by simp)
  |some j=>rw[g]at h;rw[KD i g];exact h
 grind
theorem qb2(g:MuLe mu l){m:AV}{es:List (AV×AV)}(h:jA mu m=some es):jA l m=some es:=by
 unfold jA at *
 split at h
 .exact h
 .split at h
  .rename_i i;rw[g _ _ i];exact h
  grind
 .exact h
 grind
theorem KE(g:MuLe mu l){t:qf}{m k z:AV}{ok:Bool}(h:yE P mu t m k ok=some z):yE P l t m k ok=some z:=by
 grind [yE,qb2,absurd]
theorem qb3(g:MuLe mu l){t:qf}{m k z:AV}{ok:Bool}(h:yK P mu t m k ok=some z):yK P l t m k ok=some z:=by
 cases m with
 |ims T =>
  simp only[yK]at h⊢;cases i:mapT P t with
  |none=>rw[i]at h;exact absurd h (by simp)
  |some q =>
   rw[i]at h;simp only at h⊢;split at h
   .rename_i j
    rw[if_pos j];exact KE g h
   grind
 |_=>exact KE g h
theorem qb4(g:MuLe mu l){x z:AV}(h:wI mu x=some z):wI l x=some z:=by
 unfold wI at *
 split at h
 .split at h
  .rename_i i;rw[g _ _ i];exact h
  grind
 grind
theorem qb5(g:MuLe mu l){t:qf}{x z:AV}(h:lenA P mu t x=some z):lenA P l t x=some z:=by
 unfold lenA at *
 split at h
 .exact h
 .exact h
 .exact h
 .exact h
 .exact h
 .split at h
  .rename_i i j;rw[i,g _ _ j];exact h
  grind
 grind
theorem qb6(g:MuLe mu l){b:Builtin}{ts:Array qf}{xs:List AV}{z:AV}(h:jX P mu b ts xs=some z):jX P l b ts xs=some z:=by
 unfold jX at *
 split at h
 .exact qb5 g h
 .exact h
 .exact h
 .exact h
 grind
theorem Rd.le(J:MuLe mu l){x y:AV}(h:Rd mu x y):Rd l x y:=by
 induction h with
 |hf x h=>exact .hf x h
 |sl b p off len cells j I hl i P h o=>exact .sl b p off len cells j (J _ _ I) hl i P o
 |ptr b off cells j I i h o=>exact .ptr b off cells j (J _ _ I) i o
 |mp b T R I i hk hv r C=>exact .mp b T R (J _ _ I) i r C
 |md b T R I i hk hv r C=>exact .md b T R (J _ _ I) i r C
 |agg g j i h o=>exact .agg g j i o
 |tup g j i h o=>exact .tup g j i o
 |lst full g j i P h o=>exact .lst full g j i P o
 |fn f a b c d i U h h' r C=>exact .fn f a b c d i U r C
 |ifc t x y h o=>exact .ifc t x y o
 |wk x full j h o=>exact .wk x full j o
 |ims x T a0 σ τ hp hd h o=>exact .ims x T a0 σ τ hp hd o
theorem Rds.le(g:MuLe mu l):∀{xs ys:List AV},Rds mu xs ys->Rds l xs ys
 | [],[],_=>trivial
 |x :: xs,y :: ys,⟨h,t⟩=>⟨h.le g,Rds.le g t⟩
 | [],_ :: _,h=>h.elim
 |_ :: _,[],h=>h.elim
theorem ZO.le(t:MuLe mu l){f:AV}{args:List AV}{v:AV}(h:ZO P mu f args v):ZO P l f args v:=by
 rcases h with ⟨g,first,j,i,p,r,o⟩|⟨g,first,j,i,p,r,o⟩
 .refine .inl ⟨g,first,j,i,p,r,?_⟩
  rcases o with o|⟨o,C⟩
  .exact .inl o
  .exact .inr ⟨o.le t,C⟩
 .exact .inr ⟨g,first,j,i,p,r,o.le t⟩
theorem DS.le{ev:zT->AV}{v:AV}(j:reads pl o=true)(p:MuLe mu l)(h:DS P pl o ev mu v m):DS P pl o ev l v l:=by
 unfold reads at j;rw[qr,Bool.not_eq_true']at j;obtain⟨j,t⟩:=j;unfold DS at *
 unfold memR at j;unfold memW at t;cases C:o.op<;>rw[C]at h j t<;>simp only[qA]at h⊢<;>try grind
 case load=>obtain⟨z,g,i⟩:=h;exact⟨z,qb1 p g,i.1,by first|rfl|trivial⟩
 case lookup=>obtain⟨z,g,i⟩:=h;exact⟨z,qb3 p g,i.1,by first|rfl|trivial⟩
 case entry=>obtain⟨z,g,i⟩:=h;exact⟨z,qb4 p g,i.1,by first|rfl|trivial⟩
 case call c =>
  obtain⟨callee,args,I⟩:=c;cases callee with
  |invoke r m=>exact h.elim
  |value f =>
   rcases h with ⟨v,g,i⟩|⟨g,_⟩
   .exact .inl ⟨v,g.le p,i.1,by first|rfl|trivial⟩
   grind
  |builtin b =>
   cases b<;>simp only at h t⊢<;>first
    | (obtain⟨z,g,i⟩:=h;exact⟨z,qb6 p g,i.1,by first|rfl|trivial⟩)
    | (exact absurd t (by simp))
theorem DS.push{ev:zT->AV}{v:AV}(j:Un pl o=true)(h:DS P pl o ev mu v m):MuLe mu m:=by
 unfold DS at *
 unfold Un at j;cases p:o.op<;>rw[p]at h j<;>simp only[qA]at h<;>try grind
 case alloc=>obtain⟨z,g,i,l,r⟩:=h;rw[<-r];exact .push _ _
 case box =>
  obtain⟨g,i⟩:=h;simp only at j;rw[if_pos j]at i;rw[<-i.2];exact .push _ _
 case makeSlice =>
  obtain⟨z,g,i,l⟩:=h;rw[<-l];unfold Qm at g;split at g
  .split at g
   .split at g
    .simp only[qo]at g
     rw[<-g];exact .push _ _
    grind
   grind
  grind
 case makeMap=>obtain⟨t,g,i⟩:=h;rw[<-i];exact .push _ _
end
end Go.Ev
namespace Go.Ev
open Go Go.RowKit
section
variable {o:us}
theorem KF{pl:Pol}(h:reads pl o=true):memW pl o=false:=by
 simp_all[reads,qr]
theorem qb7{pl:Pol}(h:reads pl o=true):memR o=true:=by
 unfold reads at h;rw[qr]at h;exact h.1
theorem qb8{pl:Pol}(h:memW pl o=true):reads pl o=false:=by
 unfold reads;rw[h];simp
theorem qb9{pl:Pol}{a b:us}(h:reads pl a=false):soft pl a b=false:=by
 unfold soft;rw[h];simp only[Bool.false_and,Bool.or_false]
 grind [reads,memR,memW,absurd]
theorem qcA{P:qb}{pl:Pol}{a b:us}(h:soft pl a b=true){ev ev':zT->AV}{mu m:Mu}{v l:AV}(g:DS P pl b ev' mu l m)(i:DS P pl a ev mu v mu):DS P pl a ev m v m:=by
 unfold soft at h;rw[jT]at h;rcases h with h|h
 .split at h
  .rename_i t U ko t' o p r C
   have I:=beq_iff_eq.1 h;subst I;unfold DS at *
   rw[r]at i⊢;rw[C]at g;simp only[qA]at i g⊢;obtain⟨z,J,R,_⟩:=i;obtain⟨y,T,_,j⟩:=g;obtain⟨y1,y2⟩:=y;simp only at j;subst j;exact⟨z,qbJ T J,R,by first|rfl|trivial⟩
  grind
 .rw [qr]at h
  exact i.le h.1 (g.push h.2)
section
variable (P:qb) (pl:Pol) (ops:Array us)
def jk(st:St)(o:us)(g:St):Prop:=
 ∃ b,zI ops st o=some b/\(b=true->∃ v m,DS P pl o st.ev st.mu v m/\g=st.put o.dst v m)/\(b=false->g=st.put o.dst (.sc j2) st.mu)
theorem Uo{Q:St->Prop}{r:AV->St->Prop}:∀(l:List us) (st:St),awpS P pl true ops l Q r st ->
  ∃ g:Nat->St,g 0=st/\Q (g l.length)/\∀(i:Nat) (o:us),l[i]?=some o->jk P pl ops (g i) o (g (i+1)):=by
 intro l;induction l with
 |nil=>intro st h;exact⟨fun _=>st,rfl,h,by simp⟩
 |cons o l C =>
  intro st h;obtain⟨b,t,I,J⟩:=h;have key:∀ j:St,awpS P pl true ops l Q r j->jk P pl ops st o j->∃ g:Nat->St,g 0=st/\Q (g (o :: l).length)/\∀(i:Nat) (x:us),(o :: l)[i]?=some x->jk P pl ops (g i) x (g (i+1)):=by
   intro j p R;obtain⟨g,e0,T,hs⟩:=C j p;refine⟨fun i=>match i with|0=>st|k+1=>g k,rfl,T,fun i x hx=>?_⟩
   grind
  cases b with
  |true =>
   obtain⟨v,m,U,hk⟩:=qA.det (I rfl);exact key _ hk ⟨true,t,fun _=>⟨v,m,U,rfl⟩,fun h=>absurd h (by simp)⟩
  |false=>exact key _ (J rfl) ⟨false,t,fun h=>absurd h (by simp),fun _=>rfl⟩
variable (po:Array us)
def jM(k:Nat):Option Tmp:=(po[k]?).bind (·.dst)
def wAt(k:Nat):Bool:=(po[k]?).any (memW pl)
def Sst(g:Nat->St)(S:List Nat):Nat->St
 | 0=>g 0
 |k+1=>if k∈S then ⟨fun t=>if jM po k=some t then (g (k+1)).tm t else (Sst g S k).tm t,if wAt pl po k=true then (g (k+1)).mu else (Sst g S k).mu⟩ else Sst g S k
variable {P pl ops po}
theorem jd{st:St}{d:Option Tmp}{v:AV}{m:Mu}{t:Tmp}(h:d≠some t):(st.put d v m).tm t=st.tm t:=by
 cases d with
 |none=>rfl
 |some d =>
  simp only[St.put]
  grind
theorem jk.frame{st g:St}(h:jk P pl ops st o g){t:Tmp}(i:o.dst≠some t):g.tm t=st.tm t:=by
 obtain⟨b,_,l,j⟩:=h;cases b with
 |true=>grind [jd]
 |false=>rw[j rfl];exact jd i
theorem jk.mem{st g:St}(h:jk P pl ops st o g)(i:memW pl o=false):g.mu=st.mu:=by
 obtain⟨b,_,j,l⟩:=h;cases b with
 |true=>obtain⟨v,m,p,rfl⟩:=j rfl;exact(p.mem i).1
 |false=>rw[l rfl];rfl
variable {stf:Nat->St}
theorem qcB(j:∀(i:Nat) (o:us),po[i]?=some o->jk P pl ops (stf i) o (stf (i+1))){k:Nat}(l:k<po.size){t:Tmp}(h:jM po k≠some t):(stf (k+1)).tm t=(stf k).tm t:=by
 have g:po[k]?=some po[k]:=by simp[l]
 exact(j k _ g).frame (by unfold jM at h;rw[g]at h;exact h)
theorem KG(j:∀(i:Nat) (o:us),po[i]?=some o->jk P pl ops (stf i) o (stf (i+1))){k:Nat}(l:k<po.size)(h:wAt pl po k=false):(stf (k+1)).mu=(stf k).mu:=by
 have g:po[k]?=some po[k]:=by simp[l]
 exact(j k _ g).mem (by unfold wAt at h;rw[g]at h;exact h)
theorem Up(l:∀(i:Nat) (o:us),po[i]?=some o->jk P pl ops (stf i) o (stf (i+1)))(S:List Nat)(t:Tmp)(j:Nat)(r:∀ k,k<j->jM po k=some t->k∈S)(C:∀ k,j<=k->k<po.size->jM po k=some t->k ∉ S) :
  ∀ m,m<=po.size->(Sst pl po stf S m).tm t=(stf (min m j)).tm t:=by
 intro m;induction m with
 |zero=>intro _;simp[Sst]
 |succ m g =>
  intro I;have g:=g (by omega);simp only[Sst];by_cases p:jM po m=some t
  .grind
  .have e:(if m∈S then (⟨fun t=>if jM po m=some t then (stf (m+1)).tm t else (Sst pl po stf S m).tm t,if wAt pl po m=true then (stf (m+1)).mu else (Sst pl po stf S m).mu⟩:St) else Sst pl po stf S m).tm t=(Sst pl po stf S m).tm t:=by
    grind
   rw[e,g];by_cases J:m<j
   .rw [Nat.min_eq_left (by omega),Nat.min_eq_left (by omega),qcB l (by omega) p]
   grind
theorem Jr(l:∀(i:Nat) (o:us),po[i]?=some o->jk P pl ops (stf i) o (stf (i+1)))(S:List Nat)(j:Nat)(r:∀ k,k<j->wAt pl po k=true->k∈S)(C:∀ k,j<=k->k<po.size->wAt pl po k=true->k ∉ S) :
  ∀ m,m<=po.size->(Sst pl po stf S m).mu=(stf (min m j)).mu:=by
 intro m;induction m with
 |zero=>intro _;simp[Sst]
 |succ m g =>
  intro I;have g:=g (by omega);simp only[Sst];by_cases p:wAt pl po m=true
  .grind
  .have e:(if m∈S then (⟨fun t=>if jM po m=some t then (stf (m+1)).tm t else (Sst pl po stf S m).tm t,if wAt pl po m=true then (stf (m+1)).mu else (Sst pl po stf S m).mu⟩:St) else Sst pl po stf S m).mu=(Sst pl po stf S m).mu:=by
    grind
   rw[e,g];by_cases J:m<j
   .rw [Nat.min_eq_left (by omega),Nat.min_eq_left (by omega),KG l (by omega) (by simpa using p)]
   grind
theorem qcC(S:List Nat)(t:Tmp)(j:Nat)(g:jM po j≠some t):∀ m,(Sst pl po stf (S++[j]) m).tm t=(Sst pl po stf S m).tm t:=by
 intro m;induction m with
 |zero=>rfl
 |succ m i =>
  simp only[Sst];by_cases l:m∈S
  .grind
  grind
theorem qcD(S:List Nat)(j:Nat)(g:wAt pl po j=false):∀ m,(Sst pl po stf (S++[j]) m).mu=(Sst pl po stf S m).mu:=by
 intro m;induction m with
 |zero=>rfl
 |succ m i =>
  simp only[Sst];by_cases l:m∈S
  .grind
  grind
def OrdC(pl:Pol)(ops po:Array us)(L:List Nat):Prop:=∀(i k:Nat) x y,i<k->po[i]?=some x->po[k]?=some y->z7 pl ops x y=true->Bef L i k
theorem Uq(hs:∀(i:Nat) (o:us),po[i]?=some o->jk P pl ops (stf i) o (stf (i+1))){ro:Ro}{G0:Gh}{al:Mu}{w0:qh}{n:Nat}(s0:Sim G0 al w0.heap)(b0:Nat->Nat)(b1:∀ k,k<po.size->ops[b0 k]?=po[k]?)(b2:(po.toList.all fun o=>dOk n o.dst)=true){QQ:Exit->Act->qh->Prop}
    (hQ:∀ a w G,Rel ro G0 al w0 n G (stf po.size) a w->QQ .normal a w) :
    ∀(post pre:List Nat) (a:Act) (w:qh) (G:Gh),OrdC pl ops po (pre++post)->(pre++post).length=po.size->(∀ k,k∈pre++post->k<po.size)->(pre++post).Nodup ->
      Rel ro G0 al w0 n G (Sst pl po stf pre po.size) a w->wpOpsIn (WF ro) 0 P ops QQ (post.map b0) a w:=by
  intro post;induction post with
  |nil =>
    intro pre a w G ht a7 a9 aa r;simp only[zO]at ht a7 a9 aa;simp only[List.map_nil,wpOpsIn];refine hQ a w G ?_;have ai:∀ i,i<po.size->i∈pre:=by
      intro i hi;refine vG fun h=>?_
      have h1:(i :: pre).length<=(qt po.size).length:=jU (jx.2 ⟨h,aa⟩) (fun k hk=>by
        grind)
      simp at h1;omega
    have e:Sst pl po stf pre po.size=stf po.size:=by
      have e1:(Sst pl po stf pre po.size).tm=(stf po.size).tm:=by
        funext t;rw[Up hs pre t po.size (fun k hk _=>ai k hk) (fun k h1 h2 _=>absurd h2 (by omega)) po.size (qs _),Nat.min_self]
      have e2:(Sst pl po stf pre po.size).mu=(stf po.size).mu:=by
        rw[Jr hs pre po.size (fun k hk _=>ai k hk) (fun k h1 h2 _=>absurd h2 (by omega)) po.size (qs _),Nat.min_self]
      cases hq:Sst pl po stf pre po.size;simp_all
    rw[<-e];exact r
  |cons j post ih =>
    intro pre a w G ht a7 a9 aa r;have hj:j<po.size:=a9 j (by simp);have ag:j ∉ pre:=fun h=>by
      grind
    have ho:po[j]?=some po[j]:=by simp[hj]
    generalize cl:po[j]=o at ho;have b3:dOk n o.dst=true:=qH.1 b2 o (by grind)
    have I:∀(k:Nat) (x:us),k<j->po[k]?=some x->z7 pl ops x o=true->k∈pre:=fun k x hk C hc=>ht k j x o hk C ho hc pre post rfl
    have ab:∀(i k:Nat) (x y:us),i<k->po[i]?=some x->po[k]?=some y->z7 pl ops x y=true->k∈pre->i∈pre:=by
      intro i k x y bi C hy hc hk;obtain⟨p,q,e⟩:=List.append_of_mem hk;have:=ht i k x y bi C hy hc p (q++j :: post) (by rw[e];simp);rw[e];simp[this]
    have after:∀(k:Nat) (x:us),j<k->po[k]?=some x->z7 pl ops o x=true->k ∉ pre:=fun k x hk C hc bj=>ag (ab j k o x hk ho C hc bj)
    have a0:∀ k t,jM po k=some t->∃ x,po[k]?=some x/\x.dst=some t:=by
      intro k t h;unfold jM at h;cases C:po[k]? with
      |none=>rw[C]at h;exact absurd h (by simp)
      |some x=>rw[C]at h;exact⟨x,rfl,h⟩
    have a1:∀ k,wAt pl po k=true->∃ x,po[k]?=some x/\memW pl x=true:=by
      intro k h;unfold wAt at h;cases C:po[k]? with
      |none=>rw[C]at h;exact absurd h (by simp)
      |some x=>rw[C]at h;exact⟨x,rfl,h⟩
    have cm:∀ k (x:us),po[k]?=some x->j<=k->k≠j->j<k:=fun k x _ h1 h2=>by omega
    have aj:∀ t,t∈uB ops o->(Sst pl po stf pre po.size).tm t=(stf j).tm t:=by
      intro t b4;rw[Up hs pre t j ?_ ?_ po.size (qs _),Nat.min_eq_right (by omega)]
      · intro k hk hd
        obtain⟨x,C,a3⟩:=a0 k t hd;exact I k x hk C (by simp[z7,a3,b4])
      · intro k an ao hd
        by_cases a4:k=j
        · subst a4;exact ag
        · obtain⟨x,C,a3⟩:=a0 k t hd
          exact after k x (by omega) C (by simp[z7,a3,b4])
    have ak:(memW pl o||memR o)=true->reads pl o=false->(Sst pl po stf pre po.size).mu=(stf j).mu:=by
      intro U bk;rw[Jr hs pre j ?_ ?_ po.size (qs _),Nat.min_eq_right (by omega)]
      · intro k hk hd
        obtain⟨x,C,R⟩:=a1 k hd;refine I k x hk C ?_;simp only[z7,R,U,Bool.and_self,Bool.true_or]
      · intro k an ao hd
        by_cases a4:k=j
        · subst a4;exact ag
        · obtain⟨x,C,R⟩:=a1 k hd
          refine after k x (by omega) C ?_;have bl:=qb9 (b:=x) bk;simp only[z7,R,bl,Bool.true_or,Bool.and_true,Bool.not_false];simp only[jT]at U⊢;rcases U with U|U
          · exact .inl (.inl (.inl U))
          · exact .inl (.inl (.inr U))
    have ah:reads pl o=true->∀(ev:zT->AV) v m,DS P pl o ev (stf j).mu v m->DS P pl o ev (Sst pl po stf pre po.size).mu v (Sst pl po stf pre po.size).mu:=by
      intro a5 ev v m aq;have b5:memW pl o=false:=KF a5;have b6:memR o=true:=qb7 a5;have bef:∀ k,k<j->wAt pl po k=true->k∈pre:=by
        intro k hk hd;obtain⟨x,C,R⟩:=a1 k hd;refine I k x hk C ?_;simp only[z7,R,b6,Bool.or_true,Bool.and_self,Bool.true_or]
      obtain⟨J,bm,cn,b7,bn⟩:∃ J,j<=J/\J<=po.size/\(∀ k,k<J->wAt pl po k=true->k∈pre)/\(∀ k,J<=k->k<po.size->wAt pl po k=true->k ∉ pre):=by
        have down:∀ d,d<=po.size-j->(∀ k,po.size-d<=k->k<po.size->wAt pl po k=true->k ∉ pre) \/
            ∃ J,j<=J/\J<=po.size/\(∀ k,k<J->wAt pl po k=true->k∈pre)/\(∀ k,J<=k->k<po.size->wAt pl po k=true->k ∉ pre):=by
          intro d;induction d with
          |zero=>intro _;exact .inl (fun k h1 h2 _=>absurd h2 (by omega))
          |succ d bo =>
            intro hd;rcases bo (by omega) with h|h
            · by_cases hw:wAt pl po (po.size-(d+1))=true/\(po.size-(d+1))∈pre
              · obtain⟨bq,b8⟩:=hw
                refine .inr ⟨po.size-d,by omega,by omega,fun k hk br=>?_,fun k h1 h2 h3=>h k h1 h2 h3⟩;by_cases ar:k=po.size-(d+1)
                · rw[ar];exact b8
                · obtain⟨x,C,R⟩:=a1 k br
                  obtain⟨y,hy,bs⟩:=a1 _ bq;exact ab k _ x y (by omega) C hy (by simp only[z7,R,bs,Bool.true_or,Bool.and_self]) b8
              · refine .inl (fun k h1 h2 h3 h4=>?_)
                by_cases ar:k=po.size-(d+1)
                · rw[ar]at h3 h4;exact hw ⟨h3,h4⟩
                · exact h k (by omega) h2 h3 h4
            · exact .inr h
        rcases down (po.size-j) (qs _) with h|h
        · exact⟨j,qs _,by omega,bef,fun k h1 h2 h3=>h k (by omega) h2 h3⟩
        · exact h
      have bt:(Sst pl po stf pre po.size).mu=(stf J).mu:=by
        rw[Jr hs pre J b7 bn po.size (qs _),Nat.min_eq_right (by omega)]
      have chain:∀ T,j<=T->T<=J->∀ v m,DS P pl o ev (stf j).mu v m->DS P pl o ev (stf T).mu v (stf T).mu:=by
        intro T;induction T with
        | zero =>
                  intro h1 _ v m h;have:j=0:=by omega
                  subst this;have:=(h.mem b5).1;rw[this]at h;exact h
        |succ T bu =>
          intro h1 h2 v m h;by_cases he:j=T+1
          · rw[<-he];have:=(h.mem b5).1;rw[this]at h;exact h
          · have a6:=bu (by omega) (by omega) v m h
            by_cases hw:wAt pl po T=true
            · have au:=b7 T (by omega) hw
              obtain⟨x,C,R⟩:=a1 T hw;have cp:j≠T:=fun e=>by rw[<-e]at au;exact ag au
              have av:soft pl o x=true:=by
                refine Decidable.byContradiction fun b9=>after T x (by omega) C ?_ au
                simp only[z7,b6,R,Bool.not_eq_true]at b9⊢;simp[b9]
              obtain⟨b',cq,bb,bc⟩:=hs T x C;cases b' with
              |true =>
                obtain⟨v',m2,bv,be⟩:=bb rfl;rw[be];have:((stf T).put x.dst v' m2).mu=m2:=by cases x.dst<;>rfl
                rw[this];exact qcA av bv a6
              | false =>
                         rw[bc rfl];have:((stf T).put x.dst (.sc j2) (stf T).mu).mu=(stf T).mu:=by cases x.dst<;>rfl
                         rw[this];exact a6
            · have:=KG hs (k:=T) (by omega) (by simpa using hw)
              rw[this];exact a6
      rw[bt];exact chain J bm (qs _) v m aq
    have aw:∀ t,o.dst=some t->(Sst pl po stf (pre++[j]) po.size).tm t=(stf (j+1)).tm t:=by
      intro t a2;rw[Up hs (pre++[j]) t (j+1) ?_ ?_ po.size (qs _),Nat.min_eq_right (by omega)]
      · intro k hk hd
        by_cases a4:k=j
        · subst a4;simp
        · obtain⟨x,C,a3⟩:=a0 k t hd
          exact qG.2 (.inl (I k x (by omega) C (by simp[z7,a3,a2])))
      · intro k an ao hd ax
        obtain⟨x,C,a3⟩:=a0 k t hd;rcases qG.1 ax with h|h
        · exact after k x (by omega) C (by simp[z7,a3,a2]) h
        · simp at h;omega
    have ay:memW pl o=true->(Sst pl po stf (pre++[j]) po.size).mu=(stf (j+1)).mu:=by
      intro U;rw[Jr hs (pre++[j]) (j+1) ?_ ?_ po.size (qs _),Nat.min_eq_right (by omega)]
      · intro k hk hd
        by_cases a4:k=j
        · subst a4;simp
        · obtain⟨x,C,R⟩:=a1 k hd
          exact qG.2 (.inl (I k x (by omega) C (by simp[z7,R,U])))
      · intro k an ao hd ax
        obtain⟨x,C,R⟩:=a1 k hd;rcases qG.1 ax with h|h
        · exact after k x (by omega) C (by simp[z7,R,U]) h
        · simp at h;omega
    have bw:jM po j=o.dst:=by unfold jM;rw[ho];rfl
    have ca:wAt pl po j=memW pl o:=by unfold wAt;rw[ho];rfl
    have ad:∀(v:AV) (m:Mu),(∀ t,o.dst=some t->v=(stf (j+1)).tm t)->(memW pl o=true->m=(stf (j+1)).mu)->(memW pl o=false->m=(Sst pl po stf pre po.size).mu) ->
        (Sst pl po stf pre po.size).put o.dst v m=Sst pl po stf (pre++[j]) po.size:=by
      intro v m h1 h2 h3;have e1:((Sst pl po stf pre po.size).put o.dst v m).tm=(Sst pl po stf (pre++[j]) po.size).tm:=by
        funext t;by_cases a2:o.dst=some t
        · rw[aw t a2,<-h1 t a2,a2];simp[St.put]
        · rw[jd a2,qcC pre t j (by rw[bw];exact a2)]
      have e2:((Sst pl po stf pre po.size).put o.dst v m).mu=(Sst pl po stf (pre++[j]) po.size).mu:=by
        cases U:memW pl o with
        |true=>rw[ay U];exact h2 U
        |false=>rw[qcD pre j (by rw[ca];exact U)];exact h3 U
      cases hq:(Sst pl po stf pre po.size).put o.dst v m;cases cb:Sst pl po stf (pre++[j]) po.size;rw[hq,cb]at e1 e2;simp only at e1 e2;rw[e1,e2]
    obtain⟨b,hb,cc,cd⟩:=hs j o ho;have cf:zI ops (Sst pl po stf pre po.size) o=some b:=by
      rw[<-hb];unfold zI;cases hg:o.guard with
      |none=>rfl
      |some q =>
        obtain⟨k,ck⟩:=q;simp only;cases hd:(ops[k]?).bind (·.dst) with
        |none=>rfl
        |some d =>
          simp only;rw[aj d (by simp[uB,hg,hd])]
    have az:=Jn r cf;have ae:∀{st:St} {v:AV} {m:Mu} {t:Tmp},o.dst=some t->(st.put o.dst v m).tm t=v:=by
      intro st v m t h;rw[h];simp[St.put]
    simp only[List.map_cons,wpOpsIn,b1 j hj,ho,az];cases b with
    |false =>
      rw[if_neg (by simp)];have af:=cd rfl;have e:=ad (.sc j2) (Sst pl po stf pre po.size).mu (fun t h=>by rw[af];exact(ae h).symm) (fun h=>by rw[af,ak (by simp[h]) (qb8 h)];rfl) (fun _=>rfl);refine⟨fun _ _=>trivial,ih (pre++[j]) _ _ G (by simpa using ht) (by simpa using a7) (by simpa using a9) (by simpa using aa) ?_⟩;rw[<-e];exact r.put s0 (Stp.refl r.stp.sim) (.sc _ rfl) b3
    |true =>
      rw[if_pos rfl];obtain⟨v,m,aq,af⟩:=cc rfl;have bg:∀ x,x∈o.op.operands->(stf j).ev x=(Sst pl po stf pre po.size).ev x:=by
        intro x C;cases x with
        |tmp t =>
          refine(aj t ?_).symm;simp only[uB,Um,qG,List.mem_filterMap];exact .inl ⟨.tmp t,by simpa using C,rfl⟩
        |const v=>rfl
        |global g=>rfl
        |func f=>rfl
      have a8:=aq.congr bg;have:∃ T,DS P pl o (Sst pl po stf pre po.size).ev (Sst pl po stf pre po.size).mu v T/\(memW pl o=true->T=m)/\(memW pl o=false->T=(Sst pl po stf pre po.size).mu):=by
        by_cases a5:reads pl o=true
        · exact⟨_,ah a5 _ _ _ a8,fun h=>by rw[KF a5]at h;exact absurd h (by simp),fun _=>rfl⟩
        simp only[Bool.not_eq_true]at a5;by_cases U:(memW pl o||memR o)=true
        · rw[ak U a5]
          refine⟨m,a8,fun _=>rfl,fun h=>(a8.mem h).1⟩
        · simp only[jT,not_or,Bool.not_eq_true]at U
          exact⟨_,(a8.mem U.1).2 U.2 _,fun h=>by rw[U.1]at h;exact absurd h (by simp),fun _=>rfl⟩
      obtain⟨T,cg,ch,cj⟩:=this;have e:=ad v T (fun t h=>by rw[af];exact(ae h).symm) (fun h=>by rw[ch h,af];rfl) cj;refine Jl r.stp.sim r.ev cg ?_ ?_
      · rintro v' l G' w' u ⟨rfl,rfl⟩ bh hv
        refine ih (pre++[j]) _ _ G' (by simpa using ht) (by simpa using a7) (by simpa using a9) (by simpa using aa) ?_;rw[<-e];exact r.put s0 bh hv b3
      · intro _ _ _ _ _ h;exact h.elim
end
end
section
variable {ops:Array us}{pl:Pol}{P:qb}
theorem Ur{i:Array us}{g:Nat->St}:∀ m,Sst pl i g [] m=g 0:=by
 intro m;induction m with
 |zero=>rfl
 |succ m j=>simp_all[Sst]
theorem KH{ro:Ro}{C:Gh}{g:Mu}{I:qh}{n:Nat}(U:Sim C g I.heap)(j:(ops.toList.all fun o=>dOk n o.dst)=true)
  {Q:St->Prop} {Qp:AV->St->Prop} {QQ:Exit->Act->qh->Prop} (hQ:∀ st a w G,Q st->Rel ro C g I n G st a w->QQ .normal a w) {st:St} {a:Act} {w:qh} {G:Gh} (r:Rel ro C g I n G st a w)
  (L:List Nat) (l:L.length=ops.size) (J:∀ k,k∈L->k<ops.size) (R:L.Nodup) (p:OrdC pl ops ops L)
  (h:awpS P pl true ops ops.toList Q Qp st):wpOpsIn (WF ro) 0 P ops QQ L a w:=by
 obtain⟨t,e0,hq,hs⟩:=Uo P pl ops ops.toList st h;have T:∀(i:Nat) (o:us),ops[i]?=some o->jk P pl ops (t i) o (t (i+1)):=fun i o ho=>hs i o (by simpa using ho)
 have:=Uq T U (fun i=>i) (fun k _=>rfl) j (fun a w G r=>hQ _ a w G (by simpa using hq) r) L [] a w G p l J R (by rw[Ur,e0];exact r);simpa using this
theorem qcE{F:Fence}{n:Nat}{o:us}{a:Act}{K C:Act->qh->Prop}{Q p:Exit->Act->qh->Prop}{g:Result Next}(j:∀ a w,K a w->C a w)(T:∀ I a w,Q (.panic I) a w->p (.panic I) a w)(ho:LetsOut Q->LetsOut p)
  (h:o.uponIn F n P a K Q g):o.uponIn F n P a C p g:=by
 cases g with
 |halt r w=>cases r<;>first|exact h.elim|exact T _ _ _ h
 |ok U w =>
  cases U
  case value v=>exact j _ _ h
  case skip=>exact j _ _ h
  case defer d=>exact j _ _ h
  case enter f args =>
   refine⟨h.1,h.2.1,fun cs t=>?_⟩;obtain⟨e,w',fr,hR,J⟩:=h.2.2 cs t
   grind
  case row row args=>exact⟨h.1,h.2.mono fun _ _ t=>j _ _ t⟩
  case round l f R a0 i =>
   refine⟨h.1,RoundIn.mono h.2 fun e w' hR=>?_⟩
   grind
  all_goals exact h.elim
theorem Js{F:Fence}{n:Nat}{QQ:Exit->Act->qh->Prop}:∀(j g:List Nat) (a:Act) (w:qh),wpOpsIn F n P ops (Exit.then (wpOpsIn F n P ops QQ g) QQ) j a w->wpOpsIn F n P ops QQ (j++g) a w
 | [],g,a,w,h=>h
 |i :: j,g,a,w,h=>by
  simp only[wpOpsIn,yD]at h⊢;cases r:ops[i]? with
  |none =>
   rw[r]at h;exact Js j g a w h
  |some o =>
   rw[r]at h;simp only at h⊢;split
   .rename_i l
    rw[if_pos l]at h;exact⟨h.1,qcE (fun a w t=>Js j g a w t) (fun C a w p=>p) (fun⟨a,w,p⟩=>⟨a,w,p⟩) h.2⟩
   .rename_i l
    rw[if_neg l]at h;exact⟨h.1,Js j g _ w h.2⟩
theorem KI(n:Nat):∀(d:Nat) (L:List Nat),L.length=n+d->(∀ k,k∈L->k<n+d)->L.Nodup->(∀ j,n<=j->j<n+d->∀ i,i<j->Bef L i j)->∃ C,L=C++List.range' n d/\C.length=n
 | 0,L,o,_,_,_=>⟨L,by simp,by simpa using o⟩
 |d+1,L,o,T,r,R=>by
  have g:∀ i,i<n+(d+1)->i∈L:=by
   intro i t;refine vG fun h=>?_
   have o:(i :: L).length<=(qt (n+(d+1))).length:=jU (jx.2 ⟨h,r⟩) (fun k l=>by
    grind)
   simp at o;omega
  obtain⟨p,q,e⟩:=List.append_of_mem (g (n+d) (by omega));have U:∀ i,i<n+d->i∈p:=fun i t=>R (n+d) (by omega) (by omega) i t p q e
  have a0:n+d<=p.length:=by
   have:(qt (n+d)).length<=p.length:=jU List.nodup_range (fun k l=>U k (by simpa using l));simpa using this
  have hq:q=[]:=by
   have:=congrArg List.length e;simp at this;exact vH (by omega)
  subst hq;rw[e]at r;have I:p.Nodup:=(Zv.1 r).1;have J:n+d ∉ p:=fun h=>(Zv.1 r).2.2 _ h _ (by simp) rfl
  obtain⟨C,a1,a2⟩:=KI n d p (by grind) (fun k l=>by
   have:=T k (by rw[e];simp[l]);have a3:k≠n+d:=fun h=>J (h ▸ l)
   omega) I (fun j P a4 i t pre post e2=>by
   refine R j P (by omega) i t pre (post++[n+d]) ?_;rw[e,e2];simp)
  grind [List.range'_concat]
def Us(pl:Pol)(ops:Array us)(n:Nat):Bool:=
 yM ops&&decide (n<=ops.size)&&(let g:=vo ops.toList [];(qt ops.size).all fun j=>(qt j).all fun i=>(if n<=j then (g.getD j 0).testBit i else
  match ops[i]?,ops[j]? with|some a,some b=>!z7 pl ops a b||(g.getD j 0).testBit i|_,_=>true))
def jl:Nat->us->List us->List us
 |d+1,x,y :: l=>y :: jl d x l
 |_,x,l=>x :: l
def yW:Nat->Nat->List us->List us
 | 0,d,x :: l=>jl d x l
 |n+1,d,x :: l=>x :: yW n d l
 |_,_,[]=>[]
def mvI(a b k:Nat):Nat:=if k<a then k else if k<b then k+1 else if k=b then a else k
def mvP(a b i:Nat):Nat:=if i<a then i else if i=a then b else if i<=b then i-1 else i
theorem qcF{a b:Nat}(h:a<=b)(k:Nat):mvI a b (mvP a b k)=k:=by
 unfold mvP;split
 .unfold mvI;rw[if_pos ‹_›]
 .split
  .unfold mvI;rw[if_neg (by omega),if_neg (by omega),if_pos rfl];omega
  .split
   .unfold mvI;rw[if_neg (by omega),if_pos (by omega)];omega
   .unfold mvI;rw[if_neg (by omega),if_neg (by omega),if_neg (by omega)]
theorem qcG{a b:Nat}(h:a<=b)(k:Nat):mvP a b (mvI a b k)=k:=by
 unfold mvI;split
 .unfold mvP;rw[if_pos ‹_›]
 .split
  .unfold mvP;rw[if_neg (by omega),if_neg (by omega),if_pos (by omega)];omega
  .split
   .unfold mvP;rw[if_neg (by omega),if_pos rfl];omega
   .unfold mvP;rw[if_neg (by omega),if_neg (by omega),if_neg (by omega)]
theorem KJ:∀(d:Nat) (x:us) (l:List us),(jl d x l).length=l.length+1
 | 0,x,l=>by simp[jl]
 |d+1,x,[]=>by simp[jl]
 |d+1,x,y :: l=>by simp[jl,KJ d x l]
theorem KL:∀(d:Nat) (x:us) (l:List us) (k:Nat),d<=l.length->(jl d x l)[k]?=if k<d then l[k]? else if k=d then some x else l[k-1]?
 | 0,x,l,k,h=>by
  cases k with
  |zero=>simp[jl]
  |succ k=>simp[jl]
 |d+1,x,[],k,h=>by simp at h
 |d+1,x,y :: l,k,h=>by
  cases k with
  |zero=>simp[jl]
  |succ k =>
   simp only[jl,ve];rw[KL d x l k (by simpa using h)];by_cases g:k<d
   .simp [g]
   .by_cases i:k=d
    .simp [i]
    .obtain ⟨m,rfl⟩:∃ m,k=m+1:=⟨k-1,by omega⟩
     simp[g,i]
theorem Ut:∀(a d:Nat) (l:List us),(yW a d l).length=l.length
 | 0,d,x :: l=>by simp[yW,KJ]
 |n+1,d,x :: l=>by simp[yW,Ut n d l]
 | 0,d,[]=>rfl
 |n+1,d,[]=>rfl
theorem KM:∀(a d:Nat) (l:List us) (k:Nat),a+d<l.length->(yW a d l)[k]?=l[mvI a (a+d) k]?
 | 0,d,[],k,h=>by simp at h
 |n+1,d,[],k,h=>by simp at h
 | 0,d,x :: l,k,h=>by
  simp only[yW];rw[KL d x l k (by simp at h;omega)];unfold mvI;by_cases g:k<d
  .simp [g]
  .by_cases i:k=d
   .simp [i]
   .obtain ⟨m,rfl⟩:∃ m,k=m+1:=⟨k-1,by omega⟩
    simp[g,i]
 |n+1,d,x :: l,k,h=>by
  cases k with
  |zero=>simp[yW,mvI]
  |succ k =>
   simp only[yW,ve];rw[KM n d l k (by simp at h;omega)];have:mvI (n+1) (n+1+d) (k+1)=mvI n (n+d) k+1:=by
    unfold mvI;rw[show n+1+d=n+d+1 by omega];simp only[Nat.add_lt_add_iff_right,Nat.add_right_cancel_iff];split
    .rfl
    .split
     .rfl
     .split<;>rfl
   rw[this,ve]
def KN(P:qb)(pl:Pol)(ops:Array us)(Q:St->Prop)(g:AV->St->Prop)(st:St):Prop:=
 (ZQ pl ops=true/\awpS P pl true ops ops.toList Q g st) \/
 (∃ n,Us pl ops n=true/\awpS P pl true ops (ops.toList.take n) (fun st=>awpS P pl false ops (ops.toList.drop n) Q g st) g st) \/
 (∃ a d,Jo pl ops a (a+d)=true/\0<d/\a+d<ops.toList.length/\awpS P pl true ops ops.toList Q g st/\awpS P pl true ops (yW a d ops.toList) Q g st)
theorem qcH{ro:Ro}{G0:Gh}{a6:Mu}{w0:qh}{n:Nat}(s0:Sim G0 a6 w0.heap)(J:(ops.toList.all fun o=>dOk n o.dst)=true)
  {Q:St->Prop} {Qp:AV->St->Prop} {QQ:Exit->Act->qh->Prop} (hQ:∀ st a w G,Q st->Rel ro G0 a6 w0 n G st a w->QQ .normal a w)
  (ah:∀ v st a w G u,Qp v st->Rel ro G0 a6 w0 n G st a w->VRel G w.heap v u->QQ (.panic [{ v:=u,recovered:=false }]) a w) {st:St} {a:Act} {w:qh} {G:Gh} (r:Rel ro G0 a6 w0 n G st a w)
  (h:KN P pl ops Q Qp st) (C:Bool) (t:Nat):wpOpsIn (WF ro) 0 P ops QQ (Region.schedule C ops t) a w:=by
 have a4:∀(l:yM ops=true),Topo ops (Region.schedule C ops t)/\(Region.schedule C ops t).length=ops.size/\(∀ k,k∈Region.schedule C ops t->k<ops.size)/\(Region.schedule C ops t).Nodup:=by
  intro l;obtain⟨h1,h2⟩:=Kx l C t;obtain⟨h3,h4⟩:=Topo.closed l _ _ rfl h1;exact⟨h1,h2,fun k I=>(h3 k I).1,h4⟩
 rcases h with ⟨U,h⟩|⟨m,U,hA⟩|⟨g,d,U,hd,a7,hA,hB⟩
 .obtain ⟨l,T⟩:=qbZ U
  obtain⟨h1,h2,h3,h4⟩:=a4 l;exact KH s0 J hQ r _ h2 h3 h4 (fun i k x y a2 hx hy hc=>h1.bef l (T i k x y a2 hx hy hc)) h
 .unfold Us at U
  rw[qr,qr,decide_eq_true_eq]at U;obtain⟨⟨l,ax⟩,T⟩:=U;obtain⟨h1,h2,h3,h4⟩:=a4 l;generalize Region.schedule C ops t=L at *
  simp only[qH,yk]at T;have ai:∀ j,m<=j->j<m+(ops.size-m)->∀ i,i<j->Bef L i j:=by
   intro j aj ay i hi;have:=T j (by omega) i hi;rw[if_pos aj]at this;exact h1.bef l this
  obtain⟨L1,hL,ak⟩:=KI m (ops.size-m) L (by omega) (fun k I=>by have:=h3 k I;omega) h4 ai;have ab:L1.Nodup:=by rw[hL]at h4;exact(Zv.1 h4).1
  have ad:∀ k,k∈L1->k<m:=by
   intro k I;have az:=h3 k (by rw[hL];simp[I]);refine vG fun b0=>?_
   rw[hL]at h4;exact(Zv.1 h4).2.2 k I k (by simp[List.mem_range'];exact⟨k-m,by omega,by omega⟩) rfl
  rw[hL];refine Js L1 _ a w ?_;obtain⟨a3,e0,hq,hs⟩:=Uo P pl ops (ops.toList.take m) st hA;have a1:(ops.toList.take m).toArray.size=m:=by simp;omega
  have R:∀ k,k<m->(ops.toList.take m).toArray[k]?=ops[k]?:=by
   intro k I;simp[I]
  have aa:∀(i:Nat) (o:us),(ops.toList.take m).toArray[i]?=some o->jk P pl ops (a3 i) o (a3 (i+1)):=fun i o ho=>hs i o (by simpa using ho)
  have key:=Uq (QQ:=Exit.then (wpOpsIn (WF ro) 0 P ops QQ (List.range' m (ops.size-m))) QQ) aa s0 (fun i=>i) (fun k I=>(R k (by omega)).symm) ?_ (fun a w G r=>?_) L1 [] a w G ?_ (by simpa[a1] using ak) (fun k I=>by rw[a1];exact ad k (by simpa using I)) (by simpa using ab) (by rw[Ur,e0];exact r)
  .simpa using key
  .rw [qH]at J⊢
   intro o ho;exact J o (List.mem_of_mem_take (by simpa using ho))
  .have al:awpS P pl false ops (ops.toList.drop m) Q Qp (a3 (ops.toList.take m).toArray.size):=by simpa using hq
   have ae:=Ul s0 hQ ah (ops.toList.drop m) _ a w G r (by
    rw[qH]at J⊢;intro o ho;exact J o (List.mem_of_mem_drop ho)) al
   have e:wpOpsIn (WF ro) 0 P ops QQ (List.range' m (ops.size-m))=wpListIn (WF ro) 0 P ops QQ (ops.toList.drop m):=by
    have:=wpOpsIn_eq_wpListIn (F:=WF ro) (n:=0) (P:=P) (ops:=ops) (Q:=QQ) (ops.toList.drop m) m (fun j=>by simp);simpa using this
   show wpOpsIn (WF ro) 0 P ops QQ (List.range' m (ops.size-m)) a w;rw[e];exact ae
  .simp only[vf]
   intro i k x y a2 hx hy hc pre post e;have I:k<m:=by have:=(zJ.1 hy).1;omega
   rw[R i (by omega)]at hx;rw[R k I]at hy;have a5:=T k (by omega) i a2;rw[if_neg (by omega),hx,hy]at a5;simp only[hc,Bool.not_true,Bool.false_or]at a5;exact h1.bef l a5 pre (post++List.range' m (ops.size-m)) (by rw[hL,e];simp)
 .obtain ⟨l,T,af⟩:=qb0 U
  obtain⟨h1,h2,h3,h4⟩:=a4 l;generalize Region.schedule C ops t=L at *
  have a8:∀ i,i<ops.size->i∈L:=by
   intro i hi;refine vG fun h=>?_
   have h1:(i :: L).length<=(qt ops.size).length:=jU (jx.2 ⟨h,h4⟩) (fun k I=>by
    rcases qw.1 I with rfl|I
    .simpa using hi
    .simpa using (h3 k I))
   simp at h1;omega
  have ag:g+d<ops.size:=by simpa using a7
  rcases Bef.total (a8 g (by omega)) (a8 (g+d) ag) (by omega) with hb|hb
  .refine KH s0 J hQ r _ h2 h3 h4 (fun i k x y a2 hx hy hc=>?_) hA
   by_cases he:i=g/\k=g+d
   .rw [he.1,he.2];exact hb
   .exact h1.bef l (T i k x y a2 he hx hy hc)
  .obtain ⟨a3,e0,hq,hs⟩:=Uo P pl ops (yW g d ops.toList) st hB
   have R:∀ k:Nat,(yW g d ops.toList).toArray[k]?=ops[mvI g (g+d) k]?:=by
    intro k;have:=KM g d ops.toList k a7;simpa using this
   have a1:(yW g d ops.toList).toArray.size=ops.size:=by simp[Ut]
   have aa:∀(i:Nat) (o:us),(yW g d ops.toList).toArray[i]?=some o->jk P pl ops (a3 i) o (a3 (i+1)):=fun i o ho=>hs i o (by simpa using ho)
   have e1:∀ k,mvI g (g+d) (mvP g (g+d) k)=k:=qcF (by omega);have e2:∀ k,mvP g (g+d) (mvI g (g+d) k)=k:=qcG (by omega);have an:∀ k,k<ops.size->mvP g (g+d) k<ops.size:=by
    intro k I;unfold mvP;split
    .exact I
    .split
     .exact ag
     .split<;>omega
   have key:=Uq (QQ:=QQ) aa s0 (mvI g (g+d)) (fun k _=>(R k).symm) ?_ (fun a w G r=>hQ _ a w G (by simpa using hq) r) (L.map (mvP g (g+d))) [] a w G ?_ (by simpa[Ut] using h2) ?_ ?_ (by rw[Ur,e0];exact r)
   .simpa [List.map_map,Function.comp_def,e1] using key
   .rw [qH]at J⊢
    intro o ho;obtain⟨k,I⟩:=List.mem_iff_getElem?.1 ho;have:ops[mvI g (g+d) k]?=some o:=by rw[<-R];simpa using I
    exact J o (by have:=Array.mem_of_getElem? this;simpa using this)
   .simp only[vf]
    intro i k x y a2 hx hy hc p q e;rw[R]at hx hy;have ao:Bef L (mvI g (g+d) i) (mvI g (g+d) k):=by
     by_cases I:k=g+d
     .have ek:mvI g (g+d) k=g:=by unfold mvI;rw[if_neg (by omega),if_neg (by omega),if_pos I]
      rw[ek]at hy⊢;by_cases hi:i<g
      .have ei:mvI g (g+d) i=i:=by unfold mvI;rw[if_pos hi]
       rw[ei]at hx⊢;exact h1.bef l (T i g x y hi (by omega) hx hy hc)
      .have ei:mvI g (g+d) i=i+1:=by unfold mvI;rw[if_neg hi,if_pos (by omega)]
       rw[ei]at hx⊢;by_cases aq:i+1=g+d
       .rw [aq];exact hb
       .rw [af (i+1) x y (by omega) (by omega) hx hy]at hc
        exact absurd hc (by simp)
     .by_cases hi:i=g+d
      .have ei:mvI g (g+d) i=g:=by unfold mvI;rw[if_neg (by omega),if_neg (by omega),if_pos hi]
       have ek:mvI g (g+d) k=k:=by unfold mvI;rw[if_neg (by omega),if_neg (by omega),if_neg I]
       rw[ei]at hx⊢;rw[ek]at hy⊢;exact h1.bef l (T g k x y (by omega) (by omega) hx hy hc)
      .have ar:mvI g (g+d) i<mvI g (g+d) k:=by
        unfold mvI;rw[if_neg I,if_neg hi];split<;>split<;>(try split)<;>(try split)<;>omega
       have au:mvI g (g+d) i≠g:=by
        unfold mvI;rw[if_neg hi];split
        .omega
        .split<;>omega
       exact h1.bef l (T _ _ x y ar (fun h=>au h.1) hx hy hc)
    have e':L=p.map (mvI g (g+d))++mvI g (g+d) k :: q.map (mvI g (g+d)):=by
     have:=congrArg (List.map (mvI g (g+d))) e;simpa[List.map_map,Function.comp_def,e1] using this
    have:=ao _ _ e';obtain⟨z,hz,av⟩:=qp.1 this;have:z=i:=by have:=congrArg (mvP g (g+d)) av;rwa[e2,e2]at this
    exact this ▸ hz
   .intro k I
    simp only[vf,qp]at I;obtain⟨z,hz,rfl⟩:=I;rw[a1];exact an z (h3 z hz)
   .simp only[vf]
    exact List.Pairwise.map _ (fun x y aw e=>aw (by have:=congrArg (mvI g (g+d)) e;rwa[e1,e1]at this)) h4
end
end Go.Ev
namespace Go.Ev
open Go Go.RowKit
theorem qA.congr{P:qb}{pl:Pol}{det:Bool}{p:Option Tmp}{op:Op}{ev ev':zT->AV}{mu:Mu}{K J:AV->Mu->Prop}(h:qA P pl det p op ev mu K J)(g:∀ x,x∈op.operands->ev x=ev' x):qA P pl det p op ev' mu K J:=by
 cases op<;>simp only[qA,Op.operands]at h g⊢<;>try (exact h.elim)
 case move x=>rw[<-g x (by simp)];exact h
 case assign x=>rw[<-g x (by simp)];exact h
 case makeFunc f first C =>
  rw[<-wL (l:=first) (fun x j=>g x (by simp[j])),<-wL (l:=C) (fun x j=>g x (by simp[j]))];exact h
 case pick c x y=>rw[<-g c (by simp),<-g x (by simp),<-g y (by simp)];exact h
 case alloc=>exact h
 case box t x=>rw[<-g x (by simp)];exact h
 case build t R=>rw[<-Jp g];exact h
 case buildSlice t n R=>rw[<-Jp g];exact h
 case load t x=>rw[<-g x (by simp)];exact h
 case store t x y=>rw[<-g x (by simp),<-g y (by simp)];exact h
 case nilCheck x=>rw[<-g x (by simp)];exact h
 case binOp op t x y yt=>rw[<-g x (by simp),<-g y (by simp)];exact h
 case unOp op t x=>rw[<-g x (by simp)];exact h
 case convert s t x=>rw[<-g x (by simp)];exact h
 case makeInterface t x=>rw[<-g x (by simp)];exact h
 case makeSlice t x y=>rw[<-g x (by simp),<-g y (by simp)];exact h
 case slice t x T U mx =>
  rw[<-g x (by simp),<-Jq (o:=T) (fun y I=>g y (by simp only[Array.mem_append];exact .inl (.inl (.inr I)))),
   <-Jq (o:=U) (fun y I=>g y (by simp only[Array.mem_append];exact .inl (.inr I))),<-Jq (o:=mx) (fun y I=>g y (by simp only[Array.mem_append];exact .inr I))]
  exact h
 case fieldAddr t x f=>rw[<-g x (by simp)];exact h
 case field t x f=>rw[<-g x (by simp)];exact h
 case indexAddr t x i=>rw[<-g x (by simp),<-g i (by simp)];exact h
 case index t x i=>rw[<-g x (by simp),<-g i (by simp)];exact h
 case extract x i=>rw[<-g x (by simp)];exact h
 case typeAssert x xt t ok=>rw[<-g x (by simp)];exact h
 case makeMap=>exact h
 case lookup t m k ok=>rw[<-g m (by simp),<-g k (by simp)];exact h
 case mapUpdate t m k v=>rw[<-g m (by simp),<-g k (by simp),<-g v (by simp)];exact h
 case insert t m k v=>rw[<-g m (by simp),<-g k (by simp),<-g v (by simp)];exact h
 case mapEntry t m k=>rw[<-g m (by simp),<-g k (by simp)];exact h
 case entryStore t m k v=>rw[<-g m (by simp),<-g k (by simp),<-g v (by simp)];exact h
 case range t m=>rw[<-g m (by simp)];exact h
 case next i str=>rw[<-g i (by simp)];exact h
 case entry i=>rw[<-g i (by simp)];exact h
 case panic x=>rw[<-g x (by simp)];exact h
 case call c =>
  obtain⟨callee,args,a0⟩:=c;cases callee with
  |invoke r m=>exact h.elim
  |value f =>
   simp only[Call.operands]at g;simp only at h⊢;rw[<-wL (l:=args) (fun x j=>g x (by simp[j])),<-g f (by simp)];exact h
  |builtin b =>
   simp only[Call.operands]at g;simp only at h⊢;rw[<-wL (l:=args) (fun x j=>g x (by simp[j]))];exact h
def qcI(o:us):Bool:=
 match o.op with
 | .call c=>match c.callee with | .builtin .len | .builtin .cap | .builtin .min | .builtin .max=>false|_=>true
 | .panic _ | .next .. => true
 |_=>false
def zw(ops:Array us)(i:Nat):Option Tmp:=(ops[i]?).bind (·.dst)
def yN(ops:Array us)(i:Nat)(t:Tmp):Bool:=match ops[i]? with|some o=>(uB ops o).contains t|none=>false
def Uu(ops:Array us)(i:Nat):Bool:=match ops[i]? with|some o=>memR o|none=>false
def wM(st:St)(d:Tmp)(mu:Mu):AV->Mu->Prop:=fun v m=>v=st.tm d/\m=mu
def noK:AV->Mu->Prop:=fun _ _=>False
end Go.Ev
namespace Go.Ev
open Go Go.RowKit
section
variable {a:Act}{ops:Array us}{G:Gh}{O g:List Nat}{i:Nat}{o:us}{pl:Pol}{P:qb}{w:qh}
def wN(o:us):Bool:=match o.op with | .alloc _=>true|_=>false
def ZR(pl:Pol)(o:us):Nat:=if wN o then 2 else if memW pl o||qcI o then 1 else 0
def zh(pl:Pol)(ops:Array us)(i:Nat):Nat:=match ops[i]? with|some o=>ZR pl o|none=>0
def pend(pl:Pol)(ops:Array us)(pre:List Nat)(j:Nat):List Nat:=pre.filter fun p=>zh pl ops p == 0&&(Uu ops p&&!(zP ops j).testBit p)
def Jt(pl:Pol)(ops:Array us):List Nat->List Nat->Bool
 |_,[]=>true
 |pre,j :: O=>(!pre.contains j&&((qt ops.size).all fun i=>match zw ops i with|some d=>!yN ops j d||pre.contains i|none=>true)) &&
   ((zh pl ops j == 2||pre.all fun i=>zh pl ops i == 0||(zP ops j).testBit i)&&Jt pl ops (pre++[j]) O)
def ZS(pl:Pol)(ops:Array us)(O:List Nat):Bool:=
 (yM ops&&(ops.toList.all fun o=>!wN o||o.guard.isNone))&&((O.all fun i=>decide (i<ops.size))&&((qt ops.size).all fun i=>O.contains i)) &&
 (((qt ops.size).all fun i=>match zw ops i with
  |some d=>(qt ops.size).all fun j=>(i == j||zw ops j != some d)&&(!yN ops j d||(zP ops j).testBit i)
  |none=>zh pl ops i == 1)&&Jt pl ops [] O)
structure vT (pl:Pol) (ops:Array us) (O:List Nat):Prop where
 edges:yM ops=true
 guards:∀(i:Nat) (o:us),ops[i]?=some o->wN o=true->o.guard=none
 lt:∀ i,i∈O->i<ops.size
 all:∀ i,i<ops.size->i∈O
 du:∀ i j d,i<ops.size->j<ops.size->zw ops i=some d->(i≠j->zw ops j≠some d)/\(yN ops j d=true->(zP ops j).testBit i=true)
 dn:∀ i,i<ops.size->zw ops i=none->zh pl ops i=1
 ord:∀(PO lO:List Nat) (j:Nat),O=PO++j :: lO->j ∉ PO/\(∀ i d,i<ops.size->zw ops i=some d->yN ops j d=true->i∈PO)/\(zh pl ops j≠2->∀ i,i∈PO->zh pl ops i≠0->(zP ops j).testBit i=true)
theorem KO:∀(O pre:List Nat),Jt pl ops pre O=true->∀(g l:List Nat) (j:Nat),O=g++j :: l ->
  j ∉ pre++g/\(∀ i d,i<ops.size->zw ops i=some d->yN ops j d=true->i∈pre++g)/\(zh pl ops j≠2->∀ i,i∈pre++g->zh pl ops i≠0->(zP ops j).testBit i=true)
 | [],pre,h,g,l,j,e=>by cases g<;>simp at e
 |k :: O,pre,h,g,l,j,e=>by
  simp only[Jt,qr]at h;obtain⟨⟨r,t⟩,C,o⟩:=h;cases g with
  |nil =>
   grind
  |cons p g =>
   simp only[yD,u5]at e;obtain⟨rfl,e⟩:=e;have:=KO O (pre++[k]) o g l j e;simpa using this
theorem qcJ(h:ZS pl ops O=true):vT pl ops O:=by
 unfold ZS at h;simp only[qr]at h;obtain⟨⟨⟨t,l⟩,p,r⟩,C,I⟩:=h;simp only[qH,yk]at l p r C;refine⟨t,fun i o U J=>?_,fun i g=>by simpa using p i g,fun i g=>by simpa using r i g,fun i j d g hj P=>?_,fun i g P=>?_,fun R T j e=>?_⟩
 .have:=l o (by grind)
  rw[J]at this;simpa using this
 .grind
 .grind
 .have:=KO O [] I R T j e
  simpa using this
def wO(P:qb)(pl:Pol)(o:us)(st:St):Prop:=qA P pl true o.dst o.op st.ev st.mu (match o.dst with|some d=>wM st d st.mu|none=>noK) noK
def jY(P:qb)(pl:Pol)(ops:Array us):List Nat->St->Prop
 | [],_=>True
 |p :: l,st=>(match ops[p]? with|some o=>OptK (zI ops st o) fun b=>Br b (wO P pl o st) True|none=>True)/\jY P pl ops l st
theorem Uv{st:St}:∀{l:List Nat},jY P pl ops l st->∀{i:Nat} {o:us} {d:Tmp},i∈l->ops[i]?=some o->o.dst=some d->zI ops st o=some true->DS P pl o st.ev st.mu (st.tm d) st.mu
 | [],_,i,_,_,p,_,_,_=>absurd p qI
 |j :: l,h,i,o,d,p,t,C,I=>by
  obtain⟨g,J⟩:=h;rcases qw.1 p with rfl|p
  .rw [t]at g
   obtain⟨b,r,g,_⟩:=g;rw[I]at r;have g:wO P pl o st:=g (by cases r;rfl);unfold wO at g;have e:(match o.dst with|some d=>wM st d st.mu|none=>noK)=wM st d st.mu:=by rw[C]
   rw[e]at g;exact g
  .exact Uv J p t C I
def plan(pl:Pol)(ops:Array us):List Nat->List Nat->List (Nat×Nat×List Nat)
 |_,[]=>[]
 |pre,j :: O=>(j,zh pl ops j,if zh pl ops j=0 then [] else pend pl ops pre j) :: plan pl ops (pre++[j]) O
def vU(P:qb)(ops:Array us):List (Nat×Nat×List Nat)->Prop
 | []=>True
 | (j,k,_) :: T=>(match k,ops[j]? with|2,some o=>(match o.op with | .alloc e=>OptK (qB P e) fun z=>z.cells.all AV.one=true|_=>False)|_,_=>True)/\vU P ops T
def awpT(P:qb)(pl:Pol)(ops:Array us)(Q:St->Prop)(g:AV->St->Prop):List (Nat×Nat×List Nat)->St->Prop
 | [],st=>Q st
 | (j,k,r) :: T,st=>match ops[j]? with
  |none=>False
  |some o=>OptK (zI ops st o) fun b=>Br b (qA P pl (k != 1) o.dst o.op st.ev st.mu (fun v m=>jY P pl ops r (st.put o.dst v m)/\awpT P pl ops Q g T (st.put o.dst v m)) (fun v m=>k=1/\∀ i,g v ⟨i,m⟩)) (awpT P pl ops Q g T (st.put o.dst (.sc j2) st.mu))
def SegA(P:qb)(pl:Pol)(ops:Array us)(Q:St->Prop)(g:AV->St->Prop)(st:St):Prop:=
 ∃ O,ZS pl ops O=true/\vU P ops (plan pl ops [] O)/\awpT P pl ops Q g (plan pl ops [] O) st
theorem Rel.reveal{ro:Ro}{G0:Gh}{a8:Mu}{w0:qh}{n:Nat}{st:St}(r:Rel ro G0 a8 w0 n G st a w){d:Tmp}{b:Nat}{e:qf}{zv:zS}(h1:(ofV zv).cells.all AV.one=true)
  (ht:a.tmps.getD d j2 = .pointer (some ⟨b,0,none⟩)) (hb:w.heap[b]?=some (.cells zv.cells e)) (a2:w0.heap.size<=b) (hl:¬Live G st.mu b) (I:¬G.imm b) :
  Rel ro G0 a8 w0 n ⟨G.imm,G.blk++[(b,zv.cells.size)]⟩ (st.put (some d) (.ptr st.mu.length 0) (st.mu++[.arr (ofV zv).cells])) a w:=by
 have s:=r.stp.sim;have a1:=s.len;have J:G.le ⟨G.imm,G.blk++[(b,zv.cells.size)]⟩:=⟨fun b h=>h,fun i x h=>by
  grind⟩
 have he:=Ext.refl G w.heap;have o:∀{i:Nat} {c':Cell} {g C:Nat},i<st.mu.length->(G.blk++[(b,zv.cells.size)])[i]?=some (g,C)->G.blk[i]?=some (g,C):=fun {i c' g C} I hk=>by
  grind
 have new:∀{i g C:Nat},i=st.mu.length->(G.blk++[(b,zv.cells.size)])[i]?=some (g,C)->(g,C)=(b,zv.cells.size):=fun {i g C} I hk=>by
  grind
 have P:∀ x,Live ⟨G.imm,G.blk++[(b,zv.cells.size)]⟩ (st.mu++[.arr (ofV zv).cells]) x->Live G st.mu x\/x=b:=fun x ⟨i,c',t',hc,hd,hk⟩=>by
  rcases zB hc with ⟨I,l⟩|⟨I,l⟩
  .exact .inl ⟨i,c',t',l,hd,o (c':=c') I hk⟩
  grind
 have a3:jV G w.heap zv.cells.size (.cells zv.cells e) (.arr (ofV zv).cells):=by
  have hv:VRel G w.heap (ofV zv) zv:=VRel.ofV zv;obtain⟨ag,T,_⟩:=hv.cells (fun c hc=>by simpa using qH.1 h1 c hc);exact⟨zv.cells,e,rfl,rfl,by omega,fun j y hj=>⟨by grind,T j y hj⟩⟩
 have a9:Sim ⟨G.imm,G.blk++[(b,zv.cells.size)]⟩ (st.mu++[.arr (ofV zv).cells]) w.heap:=by
  refine⟨by simp[a1],s.imm,?_,?_,?_,s.tab⟩
  .intro i c' g R hc hd hk
   rcases zB hc with ⟨I,l⟩|⟨I,l⟩
   .obtain ⟨o',q1,q2⟩:=s.obj i c' g R l hd (o (c':=c') I hk)
    exact⟨o',q1,q2.mono J he⟩
   .obtain ⟨rfl,rfl⟩:=Prod.mk.inj (new I hk)
    subst l;exact⟨_,hb,a3.mono J he⟩
  .intro i c' g R hc hd hk aa
   rcases zB hc with ⟨I,l⟩|⟨ab,l⟩
   .exact s.live i c' g R l hd (o (c':=c') I hk) aa
   grind
  .intro i j ci cj x ti tj ab af ad ae a4 a5
   rcases zB ab with ⟨U,a6⟩|⟨U,a6⟩<;>rcases zB af with ⟨a0,a7⟩|⟨a0,a7⟩
   .exact s.inj i j ci cj x ti tj a6 a7 ad ae (o (c':=ci) U a4) (o (c':=cj) a0 a5)
   .have a:=o (c':=ci) U a4
    have c:=new a0 a5;obtain⟨rfl,_⟩:=Prod.mk.inj c;exact absurd ⟨i,ci,ti,a6,ad,a⟩ hl
   .have a:=o (c':=cj) a0 a5
    have c:=new U a4;obtain⟨rfl,_⟩:=Prod.mk.inj c;exact absurd ⟨j,cj,tj,a7,ae,a⟩ hl
   .omega
 refine⟨fun t=>?_,fun h=>?_,r.size,⟨r.stp.le.trans J,a9,r.stp.keep,r.stp.size,fun x hx=>?_,r.stp.inew,r.stp.tape,r.stp.os,r.stp.output,r.stp.drawn⟩,fun p hp=>(r.kp p hp).mono J he⟩
 .by_cases e:t=d
  .subst e
   have:(st.put (some t) (.ptr st.mu.length 0) (st.mu++[.arr (ofV zv).cells])).tm t = .ptr st.mu.length 0:=by simp[St.put]
   rw[this,ht];refine .ptr _ _ _ zv.cells.size ?_;show (G.blk++[_])[st.mu.length]?=_;rw[<-a1];simp
  .rw [jd (fun h=>e (by cases h;rfl))]
   exact(r.tm t).mono J he
 .obtain ⟨Ds,q1,q2,q3⟩:=r.df h
  refine⟨Ds,q1,q2,fun D hD=>⟨(q3 D hD).1,(q3 D hD).2.obj,fun hx=>?_,(q3 D hD).2.nimm⟩⟩;rcases P D hx with hx|rfl
  .exact (q3 D hD).2.nlive hx
  .have:=(q3 D hD).2.obj
   rw[hb]at this;cases this
 .rcases P x hx with hx|rfl
  .exact r.stp.live x hx
  .exact .inr a2
def behind(pl:Pol)(ops:Array us)(g j pre:List Nat)(t:Tmp):Prop:=(∃ i,i∈g/\i ∉ pre/\zw ops i=some t)\/∃ i,i∈j/\zh pl ops i=2/\zw ops i=some t
open Classical in
noncomputable def yO(pl:Pol)(ops:Array us)(g i pre:List Nat)(st:St):St:=⟨fun t=>if behind pl ops g i pre t then .any else st.tm t,st.mu⟩
theorem jN{i pre:List Nat}{st:St}{t:Tmp}(h:¬behind pl ops g i pre t):(yO pl ops g i pre st).tm t=st.tm t:=by
 unfold yO;simp only;rw[if_neg h]
theorem Qr{i pre:List Nat}{st:St}{t:Tmp}(h:behind pl ops g i pre t):(yO pl ops g i pre st).tm t = .any:=by
 unfold yO;simp only;rw[if_pos h]
structure AlF (P:qb) (ops:Array us) (G:Gh) (mu:Mu) (base:Nat) (a:Act) (w:qh) (i b:Nat):Prop where
 x:∃(o:us) (e:qf) (d:Tmp) (zv:zS),ops[i]?=some o/\o.op = .alloc e/\o.dst=some d/\qB P e=some (ofV zv)/\a.tmps.getD d j2 = .pointer (some ⟨b,0,none⟩)/\w.heap[b]?=some (.cells zv.cells e)
 base:base<=b
 nl:¬Live G mu b
 ni:¬G.imm b
theorem AlF.lt{mu:Mu}{base:Nat}{b:Nat}(h:AlF P ops G mu base a w i b):b<w.heap.size:=by
 obtain⟨o,e,d,g,_,_,_,_,_,j⟩:=h.x
 grind
theorem AlF.step{G':Gh}{mu l:Mu}{base:Nat}{C:Act}{w':qh}{b:Nat}(h:AlF P ops G mu base a w i b)(t:Stp G mu w G' l w')(ht:∀ d,zw ops i=some d->C.tmps.getD d j2=a.tmps.getD d j2):AlF P ops G' l base C w' i b:=by
 have p:=h.lt;obtain⟨o,e,d,I,J,r,R,T,hp,U⟩:=h.x;refine⟨⟨o,e,d,I,J,r,R,T,?_,?_⟩,h.base,fun j=>?_,fun g=>?_⟩
 .grind [zw]
 .rw [t.keep b p h.nl];exact U
 .rcases t.live b j with j|j
  .exact h.nl j
  .omega
 .rcases t.inew b g with g|g|g
  .exact h.ni g
  .exact h.nl g
  .omega
theorem Rel.weak{ro:Ro}{j:Gh}{i:Mu}{l:qh}{n:Nat}{st g:St}(r:Rel ro j i l n G st a w)(o:g.mu=st.mu)(p:∀ t,g.tm t = .any\/g.tm t=st.tm t):Rel ro j i l n G g a w:=by
 refine⟨fun t=>?_,fun h=>by rw[o];exact r.df h,r.size,by rw[o];exact r.stp,r.kp⟩;rcases p t with e|e
 .rw [e];exact .any _
 .rw [e];exact r.tm t
def DG(P:qb)(pl:Pol)(ops:Array us)(o:us)(st:St)(d:Tmp)(m:Mu):Prop:=∃ b,zI ops st o=some b/\(b=true->DS P pl o st.ev m (st.tm d) m)/\(b=false->st.tm d = .sc j2)
theorem DG.re{st:St}{d:Tmp}{m g:Mu}(h:DG P pl ops o st d m)(l:memW pl o=false)(p:memR o=true->zI ops st o=some true->DS P pl o st.ev g (st.tm d) g):DG P pl ops o st d g:=by
 obtain⟨b,i,r,t⟩:=h;refine⟨b,i,fun e=>?_,t⟩;subst e;cases j:memR o with
 |true=>exact p j i
 |false=>exact((r rfl).mem l).2 j g
theorem Ju{st g:St}(h:∀ t,(uB ops o).contains t=true->g.tm t=st.tm t):zI ops g o=zI ops st o:=by
 grind [zI,bind,uB]
theorem qcK{st:St}(h:o.guard=none):zI ops st o=some true:=by
 unfold zI;rw[h]
structure SegI (P:qb) (pl:Pol) (ops:Array us) (O:List Nat) (ro:Ro) (G0:Gh) (mu0:Mu) (w0:qh) (n:Nat) (Q:St->Prop) (Qp:AV->St->Prop) (pre:List Nat) (a:Act) (w:qh) (PO lO:List Nat) (st:St) (G:Gh) (B:Nat->Nat):Prop where
 split:O=PO++lO
 awp:awpT P pl ops Q Qp (plan pl ops PO lO) st
 s:∀ i,i∈PO->zh pl ops i≠0->i∈pre
 d:∀ i,i∈pre->zh pl ops i≠2->i∈PO
 p:∀ i o d,i∈PO->i ∉ pre->ops[i]?=some o->o.dst=some d->DG P pl ops o st d st.mu
 al:∀ i,i∈lO->i∈pre->AlF P ops G st.mu w0.heap.size a w i (B i)
 inj:∀ i j,i∈lO->j∈lO->i∈pre->j∈pre->i≠j->B i≠B j
 rel:Rel ro G0 mu0 w0 n G (yO pl ops PO lO pre st) a w
theorem Jv{k:Nat}(g:ops[k]?=some o){t:Tmp}(i:Operand.tmp t∈o.op.operands):yN ops k t=true:=by
 simp only[yN,g,List.contains_iff_mem,uB,Um,qG,List.mem_filterMap];exact .inl ⟨.tmp t,by simpa using i,rfl⟩
theorem vT.disj{j:List Nat}(K:vT pl ops O)(h:O=g++j){i:Nat}(l:i∈j):i ∉ g:=by
 obtain⟨s,t,rfl⟩:=List.append_of_mem l;have:=(K.ord (g++s) t i (by rw[h];simp)).1
 grind
theorem vT.rd{j:List Nat}(K:vT pl ops O)(h:O=j++g){i e:Nat}{d:Tmp}(o:i∈j)(l:e∈g)(p:zw ops e=some d):yN ops i d=false:=by
 cases r:yN ops i d with
 |false=>rfl
 |true =>
  obtain⟨s,t,rfl⟩:=List.append_of_mem o;have:=(K.ord s (t++g) i (by rw[h];simp)).2.1 e d (K.lt e (by rw[h];simp[l])) p r;exact absurd (yC _ this) (K.disj h l)
theorem Uw(g:ops[i]?=some o)(h:zh pl ops i=0):memW pl o=false:=by
 unfold zh at h;rw[g]at h;simp only[ZR]at h
 grind
theorem qcL(g:ops[i]?=some o)(h:zh pl ops i=2):∃ e,o.op = .alloc e:=by
 grind [zh,ZR,wN]
theorem KP(pl:Pol)(ops:Array us)(i:Nat):zh pl ops i=0\/zh pl ops i=1\/zh pl ops i=2:=by
 unfold zh;split
 .unfold ZR
  split
  .exact .inr (.inr rfl)
  grind
 .exact .inl rfl
section
variable {P:qb} {pl:Pol} {ops:Array us} {O:List Nat} {ro:Ro} {G0:Gh} {mu0:Mu} {w0:qh} {n:Nat} {Q:St->Prop} {Qp:AV->St->Prop} {pre:List Nat} {a:Act} {w:qh}
theorem SegI.keepDS(K:vT pl ops O){PO lO:List Nat}{e:Nat}(C:O=PO++e :: lO){st:St}{i:Nat}{o j:us}{d:Tmp}(J:i∈PO)(ho:ops[i]?=some o)(R:ops[e]?=some j)(hd:o.dst=some d){m I:Mu}{v:AV}(h:DS P pl o st.ev m (st.tm d) m) :
  DS P pl o (st.put j.dst v I).ev m ((st.put j.dst v I).tm d) m:=by
 have l:e∈e :: lO:=qU ..;have T:i≠e:=fun h=>K.disj C l (h ▸ J)
 have U:i<ops.size:=K.lt i (by rw[C];simp[J]);have p:e<ops.size:=K.lt e (by rw[C];simp);have a0:zw ops i=some d:=by simp[zw,ho,hd]
 have r:zw ops e=j.dst:=by simp[zw,R]
 have e1:(st.put j.dst v I).tm d=st.tm d:=jd (fun h=>(K.du i e d U p a0).1 T (by rw[r];exact h));rw[e1];refine h.congr fun x hx=>?_
 cases x with
 |tmp t =>
  show st.tm t=(st.put j.dst v I).tm t;refine(jd fun h=>?_).symm;have h1:=K.rd C J l (by rw[r];exact h)
  grind [Jv]
 |const v=>rfl
 |global g=>rfl
 |func f=>rfl
theorem SegI.keepDG(K:vT pl ops O){PO lO:List Nat}{e:Nat}(g:O=PO++e :: lO){st:St}{i:Nat}{o I:us}{d:Tmp}(J:i∈PO)(R:ops[i]?=some o)(j:ops[e]?=some I)(hd:o.dst=some d){m m':Mu}{v:AV}(h:DG P pl ops o st d m) :
  DG P pl ops o (st.put I.dst v m') d m:=by
 obtain⟨b,hb,l,h2⟩:=h;have p:e∈e :: lO:=qU ..;have T:i≠e:=fun h=>K.disj g p (h ▸ J)
 have U:i<ops.size:=K.lt i (by rw[g];simp[J]);have r:e<ops.size:=K.lt e (by rw[g];simp);have a0:zw ops i=some d:=by simp[zw,R,hd]
 have C:zw ops e=I.dst:=by simp[zw,j]
 have e1:(st.put I.dst v m').tm d=st.tm d:=jd (fun h=>(K.du i e d U r a0).1 T (by rw[C];exact h));refine⟨b,?_,fun e=>SegI.keepDS K g J R j hd (l e),fun e=>by rw[e1];exact h2 e⟩;rw[Ju fun t ht=>?_]
 .exact hb
 .refine jd fun h=>?_
  have l:=K.rd g J p (by rw[C];exact h);simp only[yN,R]at l;rw[ht]at l;cases l
theorem SegI.advP(K:vT pl ops O){PO T:List Nat}{e:Nat}{st:St}{G:Gh}{B:Nat->Nat}(h:SegI P pl ops O ro G0 mu0 w0 n Q Qp pre a w PO (e :: T) st G B)(hk:zh pl ops e=0) :
  ∃ a5,SegI P pl ops O ro G0 mu0 w0 n Q Qp pre a w (PO++[e]) T a5 G B:=by
 have a6:e∈e :: T:=qU ..;have R:=K.disj h.split a6;have a7:e ∉ pre:=fun U=>R (h.d e U (by omega))
 have r:e<ops.size:=K.lt e (by rw[h.split];simp);have ho:ops[e]?=some ops[e]:=by simp[r]
 generalize ops[e]=o at ho;have hw:=h.awp;simp only[plan,hk,awpT,ho]at hw;obtain⟨b,hb,a8,ad⟩:=hw;have hw:∃ v,(b=true->DS P pl o st.ev st.mu v st.mu)/\(b=false->v = .sc j2)/\awpT P pl ops Q Qp (plan pl ops (PO++[e]) T) (st.put o.dst v st.mu):=by
  cases b with
  |false=>grind
  |true =>
   obtain⟨v,m,a0,a4⟩:=qA.det (o:=o) (h:=a8 rfl);obtain rfl:=(a0.mem (Uw ho hk)).1
   grind
 obtain⟨v,a0,a9,a4⟩:=hw;have C:zw ops e=o.dst:=by simp[zw,ho]
 cases hd:o.dst with
 |none=>have:=K.dn e r (by rw[C,hd]);omega
 |some d =>
  rw[hd]at C;have aa:O=(PO++[e])++T:=by rw[h.split];simp
  refine⟨st.put o.dst v st.mu,aa,a4,fun i l a1=>?_,fun i l a1=>?_,fun i o' d' l a2 I J=>?_,fun i l a2=>h.al i (qO _ l) a2,fun i j l hj=>h.inj i j (qO _ l) (qO _ hj),?_⟩
  .rcases qG.1 l with l|l
   .exact h.s i l a1
   grind
  .exact yC _ (h.d i l a1)
  .show DG P pl ops o' (st.put o.dst v st.mu) d' st.mu
   rcases qG.1 l with l|l
   .exact SegI.keepDG K h.split l I ho J (h.p i o' d' l a2 I J)
   .rw [qN]at l;subst l
    rw[ho]at I;cases I;rw[hd]at J;cases J;have e1:(st.put o.dst v st.mu).tm d=v:=by simp[St.put,hd]
    have ab:∀ t,yN ops i t=true->(st.put o.dst v st.mu).tm t=st.tm t:=fun t ht=>by
     refine jd fun U=>?_
     have a3:t=d:=by rw[hd]at U;cases U;rfl
     subst a3;exact R ((K.ord PO T i h.split).2.1 i t r C ht)
    refine⟨b,by grind [Ju,yN],fun e=>?_,fun e=>by rw[e1];exact a9 e⟩;rw[e1];refine(a0 e).congr fun x hx=>?_
    cases x with
    |tmp t =>
     show st.tm t=(st.put o.dst v st.mu).tm t;exact(ab t (Jv ho hx)).symm
    |const v=>rfl
    |global g=>rfl
    |func f=>rfl
  .refine h.rel.weak rfl fun t=>?_
   by_cases hb:behind pl ops (PO++[e]) T pre t
   .exact .inl (Qr hb)
   .right
    rw[jN hb];have a3:o.dst≠some t:=fun U=>hb (.inl ⟨e,by simp,a7,by rw[C];rw[hd]at U;exact U⟩)
    rw[jd a3,jN];rintro (⟨i,h1,h2,h3⟩|⟨i,h1,h2,h3⟩)
    .exact hb (.inl ⟨i,yC _ h1,h2,h3⟩)
    .rcases qw.1 h1 with rfl|h1
     .omega
     .exact hb (.inr ⟨i,h1,h2,h3⟩)
theorem SegI.advA(K:vT pl ops O)(ag:∀ i k,(zP ops k).testBit i=true->k∈pre->i∈pre){PO lO:List Nat}{e:Nat}{st:St}{G:Gh}{B:Nat->Nat}(h:SegI P pl ops O ro G0 mu0 w0 n Q Qp pre a w PO (e :: lO) st G B)(hk:zh pl ops e=2)(a3:e∈pre) :
  ∃ a8 G',SegI P pl ops O ro G0 mu0 w0 n Q Qp pre a w (PO++[e]) lO a8 G' B:=by
 have a1:e∈e :: lO:=qU ..;have ah:=K.disj h.split a1;have ai:e<ops.size:=K.lt e (by rw[h.split];simp);have C:=h.al e a1 a3;obtain⟨o,ty,d,zv,ho,a4,hd,hz,hp,U⟩:=C.x;have a9:zw ops e=some d:=by simp[zw,ho,hd]
 have I:=h.awp;simp only[plan,hk,awpT,ho]at I;rw[qcK (K.guards e o ho (by simp[wN,a4]))]at I;obtain⟨b,aa,I,_⟩:=I;have I:=I (by cases aa;rfl);simp only[a4]at I;simp only[qA]at I;obtain⟨z,aj,h1,ab,ad⟩:=I;have:z=ofV zv:=by
  grind
 subst this;have a5:O=(PO++[e])++lO:=by rw[h.split];simp
 have a6:=Rel.reveal (st:=yO pl ops PO (e :: lO) pre st) h.rel h1 hp U C.base C.nl C.ni;refine⟨st.put o.dst (.ptr st.mu.length 0) (st.mu++[.arr (ofV zv).cells]),⟨G.imm,G.blk++[(B e,zv.cells.size)]⟩,a5,ad,fun i g l=>?_,fun i g l=>?_,fun i o' d' g r J a2=>?_,fun i g r=>?_,fun i j g hj=>h.inj i j (qO _ g) (qO _ hj),?_⟩
 .rcases qG.1 g with g|g
  .exact h.s i g l
  grind
 .exact yC _ (h.d i g l)
 .have g:i∈PO:=by
   grind
  have l:zh pl ops i=0:=by
   by_cases hh:zh pl ops i=0
   .exact hh
   .exact absurd (h.s i g hh) r
  refine(SegI.keepDG K h.split g J ho a2 (h.p i o' d' g r J a2)).re (Uw J l) fun hm U=>?_
  refine Uv ab (i:=i) ?_ J a2 U;rw[if_neg (by omega)];refine y9.2 ⟨g,?_⟩
  grind [zP,absurd,Uu]
 .have ae:i≠e:=fun hh=>by
   subst hh;exact K.disj a5 g (by simp)
  have R:=h.al i (qO _ g) r;refine⟨R.x,R.base,fun hl=>?_,R.ni⟩;obtain⟨j,c,t,hc,af,a7⟩:=hl;have a0:=h.rel.stp.sim.len;have a0:G.blk.length=st.mu.length:=a0;rcases zB hc with ⟨q1,q2⟩|⟨q1,q2⟩
  .rcases zB a7 with ⟨_,q3⟩|⟨q3,_⟩
   .exact R.nl ⟨j,c,t,q2,af,q3⟩
   .omega
  .rcases zB a7 with ⟨q3,_⟩|⟨_,q3⟩
   .omega
   .exact h.inj i e (qO _ g) a1 r a3 ae (Prod.mk.inj q3).1
 .refine a6.weak rfl fun t=>?_
  by_cases U:behind pl ops (PO++[e]) lO pre t
  .exact .inl (Qr U)
  .right
   rw[jN U,hd];by_cases T:t=d
   .subst T;simp[St.put];rfl
   .rw [jd (fun h'=>T (by cases h';rfl)),jd (fun h'=>T (by cases h';rfl)),jN]
    rintro (⟨i,h1,h2,h3⟩|⟨i,h1,h2,h3⟩)
    .exact U (.inl ⟨i,yC _ h1,h2,h3⟩)
    .rcases qw.1 h1 with rfl|h1
     .rw [a9]at h3;cases h3;exact T rfl
     .exact U (.inr ⟨i,h1,h2,h3⟩)
theorem SegI.advs(K:vT pl ops O)(g:∀ i k,(zP ops k).testBit i=true->k∈pre->i∈pre){B:Nat->Nat}:∀(es j l:List Nat) (st:St) (G:Gh),SegI P pl ops O ro G0 mu0 w0 n Q Qp pre a w j (es++l) st G B->(∀ i,i∈es->zh pl ops i≠1/\(zh pl ops i=2->i∈pre)) ->
  ∃ p G',SegI P pl ops O ro G0 mu0 w0 n Q Qp pre a w (j++es) l p G' B
 | [],j,l,st,G,h,_=>⟨st,G,by simpa using h⟩
 |e :: es,j,l,st,G,h,r=>by
  obtain⟨c1,c2⟩:=r e (qU ..);rcases KP pl ops e with o|o|o
  .obtain ⟨st1,t⟩:=SegI.advP K h o
   obtain⟨st2,I,J⟩:=SegI.advs K g es (j++[e]) l st1 G t fun i C=>r i (qO _ C)
   grind
  .exact absurd o c1
  .obtain ⟨st1,R,t⟩:=SegI.advA K g h o (c2 o)
   obtain⟨st2,I,J⟩:=SegI.advs K g es (j++[e]) l st1 R t fun i C=>r i (qO _ C)
   grind
end
end
section
variable {ops:Array us}{P:qb}
theorem Stp.allocNone{G:Gh}{mu:Mu}{w:qh}(s:Sim G mu w.heap)(o:Obj):Stp G mu w G mu (w.alloc o):=by
 have g:=VV s o;refine⟨.refl G,⟨s.len,fun b j=>VQ (s.imm b j) g.size,?_,s.live,s.inj,s.tab.mono (fun _ h=>h) g.keep⟩,fun b j _=>wD w o b j,g.size,fun b h => .inl h,fun b h => .inl h,rfl,rfl,rfl,qs _⟩;intro i c l p r t C;obtain⟨I,P,J⟩:=s.obj i c l p r t C;exact⟨I,by grind [wD,zJ],J.mono (.refl G) g⟩
theorem qcM{ro:Ro}{o:us}{e:qf}(g:o.op = .alloc e){z:AV}(j:qB P e=some z){a:Act}{w:qh}{next:Act->qh->Prop}{Q:Exit->Act->qh->Prop}
  (h:∀ zv,z=ofV zv->next (a.put o.dst (.pointer (some ⟨w.heap.size,0,none⟩))) (w.alloc (.cells zv.cells e))):o.wpIn (WF ro) 0 P a w next Q:=by
 obtain⟨l,op,r,pos,after,guard⟩:=o;simp only at g h;subst g;refine⟨fun _ _=>trivial,?_⟩;rw[show (WF ro).round=ro.rd from rfl,Oper.semAt_eq _ _ _ (fun c e=>by cases e)];obtain⟨zv,i,p⟩:=wE j w;refine Ks ?_;have t:(newVar e zv).run P w = .ok ⟨w.heap.size,0,none⟩ (w.alloc (.cells zv.cells e)):=rfl;simp_all[execOp,Instr.alloc,qJ,qL,Oper.upon]
theorem qcN{pl:Pol}{ro:Ro}{G0:Gh}{aa:Mu}{w0:qh}{n:Nat}(s0:Sim G0 aa w0.heap)(b8:(ops.toList.all fun o=>dOk n o.dst)=true)
  {Q:St->Prop} {Qp:AV->St->Prop} {QQ:Exit->Act->qh->Prop} (hQ:∀ st a w G,Q st->Rel ro G0 aa w0 n G st a w->QQ .normal a w)
  (bk:∀ v st a w G u,Qp v st->Rel ro G0 aa w0 n G st a w->VRel G w.heap v u->QQ (.panic [{ v:=u,recovered:=false }]) a w) {st:St} {a:Act} {w:qh} {G:Gh} (r:Rel ro G0 aa w0 n G st a w)
  (h:SegA P pl ops Q Qp st) (ab:Bool) (t:Nat):wpOpsIn (WF ro) 0 P ops QQ (Region.schedule ab ops t) a w:=by
 obtain⟨O,bl,b9,h⟩:=h;have K:=qcJ bl;obtain⟨h1,h2⟩:=Kx K.edges ab t;obtain⟨h3,h4⟩:=Topo.closed K.edges _ _ rfl h1;have h3:=fun k hk=>(h3 k hk).1
 generalize Region.schedule ab ops t=L at *
 have bb:∀ i,i<ops.size->i∈L:=by
  intro i C;refine vG fun hn=>?_
  have bm:(i :: L).length<=(qt ops.size).length:=jU (jx.2 ⟨hn,h4⟩) (fun k hk=>by
   grind)
  simp at bm;omega
 have ay:∀(i:Nat) (o:us) (e:qf),ops[i]?=some o->o.op = .alloc e->∃ z,qB P e=some z:=by
  have gen:∀(O pre:List Nat),vU P ops (plan pl ops pre O)->∀ i,i∈O->∀(o:us) (e:qf),ops[i]?=some o->o.op = .alloc e->∃ z,qB P e=some z:=by
   intro O;induction O with
   |nil=>grind
   |cons j O ih =>
    intro pre hn i C o e ho a9;simp only[plan,vU]at hn;rcases qw.1 C with rfl|C
    .have hk:zh pl ops i=2:=by
      unfold zh;rw[ho];simp[ZR,wN,a9]
     have hn:=hn.1;rw[hk,ho]at hn;simp only[a9]at hn;obtain⟨z,hz,_⟩:=hn;exact⟨z,hz⟩
    grind
  exact fun i o e ho a9=>gen O [] b9 i (K.all i (zJ.1 ho).1) o e ho a9
 have key:∀(post pre:List Nat) (a:Act) (w:qh) (G:Gh) (PO lO:List Nat) (ad:St) (B:Nat->Nat),L=pre++post->SegI P pl ops O ro G0 aa w0 n Q Qp pre a w PO lO ad G B->wpOpsIn (WF ro) 0 P ops QQ post a w:=by
  intro post;induction post with
  |nil =>
   intro pre a w G PO lO ad B hL I;rw[zO]at hL;subst hL;have az:∀ i,i<ops.size->i∈L:=bb;obtain⟨st2,G2,I2⟩:=SegI.advs K (fun i k hb hk=>h3 k hk |> fun _=>by
    have:=h1.bef K.edges hb;obtain⟨s,t,e⟩:=List.append_of_mem hk;have:=this s t e
    grind) lO PO [] ad G (by simpa using I) (fun i C=>by
    have bc:=K.lt i (by rw[I.split];simp[C]);refine⟨fun hk=>K.disj I.split C (I.d i (az i bc) (by omega)),fun _=>az i bc⟩)
   simp only[wpOpsIn];have hw:=I2.awp;simp only[plan,awpT]at hw;refine hQ st2 a w G2 hw (I2.rel.weak rfl fun t => .inr ?_);refine(jN ?_).symm;rintro (⟨i,q1,q2,q3⟩|⟨i,q1,_⟩)
   .exact q2 (az i (K.lt i (by rw[I2.split];simp;simpa using q1)))
   grind
  |cons k post ih =>
   intro pre a w G PO lO ad B hL I;have hk:k<ops.size:=h3 k (by rw[hL];simp);have cc:(pre++k :: post).Nodup:=by rw[<-hL];exact h4
   have b0:k ∉ pre:=fun hh=>by
    grind
   have ho:ops[k]?=some ops[k]:=by simp[hk]
   generalize ca:ops[k]=o at ho;have aj:dOk n o.dst=true:=qH.1 b8 o (by grind);have bef:∀ i,(zP ops k).testBit i=true->i∈pre:=fun i C=>h1.bef K.edges C pre post hL
   have be:∀ i j,(zP ops j).testBit i=true->j∈pre->i∈pre:=fun i j hb hj=>by
    obtain⟨s,t,e⟩:=List.append_of_mem hj;have:=h1.bef K.edges hb s (t++k :: post) (by rw[hL,e];simp);rw[e];exact yC _ this
   have b1:L=(pre++[k])++post:=by rw[hL];simp
   have ae:zw ops k=o.dst:=by simp[zw,ho]
   have ak:∀(i:Nat) (d:Tmp),i<ops.size->i≠k->zw ops i=some d->∀ u,(a.put o.dst u).tmps.getD d j2=a.tmps.getD d j2:=fun i d C R hd u=>by
    cases bn:o.dst with
    |none=>rfl
    |some x =>
     have bo:x≠d:=fun e=>(K.du i k d C hk hd).1 R (by rw[ae,bn,e])
     simp only[Act.put,qF];rw[XH bo]
   have au:∀(T a0:List Nat),lO=T++a0->(∀ i,i∈T->zh pl ops i≠0->(zP ops k).testBit i=true)->∃ b2 G',SegI P pl ops O ro G0 aa w0 n Q Qp pre a w (PO++T) a0 b2 G' B:=fun T a0 e hm=>by
    subst e;refine SegI.advs K be T PO a0 ad G I fun i C=>⟨fun U=>?_,fun U=>bef i (hm i C (by omega))⟩
    have:=I.d i (bef i (hm i C (by omega))) (by omega);exact K.disj I.split (yC _ C) this
   have av:∀(PO lO:List Nat) (G:Gh) (st:St),SegI P pl ops O ro G0 aa w0 n Q Qp pre a w PO lO st G B->(∀ i d,i<ops.size->zw ops i=some d->yN ops k d=true->i∈PO)->∀ t,yN ops k t=true->(yO pl ops PO lO pre st).tm t=st.tm t:=by
    intro PO lO G st I aw t ht;refine jN ?_;rintro (⟨i,q1,q2,q3⟩|⟨i,q1,q2,q3⟩)
    .exact q2 (bef i ((K.du i k t (K.lt i (by rw[I.split];simp[q1])) hk q3).2 ht))
    .exact K.disj I.split q1 (aw i t (K.lt i (by rw[I.split];simp[q1])) q3 ht)
   rcases KP pl ops k with af|af|af
   ·
    have:∃ PO lO st G,k∈PO/\SegI P pl ops O ro G0 aa w0 n Q Qp pre a w PO lO st G B:=by
     by_cases a5:k∈PO
     .exact ⟨PO,lO,ad,G,a5,I⟩
     .have an:k∈lO:=by
       have:=K.all k hk;rw[I.split]at this;exact(qG.1 this).resolve_left a5
      obtain⟨T,a0,rfl⟩:=List.append_of_mem an;have bg:=(K.ord (PO++T) a0 k (by rw[I.split];simp)).2.2 (by omega);obtain⟨b2,G',I'⟩:=au (T++[k]) a0 (by simp) fun i C U=>by
       rcases qG.1 C with C|C
       .exact bg i (List.mem_append_right _ C) U
       .rw [qN]at C;subst C;exact absurd af U
      exact⟨_,_,b2,G',by simp,I'⟩
    clear I au;obtain⟨PO,lO,st,G,a5,I⟩:=this;cases hd:o.dst with
    |none=>have:=K.dn k hk (by rw[ae,hd]);omega
    |some d =>
    have aw:∀ i d,i<ops.size->zw ops i=some d->yN ops k d=true->i∈PO:=fun i d C bq hr=>by
     obtain⟨s,t,hs⟩:=List.append_of_mem a5;have:=(K.ord s (t++lO) k (by rw[I.split,hs];simp)).2.1 i d C bq hr;rw[hs];exact yC _ this
    obtain⟨b,hb,hT,hF⟩:=I.p k o d a5 b0 ho hd;have b3:zI ops (yO pl ops PO lO pre st) o=some b:=by
     rw[Ju fun t ht=>av PO lO G st I aw t (by simp only[yN,ho];exact ht)];exact hb
    have a7:=Jn I.rel b3;have ao:∀(G':Gh) (w':qh) (u:zS),Stp G (yO pl ops PO lO pre st).mu w G' (yO pl ops PO lO pre st).mu w'->VRel G' w'.heap (st.tm d) u->wpOpsIn (WF ro) 0 P ops QQ post (a.put o.dst u) w':=by
     intro G' w' u a1 hv;refine ih (pre++[k]) _ _ G' PO lO st B b1 ?_;have aq:=I.rel.put s0 a1 hv aj;refine⟨I.split,I.awp,fun i C U=>yC _ (I.s i C U),fun i C U=>?_,fun i o' d' C J=>I.p i o' d' C (fun hh=>J (yC _ hh)),fun i C J=>?_,fun i j C hj J ai=>?_,?_⟩
     .rcases qG.1 C with C|C
      .exact I.d i C U
      .rw [qN]at C;subst C;exact a5
     .have R:i≠k:=fun e=>K.disj I.split C (e ▸ a5)
      have a4:i∈pre:=by
       rcases qG.1 J with h|h
       .exact h
       .rw [qN]at h;exact absurd h R
      exact(I.al i C a4).step a1 fun d' a3=>ak i d' (K.lt i (by rw[I.split];simp[C])) R a3 u
     .have R:∀ i,i∈lO->i∈pre++[k]->i∈pre:=fun i C J=>by
       rcases qG.1 J with h|h
       .exact h
       .rw [qN]at h
        subst h;exact absurd a5 (K.disj I.split C)
      exact I.inj i j C hj (R i C J) (R j hj ai)
     .refine aq.weak rfl fun t=>?_
      by_cases hb:behind pl ops PO lO (pre++[k]) t
      .exact .inl (Qr hb)
      .right
       rw[jN hb];by_cases a6:o.dst=some t
       .rw [hd]at a6;cases a6
        simp[St.put,hd]
       .rw [jd a6,jN]
        rintro (⟨i,q1,q2,q3⟩|q)
        .refine hb (.inl ⟨i,q1,fun hh=>?_,q3⟩)
         rcases qG.1 hh with hh|hh
         .exact q2 hh
         .rw [qN]at hh;subst hh;exact a6 (by rw[<-ae];exact q3)
        .exact hb (.inr q)
    simp only[wpOpsIn,ho,a7];cases b with
    |false =>
     rw[if_neg (by simp)];exact⟨fun _ _=>trivial,ao G w j2 (Stp.refl I.rel.stp.sim) (by rw[hF rfl];exact .sc _ rfl)⟩
    |true =>
    have br:=hT rfl;rw[if_pos rfl];have bh:DS P pl o (yO pl ops PO lO pre st).ev (yO pl ops PO lO pre st).mu (st.tm d) (yO pl ops PO lO pre st).mu:=br.congr fun x hx=>by
     cases x with
     |tmp t =>
      show st.tm t=(yO pl ops PO lO pre st).tm t;exact(av PO lO G st I aw t (Jv ho hx)).symm
     |const v=>rfl
     |global g=>rfl
     |func f=>rfl
    refine Jl I.rel.stp.sim I.rel.ev bh ?_ ?_
    .rintro v' l G' w' u ⟨rfl,rfl⟩ a1 hv
     exact ao G' w' u a1 hv
    .intro _ _ _ _ _ hh;exact hh.elim
   ·
    have a5:k ∉ PO:=fun hh=>b0 (I.s k hh (by omega))
    have an:k∈lO:=by
     have:=K.all k hk;rw[I.split]at this;exact(qG.1 this).resolve_left a5
    obtain⟨T,a0,rfl⟩:=List.append_of_mem an;have ag:=K.ord (PO++T) a0 k (by rw[I.split];simp);obtain⟨st,G,I⟩:=au T (k :: a0) rfl fun i C U=>ag.2.2 (by omega) i (List.mem_append_right _ C) U
    clear au;generalize cd:PO++T=a2 at *
    have hw:=I.awp;simp only[plan,af,awpT,ho]at hw;obtain⟨b,hb,hw,bs⟩:=hw;have b3:zI ops (yO pl ops a2 (k :: a0) pre st) o=some b:=by
     rw[Ju fun t ht=>av a2 (k :: a0) G st I ag.2.1 t (by simp only[yN,ho];exact ht)];exact hb
    have a7:=Jn I.rel b3;have ao:∀(v:AV) (m:Mu) (G':Gh) (w':qh) (u:zS),awpT P pl ops Q Qp (plan pl ops (a2++[k]) a0) (st.put o.dst v m)->(∀ i o' d',i∈a2->i ∉ pre->zh pl ops i=0->ops[i]?=some o'->o'.dst=some d'->DG P pl ops o' (st.put o.dst v m) d' m) ->
      Stp G st.mu w G' m w'->VRel G' w'.heap v u->wpOpsIn (WF ro) 0 P ops QQ post (a.put o.dst u) w':=by
     intro v m G' w' u b4 bt a1 hv;refine ih (pre++[k]) _ _ G' (a2++[k]) a0 (st.put o.dst v m) B b1 ?_;have aq:=I.rel.put s0 a1 hv aj;have b5:O=(a2++[k])++a0:=by rw[I.split];simp
     refine⟨b5,b4,fun i C U=>?_,fun i C U=>?_,fun i o' d' C J a8 a3=>?_,fun i C J=>?_,fun i j C hj J ai=>?_,?_⟩
     .rcases qG.1 C with C|C
      .exact yC _ (I.s i C U)
      .exact List.mem_append_right _ C
     .rcases qG.1 C with C|C
      .exact yC _ (I.d i C U)
      .exact List.mem_append_right _ C
     .have a4:i ∉ pre:=fun hh=>J (yC _ hh)
      have bi:i∈a2:=by
       rcases qG.1 C with C|C
       .exact C
       .exact absurd (List.mem_append_right _ C) J
      have U:zh pl ops i=0:=by
       by_cases hh:zh pl ops i=0
       .exact hh
       .exact absurd (I.s i bi hh) a4
      exact bt i o' d' bi a4 U a8 a3
     .have R:i≠k:=fun e=>by
       subst e;exact K.disj b5 C (by simp)
      have a4:i∈pre:=by
       rcases qG.1 J with h|h
       .exact h
       .rw [qN]at h;exact absurd h R
      exact(I.al i (qO _ C) a4).step a1 fun d' a3=>ak i d' (K.lt i (by rw[I.split];simp[C])) R a3 u
     .have R:∀ i,i∈a0->i∈pre++[k]->i∈pre:=fun i C J=>by
       rcases qG.1 J with h|h
       .exact h
       .rw [qN]at h
        subst h;exact absurd (show i∈a2++[i] by simp) (K.disj b5 C)
      exact I.inj i j (qO _ C) (qO _ hj) (R i C J) (R j hj ai)
     .refine aq.weak rfl fun t=>?_
      by_cases hb:behind pl ops (a2++[k]) a0 (pre++[k]) t
      .exact .inl (Qr hb)
      .right
       rw[jN hb];by_cases a6:o.dst=some t
       .simp [St.put,a6]
       .rw [jd a6,jd a6,jN]
        rintro (⟨i,q1,q2,q3⟩|⟨i,q1,q2,q3⟩)
        .refine hb (.inl ⟨i,yC _ q1,fun hh=>?_,q3⟩)
         rcases qG.1 hh with hh|hh
         .exact q2 hh
         .rw [qN]at hh;subst hh;exact a6 (by rw[<-ae];exact q3)
        .rcases qw.1 q1 with rfl|q1
         .omega
         .exact hb (.inr ⟨i,q1,q2,q3⟩)
    simp only[wpOpsIn,ho,a7];cases b with
    |false =>
     rw[if_neg (by simp)];exact⟨fun _ _=>trivial,ao (.sc j2) st.mu G w j2 (bs rfl) (fun i o' d' C J U a8 a3=>SegI.keepDG K I.split C a8 ho a3 (I.p i o' d' C J a8 a3)) (Stp.refl I.rel.stp.sim) (.sc _ rfl)⟩
    |true =>
    rw[if_pos rfl];have hw:qA P pl false o.dst o.op st.ev st.mu (fun v m=>jY P pl ops (if 1=0 then [] else pend pl ops a2 k) (st.put o.dst v m)/\awpT P pl ops Q Qp (plan pl ops (a2++[k]) a0) (st.put o.dst v m)) (fun v m=>True/\∀ tm,Qp v ⟨tm,m⟩):=hw rfl;have bu:=hw.congr (ev':=(yO pl ops a2 (k :: a0) pre st).ev) (fun x hx=>by
     cases x with
     |tmp t=>exact(av a2 (k :: a0) G st I ag.2.1 t (Jv ho hx)).symm
     |const v=>rfl
     |global g=>rfl
     |func f=>rfl)
    have cb:k∈k :: a0:=qU ..;refine Jl (mu:=(yO pl ops a2 (k :: a0) pre st).mu) I.rel.stp.sim I.rel.ev bu ?_ ?_
    .rintro v m G' w' u ⟨bj,b4⟩ a1 hv
     rw[if_neg (by decide)]at bj;refine ao v m G' w' u b4 (fun i o' d' C J U a8 a3=>?_) a1 hv;refine(SegI.keepDG K I.split C a8 ho a3 (I.p i o' d' C J a8 a3)).re (Uw a8 U) fun hm hb=>?_
     refine Uv bj (i:=i) (y9.2 ⟨C,?_⟩) a8 a3 hb;have b6:(zP ops k).testBit i=false:=by
      cases hq:(zP ops k).testBit i with
      |false=>rfl
      |true=>exact absurd (bef i hq) J
     simp[U,Uu,a8,hm,b6]
    .rintro v m G' w' u ⟨_,hp⟩ a1 hv
     refine bk v ⟨(yO pl ops a2 (k :: a0) pre st).tm,m⟩ a w' G' u (hp _) ?_ hv;exact I.rel.put (d:=none) s0 a1 (.any j2) rfl
   ·
    have a5:k ∉ PO:=fun hh=>b0 (I.s k hh (by omega))
    have an:k∈lO:=by
     have:=K.all k hk;rw[I.split]at this;exact(qG.1 this).resolve_left a5
    obtain⟨ty,a9⟩:=qcL ho af;obtain⟨z,hz⟩:=ay k o ty ho a9;cases hd:o.dst with
    |none=>have:=K.dn k hk (by rw[ae,hd]);omega
    |some d =>
    have a7:Region.wanted o (yielded ops a.tmps)=true:=by unfold Region.wanted;rw[K.guards k o ho (by simp[wN,a9])]
    simp only[wpOpsIn,ho,a7,if_true];refine qcM a9 hz fun zv bv=>?_
    subst bv;have a1:=Stp.allocNone I.rel.stp.sim (.cells zv.cells ty);have aq:=I.rel.put (v := .any) (u := .pointer (some ⟨w.heap.size,0,none⟩)) (d:=o.dst) s0 a1 (.any _) aj;refine ih (pre++[k]) _ _ G PO lO ad (fun i=>if i=k then w.heap.size else B i) b1 ?_;refine⟨I.split,I.awp,fun i C U=>yC _ (I.s i C U),fun i C U=>?_,fun i o' d' C J=>I.p i o' d' C (fun hh=>J (yC _ hh)),fun i C J=>?_,fun i j C hj J ai b7=>?_,?_⟩
    .rcases qG.1 C with C|C
     .exact I.d i C U
     .rw [qN]at C;subst C;exact absurd af U
    .by_cases R:i=k
     .subst R
      rw[if_pos rfl];refine⟨⟨o,ty,d,zv,ho,a9,hd,hz,?_,YR w _⟩,I.rel.stp.size,fun hl=>?_,fun C=>?_⟩
      .rw [hd]
       have bw:d<n:=by rw[hd]at aj;simpa[dOk] using aj
       have:d<a.tmps.size:=by rw[I.rel.size];exact bw
       simp[Act.put,qF,this]
      .have:=I.rel.stp.sim.livesize hl;omega
      .have:=I.rel.stp.sim.imm _ C;omega
     .rw [if_neg R]
      have a4:i∈pre:=by
       rcases qG.1 J with h|h
       .exact h
       .rw [qN]at h;exact absurd h R
      exact(I.al i C a4).step a1 fun d' a3=>ak i d' (K.lt i (by rw[I.split];simp[C])) R a3 _
    .have ah:∀ i,i∈pre++[k]->i≠k->i∈pre:=fun i J R=>by
      rcases qG.1 J with h|h
      .exact h
      .rw [qN]at h;exact absurd h R
     by_cases R:i=k
     .rw [if_pos R,if_neg (fun e=>b7 (R.trans e.symm))]
      have ar:j≠k:=fun e=>b7 (R.trans e.symm)
      have:=(I.al j hj (ah j ai ar)).lt;omega
     .rw [if_neg R]
      by_cases ar:j=k
      .rw [if_pos ar]
       have:=(I.al i C (ah i J R)).lt;omega
      .rw [if_neg ar]
       exact I.inj i j C hj (ah i J R) (ah j ai ar) b7
    .refine aq.weak rfl fun t=>?_
     by_cases hb:behind pl ops PO lO (pre++[k]) t
     .exact .inl (Qr hb)
     .right
      rw[jN hb];have a6:o.dst≠some t:=fun e=>hb (.inr ⟨k,an,af,by rw[ae];exact e⟩)
      rw[jd a6,jN];rintro (⟨i,q1,q2,q3⟩|q)
      .refine hb (.inl ⟨i,q1,fun hh=>?_,q3⟩)
       rcases qG.1 hh with hh|hh
       .exact q2 hh
       .rw [qN]at hh;subst hh;exact a6 (by rw[<-ae];exact q3)
      .exact hb (.inr q)
 refine key L [] a w G [] O st (fun _=>0) (by simp) ⟨rfl,h,fun i C=>absurd C qI,fun i C=>absurd C qI,fun i o d C=>absurd C qI,fun i _ C=>absurd C qI,fun i j _ _ C=>absurd C qI,?_⟩;refine r.weak rfl fun t=>?_
 grind [behind,Qr,jN]
def Jw(P:qb)(pl:Pol)(ops:Array us)(Q:St->Prop)(g:AV->St->Prop)(st:St):Prop:=KN P pl ops Q g st\/SegA P pl ops Q g st
theorem qcO{pl:Pol}{ro:Ro}{C:Gh}{i:Mu}{I:qh}{n:Nat}(J:Sim C i I.heap)(j:(ops.toList.all fun o=>dOk n o.dst)=true)
  {Q:St->Prop} {R:AV->St->Prop} {QQ:Exit->Act->qh->Prop} (T:∀ st a w G,Q st->Rel ro C i I n G st a w->QQ .normal a w)
  (p:∀ v st a w G u,R v st->Rel ro C i I n G st a w->VRel G w.heap v u->QQ (.panic [{ v:=u,recovered:=false }]) a w) {st:St} {a:Act} {w:qh} {G:Gh} (r:Rel ro C i I n G st a w)
  (h:Jw P pl ops Q R st) (g:Bool) (t:Nat):wpOpsIn (WF ro) 0 P ops QQ (Region.schedule g ops t) a w:=by
 rcases h with h|h
 .exact qcH J j T p r h g t
 .exact qcN J j T p r h g t
end
end Go.Ev
namespace Go.Ev
open Go Go.RowKit
section
variable {c:j3}
inductive qQ where
 |normal
 |exit (id:Nat)
 |ret
 |pan (v:AV)
def seqQ(n:St->Prop)(Q:qQ->St->Prop):qQ->St->Prop
 | .normal,st=>n st
 |e,st=>Q e st
def jZ(id:Nat)(Q:qQ->St->Prop):qQ->St->Prop
 | .exit i,st=>if i=id then Q .normal st else Q (.exit i) st
 |e,st=>Q e st
def uC(I:Nat->St->Prop)(n:Nat)(Q:qQ->St->Prop):qQ->St->Prop
 | .normal,st=>∃ m,m<n/\I m st
 |e,st=>Q e st
def Frz(st g:St):Prop:=∃ give,g.mu=cutM (fun i=>!give i) st.mu 0/\∀ i,Gv st.mu give (st.tm i) (g.tm i)
inductive Fz:St->St->Prop where
 |refl (st:St):Fz st st
 |step {a b c:St} (f:Frz a b) (k:Fz b c):Fz a c
def FzQ(Q:qQ->St->Prop)(e:qQ)(st:St):Prop:=∃ g,Frz st g/\(match e with | .pan _=>g=st|_=>True)/\Q e g
def fzQ:Bool->(qQ->St->Prop)->qQ->St->Prop
 |true,Q=>FzQ Q
 |false,Q=>Q
def Stb(I:Mu->Prop):Prop:=∀ g,I g->I (g++[.dead])
def Yld(P:qb)(i:Nat)(rows:List (List AV))(I:Nat->Mu->Prop)(j:Mu->Prop):Prop:=
 ∀ k x g,rows[k]?=some x->I k g->wd P i x g fun b l=>(b=true/\I (k+1) l)\/(b=false/\j l)
def jm(P:qb)(f:j1)(caps:List AV)(rows:List (List AV)):Prop:=ym P f /\
 ∀(i:Nat) (I:Nat->Mu->Prop) (g:Mu->Prop),(∀ k,Stb (I k))->Stb g->Yld P i rows I g->∀ j,I 0 j ->
  qP P f (.yl i :: caps) j fun e l=>∃ r,e = .ret r/\(I rows.length l\/g l)
def Ux(P:qb)(f:j1)(caps:List AV)(rows:List (List AV)):Prop:=ym P f /\
 ∀(i:Nat) (I:Nat->Mu->Prop) (g:Mu->Prop),Yld P i rows I g->∀ j,I 0 j ->
  qP P f (.yl i :: caps) j fun e l=>∃ r,e = .ret r/\(I rows.length l\/g l)
def KQ(P:qb)(f:j1)(caps:List AV)(rows:List (List AV))(I:Nat->Mu->Prop)(g:qQ->Mu->Prop):Prop:=(jm P f caps rows/\(∀ k,Stb (I k))/\∀ e,Stb (g e))\/Ux P f caps rows
def vp(j:Nat->AV):List Tmp->List AV->(Nat->AV)
 |t :: J,x :: g=>vp (fun i=>if i=t then x else j i) J g
 |_,_=>j
def asQ(n:St->Prop):qQ->St->Prop
 | .normal,st=>n st
 |_,_=>False
def rndQ(I:Nat->Mu->Prop)(g:qQ->Mu->Prop)(k:Nat):qQ->St->Prop
 | .normal,st=>I (k+1) st.mu
 | .pan _,_=>False
 |e,st=>g e st.mu
def awp(P:qb)(pl:Pol):j3->(qQ->St->Prop)->St->Prop
 | .skip,Q,st=>Q .normal st
 | .label _,Q,st=>Q .normal st
 | .region _ R l,Q,st=>(l=false/\awpS P pl false R R.toList (Q .normal) (fun v st=>Q (.pan v) st) st)\/(l=true/\∃ j,Fz st j/\Jw P pl R (Q .normal) (fun v st=>Q (.pan v) st) j)
 | .seq a b,Q,st=>awp P pl a (seqQ (awp P pl b Q) Q) st
 | .cond c a b,Q,st=>∃ t,st.ev c = .sc (.bool t)/\Br t (awp P pl a Q st) (awp P pl b Q st)
 | .block id i,Q,st=>awp P pl i (jZ id Q) st
 | .loop i,Q,st=>∃(z:Bool) (I:Nat->St->Prop) (n:Nat) (j:St),Fz st j/\I n j/\∀ n st,I n st->awp P pl i (uC I n (fzQ z Q)) st
 | .exit id,Q,st=>Q (.exit id) st
 | .ret,Q,st=>Q .ret st
 | .scope i,Q,st=>awp P pl i Q st
 | .rangeFunc g J r i,Q,st=>∃(z:Bool) (T:j1) (o:List AV) (rows:List (List AV)) (I:Nat->Mu->Prop) (C:qQ->Mu->Prop),
   st.ev g = .fn (.func T) [] o/\KQ P T o rows I C/\I 0 (st.mu++[.dead]) /\
   (∀ k x p,rows[k]?=some x->I k p->x.length=J.size/\awp P pl r (asQ (fun st=>awp P pl i (rndQ I C k) st)) ⟨vp st.tm J.toList x,p⟩) /\
   (∀ p,I rows.length p->fzQ z Q .normal ⟨st.tm,p⟩)/\(∀ e p,C e p->fzQ z Q e ⟨st.tm,p⟩)
 |_,_,_=>False
def noRF:j3->Bool
 | .seq a b=>noRF a&&noRF b
 | .cond _ a b=>noRF a&&noRF b
 | .block _ b=>noRF b
 | .loop b=>noRF b
 | .scope b=>noRF b
 | .rangeFunc .. => false
 |_=>true
def dOkC(n:Nat):j3->Bool
 | .region _ R _=>R.toList.all fun o=>dOk n o.dst
 | .seq a b=>dOkC n a&&dOkC n b
 | .cond _ a b=>dOkC n a&&dOkC n b
 | .block _ b=>dOkC n b
 | .loop b=>dOkC n b
 | .scope b=>dOkC n b
 | .rangeFunc _ i g b=>(i.toList.all fun t=>decide (t<n))&&dOkC n g&&dOkC n b&&noRF g&&noRF b
 |_=>true
def ERel(G:Gh)(w:qh):qQ->Exit->Prop
 | .normal,.normal=>True
 | .exit i,.exit j=>i=j
 | .ret,.ret=>True
 | .pan x,.panic chain=>∃ v,chain=[{ v,recovered:=false }]/\VRel G w.heap x v
 |_,_=>False
def Fit(ro:Ro)(j:Gh)(g:Mu)(l:qh)(n:Nat)(Q:qQ->St->Prop)(QQ:Exit->Act->qh->Prop):Prop:=
 ∀ i e st a w G,Q i st->Rel ro j g l n G st a w->ERel G w i e->QQ e a w
theorem Rel.frz{ro:Ro}{l:Gh}{g:Mu}{o:qh}{n:Nat}{G:Gh}{st j:St}{a:Act}{w:qh}(C:Sim l g o.heap)(r:Rel ro l g o n G st a w)(f:Frz st j):∃ G',Rel ro l g o n G' j a w:=by
 obtain⟨give,t,I⟩:=f;refine⟨Go.Ev.frz G give st.mu,fun i=>(I i).sound r.stp.sim (r.tm i),?_,r.size,?_,fun p J=>(u7 r.stp.sim give).vrel r.stp.sim (r.kp p J)⟩
 .intro h
  have:=(r.df h).step (u7 r.stp.sim give);rw[t];exact this
 rw[t];exact r.stp.trans C (u7 r.stp.sim give)
theorem Rel.fz{ro:Ro}{j:Gh}{g:Mu}{l:qh}{n:Nat}{G:Gh}{st i:St}{a:Act}{w:qh}(o:Sim j g l.heap)(r:Rel ro j g l n G st a w)(f:Fz st i):∃ G',Rel ro j g l n G' i a w:=by
 induction f generalizing G with
 |refl st=>exact⟨G,r⟩
 |step f k p =>
  obtain⟨C,t⟩:=r.frz o f;exact p t
theorem Fit.fz{ro:Ro}{t:Gh}{g:Mu}{C:qh}{n:Nat}{Q:qQ->St->Prop}{QQ:Exit->Act->qh->Prop}(I:Sim t g C.heap)(h:Fit ro t g C n Q QQ)(z:Bool):Fit ro t g C n (fzQ z Q) QQ:=by
 cases z with
 |false=>exact h
 |true =>
  intro P e st a w G j r p;obtain⟨R,f,J,j⟩:=j;cases P with
  |pan v =>
   simp only at J;subst J;exact h _ e _ a w G j r p
  |normal =>
   obtain⟨l,o⟩:=r.frz I f;exact h _ e _ a w l j o (by cases e<;>exact p)
  |ret =>
   obtain⟨l,o⟩:=r.frz I f;exact h _ e _ a w l j o (by cases e<;>exact p)
  |exit i =>
   obtain⟨l,o⟩:=r.frz I f;exact h _ e _ a w l j o (by cases e<;>exact p)
section
variable {F:Fence} {rm:Nat} {P:qb} {b:Frame} {a:Act} {k:List Item} {cs:List Frame} {w:qh} {Q:Exit->Act->qh->Prop}
theorem Qs:step P (lone (b.atR a (.code (.scope c) :: k)) cs w) = .next (lone (b.atR a (.code c :: .inScope c :: k)) cs w):=
 step_lone_go (by simp[stepG,stepG.exec,Frame.atR])
theorem qcP:step P (lone (b.atR a (.inScope c :: k)) cs w) = .next (lone (b.atR a k) cs w):=
 step_lone_go (by simp[stepG,stepG.exec,Frame.atR])
theorem qcQ(h:c.wpIn F rm P (Exit.noGoto Q) a w):(Code.scope c).wpIn F rm P Q a w:=by
 intro b k cs t C I;have o:(lone (b.atR a (.code (.scope c) :: k)) cs w).fenced P F:=fenced_calm C I rfl;obtain⟨e,i,j,p,g⟩:=h b (.inScope c :: k) cs t C I;cases e with
 |normal=>exact⟨.normal,i,j,p,.head o Qs (StepsIn.trans g (.one (fenced_calm C I rfl) qcP))⟩
 |exit id=>exact⟨.exit id,i,j,p,fun T J => .head o Qs (g.1 T (by simp[exitTo,J])),
   fun R J=>let ⟨r,U,h2⟩:=g.2 R (by simp[exitTo,J]);⟨r,U,.head o Qs h2⟩⟩
 |goto l=>exact p.elim
 |ret=>exact⟨_,i,j,p,.of_steps (.one o Qs) g⟩
 |panic ch=>exact⟨_,i,j,p,.of_steps (.one o Qs) g⟩
 |outgrown=>exact⟨_,i,j,p,.of_steps (.one o Qs) g⟩
end
end
section
variable {R:AEnd->Mu->Prop}{a:Act}{c:j3}{f:j1}{G:Gh}{args:List AV}{mu:Mu}{pl:Pol}{P:qb}{w:qh}
def Uy(P:qb)(pl:Pol)(n:Nat)(c:j3):Prop:=∀{ro:Ro} {i:Gh} {g:Mu} {j:qh} (_:Sim i g j.heap) (Q:qQ->St->Prop) (l:Exit->Act->qh->Prop) (st:St) (a:Act) (w:qh) (G:Gh),
  Fit ro i g j n Q l->Rel ro i g j n G st a w->dOkC n c=true->((ro.rd=none/\ro.mks=true)\/noRF c=true)->awp P pl c Q st->c.wpIn (WF ro) 0 P l a w
def ZT:qQ->Option j3
 | .ret=>some .ret
 | .exit id=>some (.exit id)
 |_=>none
def JJ(n:Nat)(ps:Array Tmp)(j body:j3)(p:Nat->AV)(o:Nat)(I:Nat->Mu->Prop)(k:Nat)(M:Mu):Prop:=
 ∃ fn tmps d,M[o]?=some (.lp { state := .ready,pending:=none,fn,tmps,params:=ps,assign:=j,body,defers:=d } p)/\tmps.size=n/\I k (M.set o .dead)
def JX(ps:Array Tmp)(j body:j3)(p:Nat->AV)(o:Nat)(r:qQ->Mu->Prop)(M:Mu):Prop:=
 ∃ fn tmps d e c,M[o]?=some (.lp { state := .done,pending:=some c,fn,tmps,params:=ps,assign:=j,body,defers:=d } p)/\ZT e=some c/\r e (M.set o .dead)
theorem KR{h:Array Obj}:∀(ts:List Tmp) (xs:List AV) (j:List zS) (o:Nat->AV) (g:Array zS),xs.length=ts.length->j.length=ts.length ->
  (∀(k:Nat) x,xs[k]?=some x->VRel G h x (j.getD k j2))->(∀ i,VRel G h (o i) (g.getD i j2))->(∀ t,t∈ts->t<g.size) ->
  (∀ i,VRel G h (vp o ts xs i) (((ts.zip j).foldl (fun g (x:Tmp×zS)=>g.setIfInBounds x.1 x.2) g).getD i j2))/\((ts.zip j).foldl (fun g (x:Tmp×zS)=>g.setIfInBounds x.1 x.2) g).size=g.size
 | [],xs,j,o,g,_,_,_,p,_=>by
  refine⟨?_,rfl⟩;cases xs<;>exact p
 |t :: ts,x :: xs,v :: j,o,g,r,l,C,p,I=>by
  have hv:VRel G h x v:=by simpa using C 0 x rfl
  obtain⟨J,P⟩:=KR ts xs j (fun i=>if i=t then x else o i) (g.setIfInBounds t v) (by simpa using r) (by simpa using l) (fun k y R=>by simpa using C (k+1) y (by simpa using R)) (fun i=>by
   by_cases T:i=t
   .simp_all
   .rw [if_neg T]
    have:(g.setIfInBounds t v).getD i j2=g.getD i j2:=by
     simp only[qF]
     grind
    rw[this];exact p i) (fun s U=>by simpa using I s (by simp[U]))
  exact⟨J,by simpa using P⟩
 |_ :: _,[],_,_,_,r,_,_,_,_=>by simp at r
 |_ :: _,_ :: _,[],_,_,_,l,_,_,_=>by simp at l
theorem KS{n:Nat}{ps:Array Tmp}{C body:j3}{rows:List (List AV)}{I:Nat->Mu->Prop}{Ix:qQ->Mu->Prop}{tm:Nat->AV}{R:Nat}
  (h1:Uy P pl n C) (h2:Uy P pl n body) (al:dOkC n C=true) (an:dOkC n body=true) (ao:noRF C=true) (aq:noRF body=true) (ar:∀ t,t∈ps.toList->t<n)
  (a3:∀ k x mu,rows[k]?=some x->I k mu->x.length=ps.size/\awp P pl C (asQ (fun st=>awp P pl body (rndQ I Ix k) st)) ⟨vp tm ps.toList x,mu⟩) :
  Yld P R rows (JJ n ps C body tm R I) (JX ps C body tm R Ix):=by
 rintro k x M hx ⟨fn,tmps,d,hM,af,hI⟩ G w vs s ra l a0 hb;obtain⟨o,ho,au⟩:=s.obj R _ l a0 hM (by simp) hb;obtain⟨rfl,aa⟩:=au;obtain⟨a8,ag⟩:=a3 k x _ hx hI;have ah:vs.size=ps.size:=by rw[ra.1,a8]
 refine⟨_,_,_,_,run_yield ho ah,?_⟩;refine roundIn_of_wpIn (F:=Fence.wide) trivial ?_;simp only;have av:(ps.zip vs).foldl (fun tmps (x:Tmp×zS)=>tmps.setIfInBounds x.1 x.2) tmps=(ps.toList.zip vs.toList).foldl (fun tmps (x:Tmp×zS)=>tmps.setIfInBounds x.1 x.2) tmps:=by
  rw[<-Array.foldl_toList,Array.toList_zip]
 have b4:=KR (G:=G) (h:=w.heap) ps.toList x vs.toList tm tmps (by simpa using a8) (by simpa using ah) (fun k y hy=>by simpa[qF,za] using ra.2 k y hy) aa (fun t ht=>by rw[af];exact ar t ht);refine h1 (ro:=Ro.round l) (s.hid R) _ _ ⟨vp tm ps.toList x,M.set R .dead⟩ _ w G ?_ ⟨?_,fun h=>absurd h (by simp[Ro.round]),?_,Stp.refl (s.hid R),fun p hp=>by simp[Ro.round]at hp⟩ al (.inr ao) ag
 rotate_left
 .grind
 .grind
 intro ae e st1 a1 w1 G1 hq r1 he;cases ae with
 |normal =>
  cases e<;>simp only[ERel]at he
  obtain⟨aw,ax,T1⟩:=r1.stp.unhid s hM (by simp) hb;have ai:w1.heap[l]?=some (.loop { state := .ready,pending:=none,fn,tmps,params:=ps,assign:=C,body,defers:=d }):=by rw[ax];exact ho
  refine⟨_,run_beginRound ai rfl,?_⟩;simp only;have aj:R<st1.mu.length:=(qj.1 aw).1;have ab:G1.blk[R]?=some (l,a0):=r1.stp.le.blk _ _ hb;have ak:l<w1.heap.size:=(zJ.1 ai).1;have W1:=Stp.write (w:=w1) (w':=w1.putObj l (.loop { state := .busy,pending:=none,fn,tmps,params:=ps,assign:=C,body,defers:=d })) T1.sim R _
   (.lp { state := .busy,pending:=none,fn,tmps,params:=ps,assign:=C,body,defers:=d } tm) l a0 _ (zr aj) (by simp) (by simp) ab (by simp) (World.putObj_heap_same ak)
   (fun b ad=>vO ad) rfl rfl rfl ⟨rfl,fun i=>((aa i).mono r1.stp.le (r1.stp.ext (s.hid R)))⟩
  simp only[List.set_set]at W1;have a9:∀ c:Cell,(st1.mu.set R c).set R .dead=st1.mu:=by
   intro c;rw[List.set_set];apply jy
   grind
  have s1:=W1.sim.hid R;rw[a9]at s1;refine h2 (ro:=Ro.round l) s1 _ _ st1 a1 _ G1 ?_ ⟨fun i=>(r1.tm i).mono (.refl G1) (W1.ext T1.sim),fun h=>absurd h (by simp[Ro.round]),r1.size,Stp.refl s1,fun p hp=>by simp[Ro.round]at hp⟩ an (.inr aq) hq;intro ay e2 st2 a2 w2 G2 a4 r2 a5;have az:Stp G1 ((st1.mu.set R (.lp { state := .busy,pending:=none,fn,tmps,params:=ps,assign:=C,body,defers:=d } tm)).set R .dead) (w1.putObj l (.loop { state := .busy,pending:=none,fn,tmps,params:=ps,assign:=C,body,defers:=d })) G2 st2.mu w2:=by
   rw[a9];exact r2.stp
  obtain⟨b0,b1,T2⟩:=az.unhid W1.sim (zr aj) (by simp) ab;have a6:w2.heap[l]?=some (.loop { state := .busy,pending:=none,fn,tmps,params:=ps,assign:=C,body,defers:=d }):=by rw[b1];exact World.putObj_heap_same ak
  have a7:R<st2.mu.length:=(qj.1 b0).1;have b2:G2.blk[R]?=some (l,a0):=T2.le.blk _ _ ab;have b3:l<w2.heap.size:=(zJ.1 a6).1;have T:Stp G M w G2 (st2.mu.set R (.lp { state := .busy,pending:=none,fn,tmps,params:=ps,assign:=C,body,defers:=d } tm)) w2:=(T1.trans s W1).trans s T2;have U:∀ c:Cell,(st2.mu.set R c).set R .dead=st2.mu:=by
   intro c;rw[List.set_set];apply jy
   grind
  have fin:∀(J:Option j3),Stp G M w G2 (st2.mu.set R (.lp { state:=if J.isNone then .ready else .done,pending:=J,fn,tmps,params:=ps,assign:=C,body,defers:=d } tm))
    (w2.putObj l (.loop { state:=if J.isNone then .ready else .done,pending:=J,fn,tmps,params:=ps,assign:=C,body,defers:=d })):=by
   intro J;have W2:=Stp.write (w:=w2) (w':=w2.putObj l (.loop { state:=if J.isNone then .ready else .done,pending:=J,fn,tmps,params:=ps,assign:=C,body,defers:=d })) T2.sim R _
    (.lp { state:=if J.isNone then .ready else .done,pending:=J,fn,tmps,params:=ps,assign:=C,body,defers:=d } tm) l a0 _ (zr a7) (by simp) (by simp) b2 (by simp) (World.putObj_heap_same b3)
    (fun b ad=>vO ad) rfl rfl rfl ⟨rfl,fun i=>((aa i).mono T.le (T.ext s))⟩
   simp only[List.set_set]at W2;exact T.trans s W2
  cases ay with
  |normal =>
   cases e2<;>simp only[ERel]at a5
   refine⟨_,_,run_endRound none a6,true,G2,_,rfl,fin none,.inl ⟨rfl,fn,tmps,d,zr a7,af,?_⟩⟩;rw[U];exact a4
  |ret =>
   cases e2<;>simp only[ERel]at a5
   refine⟨_,_,run_endRound (some .ret) a6,false,G2,_,rfl,fin (some .ret),.inr ⟨rfl,fn,tmps,d,.ret,.ret,zr a7,rfl,?_⟩⟩;rw[U];exact a4
  |exit id =>
   cases e2<;>simp only[ERel]at a5
   subst a5;refine⟨_,_,run_endRound (some (.exit id)) a6,false,G2,_,rfl,fin (some (.exit id)),.inr ⟨rfl,fn,tmps,d,.exit id,.exit id,zr a7,rfl,?_⟩⟩;rw[U];exact a4
  |pan v=>exact a4.elim
 |ret=>exact hq.elim
 |exit id=>exact hq.elim
 |pan v=>exact hq.elim
theorem Uz{n:Nat}:∀(c:j3),Uy P pl n c:=by
  intro c;induction c with
  |skip=>intro ro G0 U w0 s0 Q QQ st a w G hf r _ _ h;exact wpIn_skip (hf .normal .normal st a w G h r trivial)
  |label l=>intro ro G0 U w0 s0 Q QQ st a w G hf r _ _ h;exact wpIn_label (hf .normal .normal st a w G h r trivial)
  |exit id=>intro ro G0 U w0 s0 Q QQ st a w G hf r _ _ h;exact wpIn_exit (hf (.exit id) (.exit id) st a w G h r rfl)
  |ret=>intro ro G0 U w0 s0 Q QQ st a w G hf r _ _ h;exact wpIn_ret (hf .ret .ret st a w G h r trivial)
  |region id R cu =>
    intro ro G0 U w0 s0 Q QQ st a w G hf r hd hn h;rcases h with ⟨rfl,h2⟩|⟨rfl,h2⟩
    · refine wpIn_region_list (Ul s0 (fun st a w G hq r=>hf .normal .normal st a w G hq r trivial) (fun v st a w G u hq r hv=>hf (.pan v) (.panic _) st a w G hq r ⟨u,rfl,hv⟩) _ st a w G r hd h2)
    · obtain⟨st1,ax,h2⟩:=h2
      obtain⟨G1,r1⟩:=r.fz s0 ax;refine wpIn_region_draw fun t=>?_
      exact qcO s0 hd (fun st a w G hq r=>hf .normal .normal st a w G hq r trivial) (fun v st a w G u hq r hv=>hf (.pan v) (.panic _) st a w G hq r ⟨u,rfl,hv⟩) (r1.drew s0) h2 _ t
  |seq x y ay az =>
    intro ro G0 U w0 s0 Q QQ st a w G hf r hd hn h;simp only[dOkC,qr]at hd;simp only[noRF,qr]at hn;refine wpIn_seq (ay s0 _ _ st a w G ?_ r hd.1 (hn.imp id And.left) h);intro ae e T a' w' G' hq r' he;cases ae<;>cases e<;>simp only[ERel]at he
    · exact az s0 Q QQ T a' w' G' hf r' hd.2 (hn.imp id And.right) hq
    · exact hf (.exit _) (.exit _) T a' w' G' hq r' he
    · exact hf .ret .ret T a' w' G' hq r' trivial
    · exact hf (.pan _) (.panic _) T a' w' G' hq r' he
  |cond b0 x y ay az =>
    intro ro G0 U w0 s0 Q QQ st a w G hf r hd hn h;simp only[dOkC,qr]at hd;simp only[noRF,qr]at hn;obtain⟨t,ht,h1,h2⟩:=h;have rc:=r.ev b0;rw[ht]at rc;have ec:a.eval b0 = .bool t:=by generalize a.eval b0=v at rc;cases rc;rfl
    refine wpIn_cond_split ec (fun e=>ay s0 Q QQ st a w G hf r hd.1 (hn.imp id And.left) (h1 e)) (fun e=>az s0 Q QQ st a w G hf r hd.2 (hn.imp id And.right) (h2 e))
  |block id J ih =>
    intro ro G0 U w0 s0 Q QQ st a w G hf r hd hn h;refine wpIn_block (ih s0 _ _ st a w G ?_ r hd hn h);intro ae e T a' w' G' hq r' he;cases ae<;>cases e<;>simp only[ERel]at he
    · exact hf .normal .normal T a' w' G' hq r' trivial
    · subst he
      simp only[jZ]at hq;simp only[Exit.inBlock];split at hq
      · rename_i hid;rw[if_pos hid];exact hf .normal .normal T a' w' G' hq r' trivial
      · rename_i hid;rw[if_neg hid];exact hf (.exit _) (.exit _) T a' w' G' hq r' rfl
    · exact hf .ret .ret T a' w' G' hq r' trivial
    · exact hf (.pan _) (.panic _) T a' w' G' hq r' he
  |loop J ih =>
    intro ro G0 U w0 s0 Q QQ st a w G hf r hd hn h;obtain⟨z,I,n0,st1,ax,hI,a1⟩:=h;obtain⟨G1,r1⟩:=r.fz s0 ax;have hf:=hf.fz s0 z;refine wpIn_loop_ghost (fun k a w=>∃ st G,I k st/\Rel ro G0 U w0 n G st a w) n0 ⟨st1,G1,hI,r1⟩ ?_;intro k a' w' ⟨T,G',bu,r'⟩;refine ih s0 _ _ T a' w' G' ?_ r' hd hn (a1 k T bu);intro ae e st2 a2 w2 G2 hq r2 he;cases ae<;>cases e<;>simp only[ERel]at he
    · obtain⟨m,hm,bv⟩:=hq
      exact⟨m,hm,st2,G2,bv,r2⟩
    · exact hf (.exit _) (.exit _) st2 a2 w2 G2 hq r2 he
    · exact hf .ret .ret st2 a2 w2 G2 hq r2 trivial
    · exact hf (.pan _) (.panic _) st2 a2 w2 G2 hq r2 he
  |scope J ih =>
    intro ro G0 U w0 s0 Q QQ st a w G hf r hd hn h;refine qcQ (ih s0 Q _ st a w G ?_ r hd hn h);intro ae e T a' w' G' hq r' he;cases ae<;>cases e<;>simp only[ERel]at he
    · exact hf .normal .normal T a' w' G' hq r' trivial
    · exact hf (.exit _) (.exit _) T a' w' G' hq r' he
    · exact hf .ret .ret T a' w' G' hq r' trivial
    · exact hf (.pan _) (.panic _) T a' w' G' hq r' he
  |rangeFunc g ps a6 J b8 b9 =>
    intro ro G0 U w0 s0 Q QQ st a w G hf r hd hn h;have b1:ro.rd=none/\ro.mks=true:=by
      rcases hn with hn|hn
      · exact hn
      · simp[noRF]at hn
    simp only[dOkC,qr,qH,decide_eq_true_eq]at hd;obtain⟨⟨⟨⟨bb,bc⟩,be⟩,bg⟩,bh⟩:=hd;obtain⟨z,gf,av,rows,I,Ix,hg,af,h0,a1,bi,ah⟩:=h;have hf:=hf.fz s0 z;refine wpIn_rangeFunc fun fn _=>?_
    have eg:=r.ev g;rw[hg]at eg;generalize hq:a.eval g=gv at eg;cases eg with
    |fn _ _ _ bw ag ca hm hv hw =>
    have e0:bw=#[]:=Array.eq_empty_of_size_eq_zero (by simpa using ca);subst e0;have bj:ym P gf:=by rcases af with h|h;exact h.1.1;exact h.1
    generalize ai:(Loop.mk .ready none fn a.tmps ps a6 J w.heap.size)=C;have a3:∃ w1,w1=(w.alloc (.deferred (some []))).alloc (.loop C):=⟨_,rfl⟩;obtain⟨w1,a3⟩:=a3;have cv:w1.heap.size=w.heap.size+2:=by rw[a3];simp
    have aj:∀ b,b<w.heap.size->w1.heap[b]?=w.heap[b]?:=by
      intro b hb;rw[a3,Below.heap_alloc _ _ b (by simp;omega),Below.heap_alloc _ _ b hb]
    have cb:w1.heap[w.heap.size]?=some (.deferred (some [])):=by
      rw[a3,Below.heap_alloc _ _ _ (by simp)];exact World.alloc_heap_new w _
    have cc:w1.heap[w.heap.size+1]?=some (.loop C):=by
      rw[a3];have:=World.alloc_heap_new (w.alloc (.deferred (some []))) (.loop C);simpa using this
    have sG:=r.stp.sim;have a7:∀ b,Live G st.mu b->b<w.heap.size:=fun b hb=>sG.livesize hb
    have a4:∃ G1:Gh,G1=⟨G.imm,G.blk++[(w.heap.size+1,0)]⟩:=⟨_,rfl⟩;obtain⟨G1,a4⟩:=a4;have ak:G.le G1:=by
      rw[a4];exact⟨fun _ h=>h,fun i x hx=>by simp only;rw[qx (qj.1 hx).1];exact hx⟩
    have ab:Ext G w.heap w1.heap:=⟨by omega,fun b hb=>aj b (sG.imm b hb)⟩;have a8:G1.blk[st.mu.length]?=some (w.heap.size+1,0):=by rw[a4,<-sG.len];simp
    have a0:∀(j:Nat) (c:Cell) (bt:Nat×Nat),(st.mu++[Cell.lp C st.tm])[j]?=some c->G1.blk[j]?=some bt->(st.mu[j]?=some c/\G.blk[j]?=some bt)\/(j=st.mu.length/\c = .lp C st.tm/\bt=(w.heap.size+1,0)):=by
      intro j c bt hj a9;by_cases bk:j<st.mu.length
      · rw[qx bk]at hj
        rw[a4]at a9;simp only at a9;rw[qx (by rw[sG.len];exact bk)]at a9;exact .inl ⟨hj,a9⟩
      · have cd:=(qj.1 hj).1
        simp at cd;have:j=st.mu.length:=by omega
        subst this;rw[a8]at a9;simp at hj a9;exact .inr ⟨rfl,hj.symm,a9.symm⟩
    have s1:Sim G1 (st.mu++[Cell.lp C st.tm]) w1.heap:=by
      refine⟨by rw[a4];simp[sG.len],fun b hb=>?_,?_,?_,?_,sG.tab.mono ak.imm ab.keep⟩
      · rw[a4]at hb;have:=sG.imm b hb;omega
      · intro j c b2 al g1 g2 g3
        rcases a0 j c _ g1 g3 with ⟨q1,q2⟩|⟨rfl,rfl,q⟩
        · obtain⟨o,k1,k2⟩:=sG.obj j c b2 al q1 g2 q2
          exact⟨o,by rw[aj _ (zJ.1 k1).1];exact k1,k2.mono ak ab⟩
        · obtain⟨rfl,rfl⟩:=Prod.mk.inj q
          refine⟨_,cc,rfl,fun i=>?_⟩;rw[<-ai];exact(r.tm i).mono ak ab
      · intro j c b2 al g1 g2 g3
        rcases a0 j c _ g1 g3 with ⟨q1,q2⟩|⟨rfl,rfl,q⟩
        · have:=sG.live j c b2 al q1 g2 q2
          rw[a4];exact this
        · obtain⟨rfl,rfl⟩:=Prod.mk.inj q
          rw[a4];intro bl;have:=sG.imm _ bl;omega
      · intro i j ci cj b ti tj g1 g2 g3 g4 g5 g6
        rcases a0 i ci _ g1 g5 with ⟨q1,q2⟩|⟨rfl,rfl,q⟩<;>rcases a0 j cj _ g2 g6 with ⟨p1,p2⟩|⟨rfl,rfl,p⟩
        · exact sG.inj i j ci cj b ti tj q1 p1 g3 g4 q2 p2
        · obtain⟨rfl,rfl⟩:=Prod.mk.inj p
          have:=a7 _ ⟨i,ci,ti,q1,g3,q2⟩;omega
        · obtain⟨rfl,rfl⟩:=Prod.mk.inj q
          have:=a7 _ ⟨j,cj,tj,p1,g4,p2⟩;omega
        · rfl
    have ad:∀ b,Live G1 (st.mu++[Cell.lp C st.tm]) b->Live G st.mu b\/b=w.heap.size+1:=by
      rintro b ⟨j,c,al,g1,g2,g3⟩;rcases a0 j c _ g1 g3 with ⟨q1,q2⟩|⟨rfl,rfl,q⟩
      · exact .inl ⟨j,c,al,q1,g2,q2⟩
      · exact .inr (Prod.mk.inj q).1
    have t1:Stp G st.mu w G1 (st.mu++[Cell.lp C st.tm]) w1:=by
      refine⟨ak,s1,fun b hb _=>aj b hb,by omega,fun b hb=>?_,fun b hb=>?_,by rw[a3];rfl,by rw[a3];rfl,by rw[a3];rfl,by rw[a3];exact qs _⟩
      · rcases ad b hb with h|h
        · exact .inl h
        · exact .inr (by omega)
      · rw[a4]at hb;exact .inl hb
    have cf:Mk G1 (st.mu++[Cell.lp C st.tm]) w1.heap w.heap.size:=by
      refine⟨cb,fun hb=>?_,fun hb=>?_⟩
      · rcases ad _ hb with h|h
        · have:=a7 _ h;omega
        · omega
      · rw[a4]at hb;have:=sG.imm _ hb;omega
    have bm:JJ n ps a6 J st.tm st.mu.length I 0 (st.mu++[Cell.lp C st.tm]):=by
      refine⟨fn,a.tmps,w.heap.size,by rw[ai];simp,r.size,?_⟩;have:(st.mu++[Cell.lp C st.tm]).set st.mu.length .dead=st.mu++[.dead]:=by simp
      rw[this];exact h0
    have bn:∀(X:Mu->Prop) (M:Mu) (c:Cell),Stb X->M[st.mu.length]?=some c->X (M.set st.mu.length .dead)->X ((M++[Cell.dead]).set st.mu.length Cell.dead):=by
      intro X M c hX hM hx;rw[List.set_append_left _ _ (qj.1 hM).1];exact hX _ hx
    have cg:qP P gf (.yl st.mu.length :: av) (st.mu++[Cell.lp C st.tm]) fun e bo=>∃ r,e = .ret r/\(JJ n ps a6 J st.tm st.mu.length I rows.length bo\/JX ps a6 J st.tm st.mu.length Ix bo):=by
      rcases af with ⟨af,hS,ch⟩|af
      rotate_left
      · exact af.2 st.mu.length _ _ (KS b8 b9 bc be bg bh bb a1) _ bm
      exact af.2 st.mu.length (JJ n ps a6 J st.tm st.mu.length I) (JX ps a6 J st.tm st.mu.length Ix)
       (fun k M ⟨f',t',d',q1,q2,q3⟩=>⟨f',t',d',by rw[qx (qj.1 q1).1];exact q1,q2,bn _ M _ (hS k) q1 q3⟩)
       (fun M ⟨f',t',d',e',c',q1,q2,q3⟩=>⟨f',t',d',e',c',by rw[qx (qj.1 q1).1];exact q1,q2,bn _ M _ (ch e') q1 q3⟩)
       (KS b8 b9 bc be bg bh bb a1) _ bm
    have b3:zC G1 w1.heap (.yl st.mu.length :: av) (#[Value.func (.yield (w.heap.size+1)) #[] #[]]++ag):=by
      refine⟨by simp[hm];omega,fun k x hx=>?_⟩;cases k with
      |zero =>
        simp at hx;subst hx;have e:(#[Value.func (.yield (w.heap.size+1)) #[] #[]]++ag).getD 0 j2=Value.func (.yield (w.heap.size+1)) #[] #[]:=by
          simp only[qF];rw[Array.getElem?_append_left (by simp)];simp
        rw[e];exact VRel.yl _ _ 0 a8
      |succ k =>
        have:=(hw k x (by simpa using hx)).mono ak ab;have e:(#[Value.func (.yield (w.heap.size+1)) #[] #[]]++ag).getD (k+1) j2=ag.getD k j2:=by
          simp only[qF];rw[Array.getElem?_append_right (by simp)];simp
        rw[e];exact this
    refine⟨w.heap.size+1,[mkOf w.heap.size],w1,⟨.fn (.func gf) ag,#[Value.func (.yield (w.heap.size+1)) #[] #[]]⟩,w1,gf,#[Value.func (.yield (w.heap.size+1)) #[] #[]]++ag,w1,?_,?_,fun _ _=>trivial,?_,fun h=>by simp[WF,Fence.wide]at h,?_⟩
    · rw[a3,<-ai,show (WF ro).round=none from b1.1];exact run_enterLoop_outer fn a.tmps ps a6 J
    · simp only[resolve,zk,hq,Deferred.ofValue]
      simp[Act.eval]
    · simp only[invoke]
      exact bj _ w1
    · have aq:=cg.2 G1 w1 _ s1 b3
      have:=(callsIn_wide (n:=0)).2 (aq.mono (R':=rangePost (WF ro) 0 P (w.heap.size+1) QQ { a with defers:=mkOf w.heap.size :: a.defers }) ?_)
      · exact this
      rintro e w3 ⟨G3,a5,t3,bq⟩;have hR:(∃ v,e = .returned v)/\(JJ n ps a6 J st.tm st.mu.length I rows.length a5\/JX ps a6 J st.tm st.mu.length Ix a5):=by
        rcases bq with ⟨rv,v,⟨ck,he,hR⟩,rfl,cw⟩|⟨rv,v,⟨ck,he,_⟩,_⟩
        · exact⟨⟨v,rfl⟩,hR⟩
        · exact absurd he (by simp)
      clear bq;obtain⟨⟨v,rfl⟩,hR⟩:=hR;have tt:Stp G st.mu w G3 a5 w3:=t1.trans sG t3;have cl:Stp G0 U w0 G3 a5 w3:=r.stp.trans s0 tt;have b4:G3.blk[st.mu.length]?=some (w.heap.size+1,0):=t3.le.blk _ _ a8
      have fin:∀(rc:Loop) (e:qQ) (ee:Exit),a5[st.mu.length]?=some (.lp rc st.tm)->fzQ z Q e ⟨st.tm,a5.set st.mu.length .dead⟩->(∀ G w,ERel G w e ee)->QQ ee { a with defers:=mkOf w.heap.size :: a.defers } (w3.putObj (w.heap.size+1) (.loop { rc with state := .exhausted })):=by
        intro rc e ee au cm cn;have cp:=t3.sim.hid_not au (by simp) b4;have br:=t3.sim.live _ _ _ _ au (by simp) b4;have td:Stp G0 U w0 G3 (a5.set st.mu.length .dead) w3:=cl.trans s0 (Stp.drop t3.sim st.mu.length);have b5:w0.heap.size<=w.heap.size:=r.stp.size;have tp:Stp G0 U w0 G3 (a5.set st.mu.length .dead) (w3.putObj (w.heap.size+1) (.loop { rc with state := .exhausted })):=by
          refine⟨td.le,td.sim.putOther cp br,fun b b6 hl=>?_,by simpa using td.size,td.live,td.inew,td.tape,td.os,td.output,td.drawn⟩;rw[vO (by omega)];exact td.keep b b6 hl
        have an:Ext G3 w3.heap (w3.putObj (w.heap.size+1) (.loop { rc with state := .exhausted })).heap:=
          ⟨by simp,fun b b6=>vO (fun (e:b=_)=>br (e ▸ b6))⟩
        have bs:∀ D,Mk G1 (st.mu++[Cell.lp C st.tm]) w1.heap D->D≠w.heap.size+1->Mk G3 (a5.set st.mu.length .dead) (w3.putObj (w.heap.size+1) (.loop { rc with state := .exhausted })).heap D:=by
          intro D m cq;have m3:=m.step t3;exact⟨by rw[vO cq];exact m3.obj,fun h=>m3.nlive h.hid,m3.nimm⟩
        refine hf e ee ⟨st.tm,a5.set st.mu.length .dead⟩ _ _ G3 cm ⟨fun i=>?_,fun _=>?_,r.size,tp,fun p hp=>(tt.vrel sG (r.kp p hp)).mono (.refl G3) an⟩ (cn _ _)
        · exact(tt.vrel sG (r.tm i)).mono (.refl G3) an
        · obtain⟨Ds,⟨cr,_⟩,cs,b7⟩:=r.df b1.1
          have aw:∀ D,D∈Ds->D<w.heap.size:=fun D hD=>(zJ.1 (b7 D hD).2.obj).1
          refine⟨w.heap.size :: Ds,⟨by simp[cr],fun h=>by rw[b1.2]at h;cases h⟩,jx.2 ⟨fun h=>absurd (aw _ h) (by omega),cs⟩,fun D hD=>?_⟩;rcases qw.1 hD with rfl|hD
          · exact⟨b5,bs _ cf (by omega)⟩
          · exact⟨(b7 D hD).1,bs _ ((b7 D hD).2.step t1) (by have:=aw D hD;omega)⟩
      have ao:∀(rc:Loop),a5[st.mu.length]?=some (.lp rc st.tm)->w3.heap[w.heap.size+1]?=some (.loop rc):=by
        intro rc au;obtain⟨o,ho,ct⟩:=t3.sim.obj _ _ _ _ au (by simp) b4;obtain⟨rfl,_⟩:=ct;exact ho
      rcases hR with ⟨f',t',d',q1,q2,q3⟩|⟨f',t',d',e',c',q1,q2,q3⟩
      · refine⟨_,_,run_endLoop (ao _ q1) (by simp),?_⟩
        exact fin _ .normal .normal q1 (bi _ q3) (fun _ _=>trivial)
      · refine⟨_,_,run_endLoop (ao _ q1) (by simp),?_⟩
        cases e' with
        |ret =>
          simp only[ZT,qo]at q2;subst q2;exact wpIn_ret (fin _ .ret .ret q1 (ah _ _ q3) (fun _ _=>trivial))
        |exit id =>
          simp only[ZT,qo]at q2;subst q2;exact wpIn_exit (fin _ (.exit id) (.exit id) q1 (ah _ _ q3) (fun _ _=>rfl))
        |normal=>simp[ZT]at q2
        |pan v=>simp[ZT]at q2
  |goto l=>intro ro G0 U w0 s0 Q QQ st a w G hf r hd hn h;exact h.elim
  |refuse cx=>intro ro G0 U w0 s0 Q QQ st a w G hf r hd hn h;exact h.elim
def resV(P:qb)(st:St):ResultVar->Option AV
 | .tmp t=>some (st.tm t)
 | .cell a t=>vP P st.mu t (st.tm a)
def resL(P:qb)(st:St):List ResultVar->Option (List AV)
 | []=>some []
 |r :: i=>match resV P st r,resL P st i with|some x,some g=>some (x :: g)|_,_=>none
def yX(P:qb)(st:St):List ResultVar->Option AV
 | [r]=>resV P st r
 |g=>(resL P st g).map .tup
def ZU(g:Array zS):ResultVar->Sem zS
 | .tmp t=>pure (g.getD t j2)
 | .cell a t=>do loadVar t (<-asAddr (g.getD a j2))
theorem KT{ro:Ro}{i:Gh}{g:Mu}{j:qh}{n:Nat}{st:St}(r:Rel ro i g j n G st a w){x:ResultVar}{z:AV}(h:resV P st x=some z) :
  ∃ u,(ZU a.tmps x).run P w = .ok u w/\VRel G w.heap z u:=by
 cases x with
 |tmp t=>simp only[resV,qo]at h;subst h;exact⟨_,rfl,r.tm t⟩
 |cell l t =>
  obtain⟨b,u,o,p,C⟩:=XK (P:=P) r.stp.sim (r.tm l) h
  grind [ZU,asAddr,qJ,zk,qL]
theorem qcR{ro:Ro}{o:Gh}{i:Mu}{p:qh}{n:Nat}{st:St}(r:Rel ro o i p n G st a w):∀(l:List ResultVar) (zs:List AV),resL P st l=some zs ->
  ∃ g:List zS,(l.mapM (ZU a.tmps)).run P w = .ok g w/\g.length=zs.length/\g.length=l.length/\∀(k:Nat) z,zs[k]?=some z->∃ u,g[k]?=some u/\VRel G w.heap z u:=by
 intro l;induction l with
 |nil=>intro zs h;simp only[resL,qo]at h;simp_all
 |cons x l t =>
  intro zs h;simp only[resL]at h;split at h
  .rename_i z j C I
   simp only[qo]at h;subst h;obtain⟨u,g1,U⟩:=KT r C;obtain⟨g,J,R,T,k4⟩:=t j I;refine⟨u :: g,by simp[List.mapM_cons,g1,J],by simp[R],by simp[T],fun k z' hz=>?_⟩
   grind
  grind
theorem ZV{fn:Func}{ro:Ro}{C:Gh}{j:Mu}{I:qh}{n:Nat}{st:St}(r:Rel ro C j I n G st a w){z:AV}(h:yX P st fn.results.toList=some z) :
  ∃ u,(results fn a.tmps).run P w = .ok u w/\VRel G w.heap z u:=by
 have i:∀ g:List zS,(fn.results.toList.mapM (ZU a.tmps)).run P w = .ok g w->(results fn a.tmps).run P w = .ok (if h:g.toArray.size=1 then g.toArray[0] else .tuple g.toArray) w:=by
  intro g l;have e:results fn a.tmps=(do let o <-fn.results.mapM (ZU a.tmps);pure (if h:o.size=1 then o[0] else .tuple o)):=rfl;rw[e];simp only[Array.mapM_eq_mapM_toList,qJ,Sem.run_map,l,qL,zk]
 unfold yX at h;split at h
 .rename_i x hx
  obtain⟨u,h1,h2⟩:=KT r h;simp_all
 .rename_i rs J
  cases p:resL P st fn.results.toList with
  |none=>simp[p]at h
  |some zs =>
   simp only[p,qW,qo]at h;subst h;obtain⟨g,R,T,k3,U⟩:=qcR r _ _ p;have t:g.toArray.size≠1:=by
    grind [List.size_toArray,List.length_eq_one_iff]
   refine⟨_,i g R,?_⟩;rw[dif_neg t];refine .tup _ _ (by simp[T]) (fun k z hz=>?_);obtain⟨u,hu,hv⟩:=U k z hz;have:g.toArray.getD k j2=u:=by simp[qF,hu]
   rw[this];exact hv
def st0(args:List AV)(mu:Mu):St:=⟨fun i=>(args[i]?).getD (.sc j2),mu⟩
def wP(P:qb)(g:List ResultVar)(R:AEnd->Mu->Prop):qQ->St->Prop
 | .normal,st | .ret,st=>OptK (yX P st g) fun r=>R (.ret r) st.mu
 | .pan v,st=>R (.pan v) st.mu
 | .exit _,_=>False
theorem Rel.left{ro:Ro}(o:ro.rd=none){C:Gh}{j:Mu}{I:qh}{n:Nat}{G:Gh}{st:St}{a:Act}{w:qh}(r:Rel ro C j I n G st a w):∃(g:List Nat),a.defers=g.map mkOf++ro.dl/\g.Nodup/\(∀ D,D∈g->w.heap[D]?=some (.deferred (some []))) /\
  Rel ro C j I n G st { a with defers:=ro.dl } (vS g w)/\∀ x v,VRel G w.heap x v->VRel G (vS g w).heap x v:=by
 obtain⟨g,⟨R,_⟩,J,P⟩:=r.df o;obtain⟨T,t⟩:=KB g w J P r.stp;exact⟨g,R,J,fun D U=>(P D U).2.obj,⟨fun i=>(r.tm i).mono (.refl G) t,fun _=>Dfs.nil _ _ _ _ _ _,r.size,T,fun p hp=>(r.kp p hp).mono (.refl G) t⟩,fun x v h=>h.mono (.refl G) t⟩
theorem Rel.start{ro:Ro}{fn:Func}{g:Array zS}(s:Sim G mu w.heap)(l:zC G w.heap args g)(J:args.length<=fn.ntmps)(o:ro.dl=[]:=by rfl)(r:ro.kp=[]:=by rfl) :
  Rel ro G mu w fn.ntmps G (st0 args mu) { tmps:=g++Array.replicate (fn.ntmps-g.size) j2,defers:=[] } w:=by
 have P:g.size<=fn.ntmps:=by rw[l.1];exact J
 refine⟨fun i=>?_,fun _=>⟨[],⟨by simp[o],fun _=>rfl⟩,List.nodup_nil,by simp⟩,by simp;omega,Stp.refl s,fun p C=>by rw[r]at C;simp at C⟩;simp only[st0];by_cases R:i<args.length
 .have I:args[i]?=some args[i]:=by simp[R]
  have e:(g++Array.replicate (fn.ntmps-g.size) j2).getD i j2=g.getD i j2:=by
   simp only[qF]
   grind
  rw[I,e];exact l.2 i _ I
 .rw [List.getElem?_eq_none (by omega)]
  have e:(g++Array.replicate (fn.ntmps-g.size) j2).getD i j2=j2:=by
   simp only[qF];rw[Array.getElem?_append_right (by rw[l.1];omega),Array.getElem?_replicate];split<;>rfl
  rw[e];exact .sc _ rfl
theorem qP.of_awp{fn:Func}(g:ym P f)(hf:P.funcs[f]?=some fn)(hb:fn.body=some c)
  (hn:args.length<=fn.ntmps) (hd:dOkC fn.ntmps c=true) (h:awp P pl c (wP P fn.results.toList R) (st0 args mu)):qP P f args mu R:=by
 refine⟨g,fun G w vs s ra=>?_⟩;refine(callsIn_wide (n:=0)).1 (callsIn_of_wp_marks hf hb trivial ?_);refine Uz (n:=fn.ntmps) c (ro:=Ro.fn) s _ _ (st0 args mu) _ w G ?_ ?_ hd (.inl ⟨rfl,rfl⟩) h
 .intro ae e st a l o j r T
  obtain⟨U,g1,g2,g3,i,p⟩:=r.left rfl;have key:∀(u:FrameMode) (R:Ending->qh->Prop),u ≠ .run->LeavesIn Fence.wide 0 P fn a.tmps R [] u (vS U l)->LeavesInM Fence.wide 0 P fn a.tmps R a.defers u l:=by
   intro u R hu hl;rw[g1];exact Uk hu U l g2 g3 hl
  cases ae<;>cases e<;>simp only[ERel]at T
  .obtain ⟨z,t,C⟩:=j
   obtain⟨u,I,J⟩:=ZV i t;exact key .returning _ (by simp) ⟨u,I,o,st.mu,i.stp,.inl ⟨z,u,C,rfl,J⟩⟩
  .exact j.elim
  .obtain ⟨z,t,C⟩:=j
   obtain⟨u,I,J⟩:=ZV i t;exact key .returning _ (by simp) ⟨u,I,o,st.mu,i.stp,.inl ⟨z,u,C,rfl,J⟩⟩
  .obtain ⟨v,rfl,hv⟩:=T
   exact key (.panicking _) _ (by simp) ⟨o,st.mu,i.stp,.inr ⟨_,v,j,rfl,p _ _ hv⟩⟩
 .exact Rel.start s ra hn
theorem Sim.empty{g:Nat->Prop}{h:Array Obj}(l:∀ b,g b->b<h.size)(o:wC g h):Sim ⟨g,[]⟩ [] h:=
 ⟨rfl,l,fun i c b t h=>by simp at h,fun i c b t h=>by simp at h,fun i j ci p b t r h=>by simp at h,o⟩
theorem qe.of_sound{r:AV}(h:qP P f args [] fun e l=>∃ C,e = .ret C/\Rd l C r):qe P f args r:=by
 obtain⟨o,h⟩:=h;refine⟨o,fun p w U hi ra=>?_⟩;refine(h ⟨p,[]⟩ w U hi ra).mono fun e w' ⟨R,l,st,hR⟩=>?_
 have g:∀ b,¬Live ⟨p,[]⟩ [] b:=fun b ⟨i,c,t,hc,_⟩=>by simp at hc
 rcases hR with ⟨C,v,⟨I,T,J⟩,rfl,hv⟩|⟨C,v,⟨I,T,_⟩,_⟩
 .cases T
  refine⟨fun b=>R.imm b\/Live R l b,v,rfl,fun b j => .inl (st.le.imm b j),fun b j=>?_,⟨⟨st.os,st.tape,st.output,st.size,fun k hk=>st.keep k hk (g k)⟩,st.drawn⟩,J.sound st.sim hv⟩;rcases j with j|j
  .refine ⟨st.sim.imm b j,?_⟩
   rcases st.inew b j with h|h|h
   .exact .inl h
   .exact absurd h (g b)
   .exact .inr h
  .refine ⟨st.sim.livesize j,?_⟩
   rcases st.live b j with h|h
   .exact absurd h (g b)
   .exact .inr h
 grind
theorem qSW{fn:Func}(g:ym P f)(hf:P.funcs[f]?=some fn)(i:fn.body=some c)(pl:Pol)(h:awp P pl c (wP P fn.results.toList R) (st0 args mu))(j:Nat.ble args.length fn.ntmps=true:=by kernel_rfl)(l:dOkC fn.ntmps c=true:=by kernel_rfl):qP P f args mu R:=qP.of_awp g hf i (Nat.le_of_ble_eq_true j) l h
theorem qSQ{fn:Func}{r:AV}(g:ym P f)(hf:P.funcs[f]?=some fn)(j:fn.body=some c)(pl:Pol)(h:awp P pl c (wP P fn.results.toList fun e l=>∃ i,e = .ret i/\Rd l i r) (st0 args []))(o:Nat.ble args.length fn.ntmps=true:=by kernel_rfl)(p:dOkC fn.ntmps c=true:=by kernel_rfl):qe P f args r:=qe.of_sound (qSW g hf j pl h o p)
theorem qSV{fn:Func}{r:AV}(g:ym P f)(hf:P.funcs[f]?=some fn)(j:fn.body=some c)(h:awp P {} c (wP P fn.results.toList fun e l=>∃ i,e = .ret i/\Rd l i r) (st0 args []))(o:Nat.ble args.length fn.ntmps=true:=by kernel_rfl)(p:dOkC fn.ntmps c=true:=by kernel_rfl):qe P f args r:=qe.of_sound (qSW g hf j {} h o p)
def RdN(mu:Mu)(x y:AV):Prop:=∀(G:Gh) (h:Array Obj) (v:zS),Sim G mu h->VRel G h x v->VRel ⟨Live G mu,[]⟩ h y v
theorem RdN.sl{b sz off len:Nat}{cells:List AV}{ys:List (List AV)}(t:mu[b]?=some (.arr cells))(hl:off+len*sz<=cells.length)(J:ys.length=len)(C:z6 sz ys)
  (hf:∀(k:Nat) y,ys.flatten[k]?=some y->FL y) (h:∀(k:Nat) x y,cells[off+k]?=some x->ys.flatten[k]?=some y->x=y):RdN mu (.sl b sz off len) (.lst false ys):=by
 intro G hp v s r;subst J;cases r with
 |sl _ _ _ _ i j cap I ht l =>
 obtain⟨arr,e,P,h2,h3,R⟩:=s.arr b cells i j t I;by_cases T:ys=[]
 .subst T;exact .emp false _ cap (by simp)
 .have U:=zZ C
  have g:∀(k:Nat) y,ys.flatten[k]?=some y->∃ x,cells[off+k]?=some x:=by
   grind
  refine .lst false ys sz ⟨i,off,none⟩ cap arr e (0,0) (fun k=>arr.getD (off+k) j2) P rfl l (by simp) ⟨b,_,j,t,by simp,I⟩ C ?_ ?_
  .intro k y o
   obtain⟨x,p⟩:=g k y o;have:off+k<arr.size:=by grind
   simp_all
  .intro k y o
   obtain⟨x,p⟩:=g k y o;have:=h k x y p o;subst this;exact hf k x o _ _ _ _ _ (R _ x p).2
end
end Go.Ev
