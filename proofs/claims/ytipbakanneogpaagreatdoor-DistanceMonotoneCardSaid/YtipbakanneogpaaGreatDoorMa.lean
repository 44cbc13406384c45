/-
  Own library, part 1: an abstract reading of values and a calculus over it; contracts of functions; plain lemmas.
-/
import GoSem.Claim
import Derived.WalkKit
import Derived.Laws.AppendOwn
import Derived.Laws.CopyRow
import Derived.Below
import Derived.RangeFuncRecord
import Derived.Laws.BytesString
import Derived.IntWalk
import Derived.Lib.AppendZerosOnto
set_option linter.unusedVariables false
set_option linter.unusedSimpArgs false
set_option maxRecDepth 100000
open Go renaming Value->qf,World->qd,TypeId->qc,MapEntry->zE,undef->qU,Program->qb,Operand->qg,FuncId->qx
open List renaming getElem?_eq_some_iff->qk,mem_map->qn,range->qu,mem_cons->qy,getElem?_eq_getElem->qA,getElem?_append_left->qN,replicate->q9,mem_of_getElem?->zb,length_append->zd,map_append->ze,getElem?_map->zn,append_assoc->zB,all_eq_true->zF,length_cons->zG,getElem?_append_right->zM,getD_eq_getElem?_getD->zS,length_map->zT,cons_append->yP,mem_of_mem_take->jI,ext_getElem?->jS,getElem?_take->vu,take_append_drop->vO,getElem?_cons_succ->v6,length_take->v8,getElem?_drop->uu,getElem?_toArray->wt,eq_nil_of_length_eq_zero->Qd,flatten_cons->Qe,getElem?_cons_zero->VT,mem_flatten->pP
open Go.IntKind renaming i64->qq
open Nat renaming le_refl->qr,le_trans->zQ
open Option.some renaming injEq->qv
open Bool renaming and_eq_true->qH
open Go.Sem renaming run_bind->qS,run_pure->zN
open Go.Result renaming andThen_ok->qW
open Array renaming getD_eq_getD_getElem?->zc,getElem?_eq_some_iff->yK,getElem?_eq_getElem->ZM,getElem?_toList->Ym
open Option renaming map_some->zq,map_eq_some_iff->jR
open Go.Builtin renaming zeroCells->y9
open Prod.mk renaming injEq->uM
namespace Go
abbrev tP:=ByteArray
section
variable {a b p:Prop}
theorem zOm(h:p:=by omega):p:=h
theorem zSi(h:p:=by simp[go_sem]):p:=h
theorem zS1(x:a)(h:a->p:=by intro x;simp[go_sem,x]):p:=h x
theorem zS2(x:a)(y:b)(h:a->b->p:=by intro x y;simp[go_sem,x,y]):p:=h x y
theorem zS3{c:Prop}(x:a)(y:b)(z:c)(h:a->b->c->p:=by intro x y z;simp[go_sem,x,y,z]):p:=h x y z
theorem zKr(h:p:=by kernel_rfl):p:=h
theorem zSp(h:p:=by simp):p:=h
theorem zP1(x:a)(h:a->p:=by intro x;simp[x]):p:=h x
theorem zSo(h:p:=by simp;omega):p:=h
theorem zUs(x:a)(h:a->p:=by intro x;simpa using x):p:=h x
theorem zVs(x:a)(h:a->p:=by intro x;simpa[go_sem] using x):p:=h x
theorem zW1(x:a)(h:a->p:=by intro x;omega):p:=h x
theorem zW2(x:a)(y:b)(h:a->b->p:=by intro x y;omega):p:=h x y
theorem zDe(h:p:=by decide):p:=h
theorem zIn{c}[Decidable c]{I}{a b:I}(h:¬c:=by omega):(if c then a else b)=b:=if_neg h
theorem zGl{I}{l:List I}{i j a}(h:i≠j:=by omega):(l.set i a)[j]?=l[j]?:=List.getElem?_set_ne h
theorem zGa{I}{l m:List I}{i}(h:i<l.length:=by omega):(l++m)[i]?=l[i]?:=qN h
end
end Go
namespace Go.Ev
open Go
def tabs:List (Nat×List qf):=[(0,[.int .u64 1,.int .u64 10,.int .u64 100,.int .u64 1000,.int .u64 10000,.int .u64 100000,.int .u64 1000000,.int .u64 10000000,.int .u64 100000000,.int .u64 1000000000,.int .u64 10000000000,.int .u64 100000000000,.int .u64 1000000000000,.int .u64 10000000000000,.int .u64 100000000000000,.int .u64 1000000000000000,.int .u64 10000000000000000,.int .u64 100000000000000000,.int .u64 1000000000000000000,.int .u64 10000000000000000000])]
end Go.Ev
namespace Go.Ev
open Go
section
variable {I:Type}{h h':Array Obj}{w:qd}
inductive AV where
 |any
 |sc (v:qf)
 |lst (full:Bool) (xs:List (List AV))
 |sl (b sz off len:Nat)
 |agg (cs:List AV)
 |tup (vs:List AV)
 |ip (cs:List AV)
 |ptr (b off:Nat)
 |mp (b:Nat)
 |im (es:List (AV×AV))
 |ims (es:List (AV×AV))
 |fn (f:Fn) (first caps:List AV)
 |ifc (t:qc) (v:AV)
 |yl (b:Nat)
 deriving Inhabited
def pQ:qf->Bool
 | .bool _ | .int _ _ | .float _ _ | .complex _ _ _ | .string _ | .pointer none | .map none | .chan none | .nilFunc | .nilIface=>true
 | .tuple ⟨[]⟩=>true
 |_=>false
def ofC:qf->AV
 | .slice none 0 0 => .lst true []
 | .func f ⟨[]⟩ ⟨[]⟩ => .fn f [] []
 |v=>if pQ v then .sc v else .any
def ofV:qf->AV
 | .agg g => .agg (g.toList.map ofC)
 |v=>ofC v
def AV.cells:AV->List AV
 | .agg g=>g
 |v=>[v]
def AV.one:AV->Bool
 | .any | .agg _ | .tup _=>false
 | .sc v=>v.oneCell'
 |_=>true
structure Gh where
 imm:Nat->Prop
 blk:List (Nat×Nat)
variable {G G':Gh}
structure Gh.le (G G':Gh):Prop where
 imm:∀ b,G.imm b->G'.imm b
 blk:∀(i:Nat)(x:Nat×Nat),G.blk[i]?=some x->G'.blk[i]?=some x
theorem Gh.le.refl(G:Gh):G.le G:=⟨fun _ h=>h,fun _ _ h=>h⟩
theorem Gh.le.trans{A B C:Gh}(h:A.le B)(k:B.le C):A.le C:=⟨fun b x=>k.imm b (h.imm b x),fun i x y=>k.blk i x (h.blk i x y)⟩
structure Ext (G:Gh) (h h':Array Obj):Prop where
 size:h.size<=h'.size
 keep:∀ b,G.imm b->h'[b]?=h[b]?
theorem Ext.refl(G h):Ext G h h:=⟨qr _,fun _ _=>rfl⟩
def PIx(i j:Nat->Nat)(es g:List I):Prop:=g.length=es.length/\∀ k,k<es.length->i k<es.length/\j k<es.length/\j (i k)=k/\i (j k)=k/\g[i k]?=es[k]?
theorem PIx.refl(es:List I):PIx id id es es:=⟨rfl,fun k h=>⟨h,h,rfl,rfl,rfl⟩⟩
theorem PIx.back{l i}{es g:List I}(p:PIx l i es g){j}(h:j<es.length):g[j]?=es[i j]?:=by
 obtain⟨r,o,t,C,J⟩:=p.2 j h;have:=(p.2 (i j) o).2.2.2.2
 grind
def vy(ce:Array zE)(clock:Nat):Prop:=(∀(k:Nat)(e:zE),ce[k]?=some e->e.born<clock)/\∀(j k:Nat)(e f:zE),ce[j]?=some e->ce[k]?=some f->e.born=f.born->j=k
theorem vy.of{ce clock}(p:clock=ce.size)(g:∀(k) (e:zE),ce[k]?=some e->e.born=k):vy ce clock:=
 ⟨fun k e h=>by grind,fun j k e f i l o=>by rw[<-g j e i,<-g k f l,o]⟩
inductive VRel (G:Gh) (h:Array Obj):AV->qf->Prop
 |any (v:qf):VRel G h .any v
 |sc (v:qf) (hv:pQ v=true):VRel G h (.sc v) v
 |nil (full:Bool):VRel G h (.lst full []) (.slice none 0 0)
 |emp (full:Bool) (a:Addr) (cap:Nat) (hc:full=true->cap=0):VRel G h (.lst full []) (.slice (some a) 0 cap)
 |lst (full:Bool) (xs:List (List AV)) (sz:Nat) (a:Addr) (cap:Nat) (cs:Array qf) (e:qc) (fr:Nat×Nat) (rd:Nat->qf)
   (hb:h[a.block]?=some (.cells cs e fr)) (hs:a.spot=none) (hl:xs.length<=cap) (hc:full=true->cap=xs.length) (hi:G.imm a.block)
   (hz:∀ r,r∈xs->r.length=sz)
   (hr:∀(k:Nat) x,xs.flatten[k]?=some x->cs[a.off+k]?=some (rd k))
   (hv:∀(k:Nat) x,xs.flatten[k]?=some x->VRel G h x (rd k)):VRel G h (.lst full xs) (.slice (some a) xs.length cap)
 |sl (b sz off len blk tot cap:Nat) (hb:G.blk[b]?=some (blk,tot)) (ht:off+cap*sz<=tot) (hl:len<=cap) :
   VRel G h (.sl b sz off len) (.slice (some ⟨blk,off,none⟩) len cap)
 |agg (cs:List AV) (vs:Array qf) (hn:vs.size=cs.length) (hv:∀(k:Nat) x,cs[k]?=some x->VRel G h x (vs.getD k qU)):VRel G h (.agg cs) (.agg vs)
 |tup (cs:List AV) (vs:Array qf) (hn:vs.size=cs.length) (hv:∀(k:Nat) x,cs[k]?=some x->VRel G h x (vs.getD k qU)):VRel G h (.tup cs) (.tuple vs)
 |ip (cs:List AV) (a:Addr) (arr:Array qf) (e:qc) (fr:Nat×Nat) (rd:Nat->qf)
   (hb:h[a.block]?=some (.cells arr e fr)) (hs:a.spot=none) (hi:G.imm a.block)
   (hr:∀(k:Nat) x,cs[k]?=some x->arr[a.off+k]?=some (rd k))
   (hv:∀(k:Nat) x,cs[k]?=some x->VRel G h x (rd k)):VRel G h (.ip cs) (.pointer (some a))
 |ptr (b off blk tot:Nat) (hb:G.blk[b]?=some (blk,tot)):VRel G h (.ptr b off) (.pointer (some ⟨blk,off,none⟩))
 |mp (b blk tot:Nat) (hb:G.blk[b]?=some (blk,tot)):VRel G h (.mp b) (.map (some blk))
 |im (es:List (AV×AV)) (blk:Nat) (ce:Array zE) (clock:Nat) (hb:h[blk]?=some (.map ce clock)) (hi:G.imm blk) (hn:ce.size=es.length)
   (hk:∀(k:Nat) x,es[k]?=some x->VRel G h x.1 (ce.getD k default).key) (hv:∀(k:Nat) x,es[k]?=some x->VRel G h x.2 (ce.getD k default).val)
   (hd:vy ce clock):VRel G h (.im es) (.map (some blk))
 |ims (es es':List (AV×AV)) (σ τ:Nat->Nat) (v:qf) (hp:PIx σ τ es es') (hd:(es.map Prod.fst).Nodup) (r:VRel G h (.im es') v):VRel G h (.ims es) v
 |fn (f:Fn) (first caps:List AV) (vs ws:Array qf) (hn:vs.size=first.length) (hm:ws.size=caps.length)
   (hv:∀(k:Nat) x,first[k]?=some x->VRel G h x (vs.getD k qU)) (hw:∀(k:Nat) x,caps[k]?=some x->VRel G h x (ws.getD k qU)):VRel G h (.fn f first caps) (.func f vs ws)
 |ifc (t:qc) (x:AV) (v:qf) (hv:VRel G h x v):VRel G h (.ifc t x) (.iface t v)
 |yl (b blk tot:Nat) (hb:G.blk[b]?=some (blk,tot)):VRel G h (.yl b) (.func (.yield blk) #[] #[])
theorem VRel.mono(I:G.le G')(he:Ext G h h'){x v}(r:VRel G h x v):VRel G' h' x v:=by
 induction r with
 |any v=>exact .any v
 |sc v p=>exact .sc v p
 |nil full=>exact .nil full
 |emp full a cap hc=>exact .emp full a cap hc
 |lst full J g a cap P e fr rd l hs hl hc C hz hr p o=>exact .lst full J g a cap P e fr rd (by rw[he.keep _ C];exact l) hs hl hc (I.imm _ C) hz hr o
 |sl b g off len i j cap l ht hl=>exact .sl b g off len i j cap (I.blk _ _ l) ht hl
 |agg P vs R p o=>exact .agg P vs R o
 |tup P vs R p o=>exact .tup P vs R o
 |ip P a arr e fr rd l hs C hr p o=>exact .ip P a arr e fr rd (by rw[he.keep _ C];exact l) hs (I.imm _ C) hr o
 |ptr b off i j l=>exact .ptr b off i j (I.blk _ _ l)
 |mp b i j l=>exact .mp b i j (I.blk _ _ l)
 |im U i ce clock l C R hk p hd a1 T=>exact .im U i ce clock (by rw[he.keep _ C];exact l) (I.imm _ C) R a1 T hd
 |ims U a2 σ τ v hp hd r o=>exact .ims U a2 σ τ v hp hd o
 |fn f first a0 vs ws R hm p hw T a3=>exact .fn f first a0 vs ws R hm T a3
 |ifc t x v p o=>exact .ifc t x v o
 |yl b i j l=>exact .yl b i j (I.blk _ _ l)
theorem VRel.le(g:G.le G'){x v}(r:VRel G h x v):VRel G' h x v:=r.mono g (.refl _ _)
theorem VRel.ofC(v):VRel G h (ofC v) v:=by
 unfold Ev.ofC;split
 .exact .nil true
 .exact .fn _ [] [] _ _ rfl rfl zSp zSp
 .split
  .rename_i g;exact .sc v g
  .exact .any v
theorem VRel.ofV(v):VRel G h (ofV v) v:=by
 unfold Ev.ofV;split
 .rename_i i
  refine .agg _ _ zSp ?_;intro k x g;simp only[zn,jR,Ym]at g;obtain⟨v,j,rfl⟩:=g;have:i.getD k qU=v:=by simp[zc,j]
  rw[this];exact .ofC v
 .exact .ofC v
theorem VRel.one{x v}(r:VRel G h x v)(g:x.one=true):v.oneCell'=true:=by
 cases r with
 |ims _ _ _ _ _ _ _ r=>cases r;rfl
 |_=>simp_all[AV.one,Value.oneCell']
theorem qgF{v:qf}(h:v.oneCell'=true):v.cells=#[v]:=by
 cases v<;>simp_all[Value.cells,Value.oneCell']
theorem VRel.cells{x v}(r:VRel G h x v)(o:∀ c,c∈x.cells->c.one=true) :
  v.cells.size=x.cells.length/\(∀(k) c,x.cells[k]?=some c->VRel G h c (v.cells.getD k qU))/\(∀ u,u∈v.cells.toList->u.oneCell'=true):=by
 by_cases C:∃ j,x = .agg j
 .obtain ⟨j,rfl⟩:=C
  cases r with
  |agg _ I J p =>
   refine⟨by simpa[Value.cells,AV.cells] using J,by simpa[Value.cells,AV.cells] using p,?_⟩;intro u t;simp only[Value.cells]at t;obtain⟨k,g⟩:=List.mem_iff_getElem?.1 t;rw[Ym]at g;have l:k<j.length:=by
    grind
   have i:=p k j[k] (zP1 l);have:I.getD k qU=u:=by simp[zc,g]
   rw[this]at i;exact i.one (o _ (by simp[AV.cells]))
 .have e:x.cells=[x]:=by cases x<;>simp_all[AV.cells]
  have i:=r.one (o x (zP1 e));rw[qgF i,e];refine⟨rfl,?_,zP1 i⟩;intro k c g;cases k with
  |zero=>simp at g;subst g;simpa using r
  |succ k=>simp at g
inductive Cell where
 |arr (cells:List AV)
 |mp (es:List (AV×AV))
 |md (es:List (AV×AV))
 |it (es:List (AV×AV)) (seen:List Nat)
 |lp (r:Loop) (tm:Nat->AV)
 |dead
 deriving Inhabited
abbrev Mu:=List Cell
variable {mu:Mu}
def Live(G:Gh)(mu:Mu)(b:Nat):Prop:=∃(i:Nat) (c:Cell) (g:Nat),mu[i]?=some c/\c ≠ .dead/\G.blk[i]?=some (b,g)
def uw(G:Gh)(h:Array Obj)(l:Nat)(o:Obj):Cell->Prop
 | .arr cells=>∃ t e,o = .cells t e (0,0)/\t.size=l/\cells.length<=l/\∀(j:Nat) x,cells[j]?=some x->x.one=true/\VRel G h x (t.getD j qU)
 | .mp U=>∃ ce clock,o = .map ce clock/\ce.size=U.length/\(∀(k:Nat) x,U[k]?=some x->VRel G h x.1 (ce.getD k default).key)/\(∀(k:Nat) x,U[k]?=some x->VRel G h x.2 (ce.getD k default).val) /\
   clock=ce.size/\(∀(k:Nat)(e:zE),ce[k]?=some e->e.born=k)
 | .md U=>∃ ce clock,o = .map ce clock/\ce.size=U.length/\(∀(k:Nat) x,U[k]?=some x->VRel G h x.1 (ce.getD k default).key)/\(∀(k:Nat) x,U[k]?=some x->VRel G h x.2 (ce.getD k default).val)/\vy ce clock
 | .it U seen=>(∃ m p C I ce g,VRel G h (.im p) (.map (some m))/\h[m]?=some (.map ce g)/\G.imm m/\PIx C I U p/\(∀ i,i∈seen->i<U.length)/\o = .mapIter (some m) g (seen.map fun i=>(ce.getD (C i) default).born).toArray g)\/(U=[]/\o = .mapIter none 0 #[] 0)
 | .lp r J=>o = .loop r/\∀ i,VRel G h (J i) (r.tmps.getD i qU)
 | .dead=>True
theorem uw.mono(l:G.le G')(p:Ext G h h'){P o c}(r:uw G h P o c):uw G' h' P o c:=by
  cases c with
  |arr cells=>obtain⟨cs,e,I,J,t,C⟩:=r;exact⟨cs,e,I,J,t,fun j x g=>⟨(C j x g).1,(C j x g).2.mono l p⟩⟩
  |mp U=>obtain⟨ce,R,I,J,t,C,T⟩:=r;exact⟨ce,R,I,J,fun k x g=>(t k x g).mono l p,fun k x g=>(C k x g).mono l p,T⟩
  |md U=>obtain⟨ce,R,I,J,t,C,T⟩:=r;exact⟨ce,R,I,J,fun k x g=>(t k x g).mono l p,fun k x g=>(C k x g).mono l p,T⟩
  | it U seen =>
                  rcases r with ⟨m,a0,σ,τ,ce,a1,I,J,t,C⟩|r
                  · exact .inl ⟨m,a0,σ,τ,ce,a1,I.mono l p,by rw[p.keep _ t];exact J,l.imm _ t,C⟩
                  · exact .inr r
  |lp r1 tm=>exact⟨r.1,fun i=>(r.2 i).mono l p⟩
  |dead=>trivial
theorem uw.le(i:G.le G'){g o c}(r:uw G h g o c):uw G' h g o c:=r.mono i (.refl _ _)
def ZO(g:Nat->Prop)(h:Array Obj):Prop:=∀ x,x∈tabs->g x.1/\∃ e i,h[x.1]?=some (.cells x.2.toArray e i)
theorem ZO.mono{i g j}(t:ZO i h)(o:∀ b,i b->g b)(p:∀ b,i b->j[b]?=h[b]?):ZO g j:=fun x l=>by
 obtain⟨r,e,C,I⟩:=t x l
 grind
structure Sim (G:Gh) (mu:Mu) (h:Array Obj):Prop where
 len:G.blk.length=mu.length
 imm:∀ b,G.imm b->b<h.size
 obj:∀(i:Nat)(c:Cell) blk tot,mu[i]?=some c->c ≠ .dead->G.blk[i]?=some (blk,tot)->∃ o,h[blk]?=some o/\uw G h tot o c
 live:∀(i:Nat)(c:Cell) blk tot,mu[i]?=some c->c ≠ .dead->G.blk[i]?=some (blk,tot)->¬G.imm blk
 inj:∀(i j:Nat)(ci cj:Cell) b ti tj,mu[i]?=some ci->mu[j]?=some cj->ci ≠ .dead->cj ≠ .dead->G.blk[i]?=some (b,ti)->G.blk[j]?=some (b,tj)->i=j
 tab:ZO G.imm h
theorem Sim.bare(s:Sim G mu h):Sim ⟨G.imm,[]⟩ [] h:=
 ⟨rfl,s.imm,fun i c b t h=>by simp at h,fun i c b t h=>by simp at h,fun i j ci g b t l h=>by simp at h,s.tab⟩
theorem Sim.arr(s:Sim G mu h)(i:Nat)(cells l g)(p:mu[i]?=some (.arr cells))(r:G.blk[i]?=some (l,g)) :
  ∃ cs e,h[l]?=some (.cells cs e (0,0))/\cs.size=g/\cells.length<=g/\∀(j) x,cells[j]?=some x->x.one=true/\VRel G h x (cs.getD j qU):=by
 obtain⟨o,t,cs,e,rfl,h⟩:=s.obj i _ l g p zSp r;exact⟨cs,e,t,h⟩
theorem Sim.mp(s:Sim G mu h)(i:Nat)(es g j)(l:mu[i]?=some (.mp es))(p:G.blk[i]?=some (g,j)) :
  ∃ ce clock,h[g]?=some (.map ce clock)/\ce.size=es.length/\(∀(k) x,es[k]?=some x->VRel G h x.1 (ce.getD k default).key)/\(∀(k) x,es[k]?=some x->VRel G h x.2 (ce.getD k default).val) /\
   clock=ce.size/\(∀(k)(e:zE),ce[k]?=some e->e.born=k):=by
 obtain⟨o,r,ce,t,rfl,h⟩:=s.obj i _ g j l zSp p;exact⟨ce,t,r,h⟩
theorem Sim.md(s:Sim G mu h)(i:Nat)(es g j)(l:mu[i]?=some (.md es))(p:G.blk[i]?=some (g,j)) :
  ∃ ce clock,h[g]?=some (.map ce clock)/\ce.size=es.length/\(∀(k) x,es[k]?=some x->VRel G h x.1 (ce.getD k default).key)/\(∀(k) x,es[k]?=some x->VRel G h x.2 (ce.getD k default).val)/\vy ce clock:=by
 obtain⟨o,r,ce,t,rfl,h⟩:=s.obj i _ g j l zSp p;exact⟨ce,t,r,h⟩
theorem Sim.livesize(s:Sim G mu h){b}(l:Live G mu b):b<h.size:=by
 obtain⟨i,c,g,j,p,r⟩:=l;obtain⟨o,t,_⟩:=s.obj i c b g j p r
 grind
theorem Sim.all(s:Sim G mu h):Sim ⟨fun b=>G.imm b\/Live G mu b,[]⟩ [] h:=
 ⟨rfl,fun b h=>h.elim (s.imm b) (fun l=>s.livesize l),fun i c b t h=>by simp at h,fun i c b t h=>by simp at h,fun i j ci g b t o h=>by simp at h,s.tab.mono (fun b h => .inl h) (fun b h=>rfl)⟩
structure Stp (G:Gh) (mu:Mu) (w:qd) (G':Gh) (mu':Mu) (w':qd):Prop where
 le:G.le G'
 sim:Sim G' mu' w'.heap
 keep:∀ b,b<w.heap.size->¬Live G mu b->w'.heap[b]?=w.heap[b]?
 size:w.heap.size<=w'.heap.size
 live:∀ b,Live G' mu' b->Live G mu b\/w.heap.size<=b
 inew:∀ b,G'.imm b->G.imm b\/Live G mu b\/w.heap.size<=b
 tape:w'.tape=w.tape
 os:w'.os=w.os
 output:w'.output=w.output
 drawn:w.drawn<=w'.drawn
theorem Stp.ext{mu' w'}(s:Sim G mu w.heap)(t:Stp G mu w G' mu' w'):Ext G w.heap w'.heap:=
 ⟨t.size,fun b j=>t.keep b (s.imm b j) (fun⟨i,c,g,l,o,p⟩=>s.live i c b g l o p j)⟩
theorem Stp.vrel{mu' w'}(s:Sim G mu w.heap)(t:Stp G mu w G' mu' w'){x v}(r:VRel G w.heap x v):VRel G' w'.heap x v:=
 r.mono t.le (t.ext s)
theorem Stp.refl(s:Sim G mu w.heap):Stp G mu w G mu w:=
 ⟨.refl G,s,fun _ _ _=>rfl,qr _,fun _ h => .inl h,fun _ h => .inl h,rfl,rfl,rfl,qr _⟩
theorem Stp.trans{A B C a b c u v}(s:Sim A a u.heap)(h:Stp A a u B b v)(k:Stp B b v C c w):Stp A a u C c w:=by
 refine⟨h.le.trans k.le,k.sim,?_,zQ h.size k.size,?_,?_,k.tape.trans h.tape,k.os.trans h.os,k.output.trans h.output,zQ h.drawn k.drawn⟩
 .intro x i j
  rw[k.keep x (Nat.lt_of_lt_of_le i h.size) (fun l=>(h.live x l).elim j (fun g=>absurd i (Nat.not_lt.2 g))),h.keep x i j]
 .intro x i
  rcases k.live x i with l|l
  .exact h.live x l
  .exact .inr (zQ h.size l)
 .intro x i
  rcases k.inew x i with l|l|l
  .exact h.inew x l
  .exact .inr (h.live x l)
  .exact .inr (.inr (zQ h.size l))
theorem Stp.drew(s:Sim G mu w.heap):Stp G mu w G mu w.drew:=
 ⟨.refl G,s,fun _ _ _=>rfl,qr _,fun _ h => .inl h,fun _ h => .inl h,rfl,rfl,rfl,Nat.le_succ _⟩
end
end Go.Ev
namespace Go.Ev
open Go Go.RowKit
section
variable {G:Gh}{mu:Mu}{w:qd}
theorem yA{I:Type}{l}{a x:I}{i}(h:(l++[a])[i]?=some x):(i<l.length/\l[i]?=some x)\/(i=l.length/\x=a):=by
 rcases Nat.lt_trichotomy i l.length with g|g|g
 .grind
 .grind
 grind
theorem ZP(w:qd)(o b)(g:b<w.heap.size):(w.alloc o).heap[b]?=w.heap[b]?:=Below.heap_alloc w o b g
theorem VV(w:qd)(o):(w.alloc o).heap[w.heap.size]?=some o:=by
 show (w.heap.push o)[w.heap.size]?=some o;simp
theorem WV(s:Sim G mu w.heap)(o):Ext G w.heap (w.alloc o).heap:=
 ⟨zSp,fun b g=>ZP w o b (s.imm b g)⟩
theorem sB(s:Sim G mu w.heap)(o) :
  Stp G mu w ⟨fun b=>G.imm b\/b=w.heap.size,G.blk⟩ mu (w.alloc o):=by
 have p:G.le ⟨fun b=>G.imm b\/b=w.heap.size,G.blk⟩:=⟨fun b h => .inl h,fun _ _ h=>h⟩;have J:=WV s o;have key:∀ b,Live G mu b->(w.alloc o).heap[b]?=w.heap[b]?:=fun b l=>ZP w o b (s.livesize l)
 refine⟨p,⟨s.len,?_,?_,?_,s.inj,s.tab.mono p.imm J.keep⟩,fun b l _=>ZP w o b l,zSp,fun b h => .inl h,fun b h=>h.elim .inl (fun e => .inr (.inr zOm)),rfl,rfl,rfl,qr _⟩
 .intro b l
  rcases l with l|l
  .have:=s.imm b l;simp;omega
  .simp;omega
 .intro i c j g r t C
  obtain⟨P,R,T⟩:=s.obj i c j g r t C;exact⟨P,by rw[key j ⟨i,_,g,r,t,C⟩];exact R,T.mono p J⟩
 .intro i c j g r t C I
  rcases I with I|I
  .exact s.live i c j g r t C I
  .have:=s.livesize ⟨i,c,g,r,t,C⟩;omega
theorem sR(s:Sim G mu w.heap)(o c t)
  (ha:c ≠ .dead->uw G w.heap t o c) :
  Stp G mu w ⟨G.imm,G.blk++[(w.heap.size,t)]⟩ (mu++[c]) (w.alloc o):=by
 have C:G.le ⟨G.imm,G.blk++[(w.heap.size,t)]⟩:=⟨fun b h=>h,fun i x h=>by
  grind⟩
 have he:=WV s o;have key:∀ b,Live G mu b->(w.alloc o).heap[b]?=w.heap[b]?:=fun b J=>ZP w o b (s.livesize J)
 have a7:=s.len;refine⟨C,⟨by simp[s.len],?_,?_,?_,?_,s.tab.mono C.imm he.keep⟩,fun b J _=>ZP w o b J,zSp,?_,fun b h => .inl h,rfl,rfl,rfl,qr _⟩
 .intro b J
  have:=s.imm b J;simp;omega
 .intro i c' r g hc P R
  rcases yA hc with ⟨T,p⟩|⟨T,p⟩
  .have l:G.blk[i]?=some (r,g):=by
    grind
   obtain⟨o',h1,h2⟩:=s.obj i c' r g p P l;exact⟨o',by rw[key r ⟨i,_,g,p,P,l⟩];exact h1,h2.mono C he⟩
  .have l:(r,g)=(w.heap.size,t):=by
    rcases yA R with ⟨h,_⟩|⟨_,h⟩
    .omega
    .exact h
   obtain⟨rfl,rfl⟩:=Prod.mk.inj l;subst p;exact⟨o,VV w _,(ha P).mono C he⟩
 .intro i c' r g hc P R I
  rcases yA hc with ⟨T,p⟩|⟨T,p⟩
  .have l:G.blk[i]?=some (r,g):=by
    rcases yA R with ⟨_,h⟩|⟨h,_⟩
    .exact h
    .omega
   exact s.live i c' r g p P l I
  .have l:(r,g)=(w.heap.size,t):=by
    rcases yA R with ⟨h,_⟩|⟨_,h⟩
    .omega
    .exact h
   have:=s.imm r I;obtain⟨rfl,_⟩:=Prod.mk.inj l;omega
 .intro i j ci cj b ti tj T hj a3 a4 U a0
  rcases yA T with ⟨a5,a1⟩|⟨a5,a1⟩<;>rcases yA hj with ⟨a6,a2⟩|⟨a6,a2⟩
  .have a:G.blk[i]?=some (b,ti):=by
    rcases yA U with ⟨_,h⟩|⟨h,_⟩
    .exact h
    .omega
   have c:G.blk[j]?=some (b,tj):=by
    rcases yA a0 with ⟨_,h⟩|⟨h,_⟩
    .exact h
    .omega
   exact s.inj i j ci cj b ti tj a1 a2 a3 a4 a c
  .have a:G.blk[i]?=some (b,ti):=by
    rcases yA U with ⟨_,h⟩|⟨h,_⟩
    .exact h
    .omega
   have c:(b,tj)=(w.heap.size,t):=by
    rcases yA a0 with ⟨h,_⟩|⟨_,h⟩
    .omega
    .exact h
   have:=s.livesize ⟨i,ci,ti,a1,a3,a⟩;have:=(Prod.mk.inj c).1;omega
  .have a:G.blk[j]?=some (b,tj):=by
    rcases yA a0 with ⟨_,h⟩|⟨h,_⟩
    .exact h
    .omega
   have c:(b,ti)=(w.heap.size,t):=by
    rcases yA U with ⟨h,_⟩|⟨_,h⟩
    .omega
    .exact h
   have:=s.livesize ⟨j,cj,tj,a2,a4,a⟩;have:=(Prod.mk.inj c).1;omega
  .omega
 .intro b J
  obtain⟨i,c',t',hc,P,R⟩:=J;rcases yA hc with ⟨T,p⟩|⟨T,p⟩
  .have l:G.blk[i]?=some (b,t'):=by
    rcases yA R with ⟨_,h⟩|⟨h,_⟩
    .exact h
    .omega
   exact .inl ⟨i,c',t',p,P,l⟩
  .have l:(b,t')=(w.heap.size,t):=by
    rcases yA R with ⟨h,_⟩|⟨_,h⟩
    .omega
    .exact h
   exact .inr (zW1 ((Prod.mk.inj l).1))
theorem ua{I:Type}{l:List I}{a x i j}(h:(l.set i a)[j]?=some x):(j=i/\x=a)\/(j≠i/\l[j]?=some x):=by
 rw[List.getElem?_set]at h;by_cases g:i=j
 .grind
 .rw [if_neg g]at h;grind
theorem sW{w'}(s:Sim G mu w.heap)(i c c' I J o)
  (T:mu[i]?=some c) (U:c ≠ .dead) (a9:c' ≠ .dead) (hk:G.blk[i]?=some (I,J))
  (hw:w'.heap.size=w.heap.size) (ho:w'.heap[I]?=some o) (r:∀ b,b≠I->w'.heap[b]?=w.heap[b]?)
  (ht:w'.tape=w.tape) (a5:w'.os=w.os) (a2:w'.output=w.output)
  (ha:uw G w.heap J o c') (hdr:w.drawn<=w'.drawn:=by exact qr _) :
  Stp G mu w G (mu.set i c') w':=by
 have a6:Live G mu I:=⟨i,c,J,T,U,hk⟩;have he:Ext G w.heap w'.heap:=⟨zOm,fun b hb=>r b (fun e=>by subst e;exact s.live i c b J T U hk hb)⟩;have aa:∀(j:Nat)(R:Cell) b t,j≠i->mu[j]?=some R->R ≠ .dead->G.blk[j]?=some (b,t)->b≠I:=by
  intro j R b t hj l p g e;subst e;exact hj (s.inj j i R c b t J l T p U g hk)
 refine⟨.refl G,⟨by simpa using s.len,?_,?_,?_,?_,s.tab.mono (fun _ h=>h) he.keep⟩,?_,zOm,?_,fun b h => .inl h,ht,a5,a2,hdr⟩
 .intro b hb;have:=s.imm b hb;omega
 .intro j R b t l p g
  rcases ua l with ⟨rfl,C⟩|⟨hj,C⟩
  .rw [hk]at g
   obtain⟨rfl,rfl⟩:=Prod.mk.inj (Option.some.inj g);subst C;exact⟨o,ho,ha.mono (.refl G) he⟩
  .obtain ⟨o',h1,h2⟩:=s.obj j R b t C p g
   exact⟨o',by grind,h2.mono (.refl G) he⟩
 .intro j R b t l p g
  rcases ua l with ⟨rfl,C⟩|⟨hj,C⟩
  .rw [hk]at g
   obtain⟨rfl,rfl⟩:=Prod.mk.inj (Option.some.inj g);exact s.live j c _ _ T U hk
  .exact s.live j R b t C p g
 .intro a b ca cb P ta tb a7 a8 a3 a4 a0 a1
  rcases ua a7 with ⟨rfl,C⟩|⟨hj,C⟩<;>rcases ua a8 with ⟨rfl,hy⟩|⟨ab,hy⟩
  .rfl
  .exact s.inj a b c cb P ta tb T hy U a4 a0 a1
  .exact s.inj a b ca c P ta tb C T a3 U a0 a1
  .exact s.inj a b ca cb P ta tb C hy a3 a4 a0 a1
 .intro b hb hl
  exact r b (fun e=>hl (e ▸ a6))
 .intro b hb
  obtain⟨j,R,t,l,p,g⟩:=hb;rcases ua l with ⟨rfl,C⟩|⟨hj,C⟩
  .exact .inl ⟨j,c,t,T,U,g⟩
  .exact .inl ⟨j,R,t,C,p,g⟩
theorem sX(s:Sim G mu w.heap)(i):Stp G mu w G (mu.set i .dead) w:=by
 refine⟨.refl G,⟨by simpa using s.len,s.imm,?_,?_,?_,s.tab⟩,fun _ _ _=>rfl,qr _,?_,fun b h => .inl h,rfl,rfl,rfl,qr _⟩
 .intro j r b t o g p
  rcases ua o with ⟨rfl,l⟩|⟨P,l⟩
  .exact absurd l g
  .exact s.obj j r b t l g p
 .intro j r b t o g p hi
  rcases ua o with ⟨rfl,l⟩|⟨P,l⟩
  .exact g l
  .exact s.live j r b t l g p hi
 .intro a b ca cb C ta tb R T I J U a0
  rcases ua R with ⟨rfl,l⟩|⟨P,l⟩
  .exact absurd l I
  .rcases ua T with ⟨rfl,hy⟩|⟨a1,hy⟩
   .exact absurd hy J
   .exact s.inj a b ca cb C ta tb l hy I J U a0
 .intro b hb
  obtain⟨j,r,t,o,g,p⟩:=hb;rcases ua o with ⟨rfl,l⟩|⟨P,l⟩
  .exact absurd l g
  .exact .inl ⟨j,r,t,l,g,p⟩
end
end Go.Ev
namespace Go.Ev
open Go Go.RowKit
section
variable {cs:Array qf}{mu:Mu}{P:qb}{t:qc}{w:qd}
def szOf(P:qb)(t:qc):Option Nat:=(P.info? t).map (·.size)
def qR(P:qb)(t:qc):Option Bool:=(P.underlying t).map fun | .struct _ | .array .. => true|_=>false
def qB(P:qb)(t:qc):Option AV:=((P.info? t).bind (·.zero)).map ofV
def qJ(P:qb)(t:qc):Option (qc×Nat×Nat):=
 match P.underlying t with
 |some (.slice e)=>(P.info? e).map fun i=>(e,i.size,i.bytes)
 |_=>none
def qF(P:qb)(s f:Nat):Option (Nat×qc×Nat):=
 match P.underlying s with
 |some (.struct i)=>(i[f]?).bind fun g=>match szOf P g.type with|some (n+1)=>some (g.offset,g.type,n+1)|_=>none
 |_=>none
def ZQ(P:qb)(t:qc):Option (Nat×qc×Nat):=
 match P.underlying t with
 |some (.array n e)=>(szOf P e).map fun k=>(n,e,k)
 |_=>none
theorem VW{b}(h:qR P t=some b)(w):(isAgg t).run P w = .ok b w:=by
 unfold qR at h;cases g:P.underlying t with
 |none=>simp[g]at h
 |some d =>
  simp only[g,zq,qv]at h;subst h;simp only[isAgg,qS,run_underlying g,Result.andThen];cases d<;>rfl
theorem jK{n}(h:szOf P t=some n)(w):(sizeOf t).run P w = .ok n w:=by
 unfold szOf at h;cases g:P.info? t with
 |none=>simp[g]at h
 |some d =>
  simp_all[zq,qv,sizeOf,typeInfo]
theorem ZR{x}(h:qB P t=some x)(w):∃ v,(zeroValue t).run P w = .ok v w/\x=ofV v:=by
 unfold qB at h;cases g:P.info? t with
 |none=>simp[g]at h
 |some d =>
  simp only[g,Option.bind_some,jR]at h;obtain⟨v,i,rfl⟩:=h;exact⟨v,by simp[zeroValue,typeInfo,g,i],rfl⟩
theorem ZS{a:Addr}{e g}(i:w.heap[a.block]?=some (.cells cs e g))(j:a.spot=none)(k) :
  w.cell? (a.add k)=cs[a.off+k]?:=by
 grind [Addr.add,World.cell?]
@[go_sem] def ub(mu:Mu):AV->Nat->Option (List AV)
 | .ip g,n=>if n<=g.length then some (g.take n) else none
 | .ptr b off,n=>match mu[b]? with
  |some (.arr cells)=>if off+n<=cells.length then some ((cells.drop off).take n) else none
  |_=>none
 |_,_=>none
theorem pR{G}(s:Sim G mu w.heap){p v}(r:VRel G w.heap p v){n cs}(h:ub mu p n=some cs) :
  ∃(a:Addr) (rd:Nat->qf),v = .pointer (some a)/\cs.length=n/\∀(k) x,cs[k]?=some x->w.cell? (a.add k)=some (rd k)/\VRel G w.heap x (rd k):=by
 cases r with
 |ip o a arr e T rd l U hi hr hv =>
  simp only[ub]at h;split at h
  .rename_i t
   simp only[qv]at h;subst h;refine⟨a,rd,rfl,zSo,fun k x C=>?_⟩
   grind [absurd,ZS]
  grind
 |ptr b off g j l =>
  simp only[ub]at h;split at h
  .rename_i cells I
   obtain⟨arr,e,J,h2,h3,P⟩:=s.arr b cells g j I l;split at h
   .rename_i t
    simp only[qv]at h;subst h;refine⟨⟨g,off,none⟩,fun k=>arr.getD (off+k) qU,rfl,zSo,fun k x C=>?_⟩;have i:cells[off+k]?=some x:=by
     grind
    refine⟨?_,(P _ _ i).2⟩;rw[ZS (a:=⟨g,off,none⟩) J rfl];have R:off+k<cells.length:=(qk.1 i).1;have:off+k<arr.size:=zOm;simp[zc,this]
   grind
  grind
 |_=>grind [absurd,ub]
@[go_sem] def Qf(P:qb)(mu:Mu)(t:qc)(p:AV):Option AV:=
 match qR P t,szOf P t with
 |some true,some n=>(ub mu p n).map .agg
 |some false,some _=>(ub mu p 1).bind fun | [x]=>some x|_=>none
 |_,_=>none
theorem pS{G}(s:Sim G mu w.heap){t p v}(r:VRel G w.heap p v){x}(h:Qf P mu t p=some x) :
  ∃ a u,v = .pointer (some a)/\(loadVar t a).run P w = .ok u w/\VRel G w.heap x u:=by
 unfold Qf at h;split at h
 .rename_i n J T
  cases g:ub mu p n with
  |none=>simp[g]at h
  |some i =>
   simp only[g,zq,qv]at h;subst h;obtain⟨a,rd,rfl,l,o⟩:=pR s r g;have R:=run_loadCells (P:=P) w a n rd (fun j U=>(o j i[j] (by simp[l,U])).1);refine⟨a,.agg ((qu n).map rd).toArray,rfl,?_,?_⟩
   .simp_all [loadVar,VW,jK]
   .refine .agg _ _ (zP1 l) (fun k x hx=>?_)
    have C:k<n:=by grind
    have:(((qu n).map rd).toArray).getD k qU=rd k:=by simp[zc,C]
    grind
 .rename_i n J T
  cases g:ub mu p 1 with
  |none=>simp[g]at h
  |some i =>
   simp only[g,Option.bind_some]at h
   match i,g,h with
   | [y],g,h =>
    simp only[qv]at h;subst h;obtain⟨a,rd,rfl,l,o⟩:=pR s r g;have I:=o 0 y rfl;rw[show a.add 0=a by simp[Addr.add]]at I;exact⟨a,rd 0,rfl,by simp[loadVar,VW J,I.1],I.2⟩
 grind
def putCells(cells:List AV)(off:Nat)(xs:List AV):List AV:=
 match xs with
 | [x]=>cells.set off x
 |xs=>cells.take off++xs++cells.drop (off+xs.length)
@[go_sem] theorem quN(z o x):putCells z o [x]=z.set o x:=rfl
@[go_sem] theorem quO(z o x y l):putCells z o (x :: y :: l)=z.take o++(x :: y :: l)++z.drop (o+(x :: y :: l).length):=rfl
@[go_sem] theorem quP(z o):putCells z o []=z.take o++[]++z.drop (o+0):=rfl
theorem jg(cells off xs)(h:off+xs.length<=cells.length):putCells cells off xs=cells.take off++xs++cells.drop (off+xs.length):=by
 unfold putCells;split
 .rename_i x
  simp at h;rw[List.set_eq_take_append_cons_drop,if_pos zOm];simp
 .rfl
@[go_sem] def VX(P:qb)(mu:Mu)(t:qc)(p x:AV):Option Mu:=
 match p,szOf P t with
 | .ptr b off,some n=>match mu[b]? with
  |some (.arr cells)=>if x.cells.length=n/\off+n<=cells.length/\x.cells.all AV.one=true then some (mu.set b (.arr (putCells cells off x.cells))) else none
  |_=>none
 |_,_=>none
theorem qgG{k v}(h:cs[k]?=some v):cs.getD k qU=v:=by simp[zc,h]
theorem qgH{G mu'}(s:Sim G mu w.heap){t p x v u}(r:VRel G w.heap p v)(rx:VRel G w.heap x u)(h:VX P mu t p x=some mu') :
  ∃ a w',v = .pointer (some a)/\(storeVar t a u).run P w = .ok () w'/\Stp G mu w G mu' w':=by
 unfold VX at h;split at h
 .rename_i b off n hn
  split at h
  .rename_i cells hc
   split at h
   .rename_i o
    obtain⟨J,a2,a3⟩:=o;simp only[qv]at h;subst h;cases r with
    |ptr _ _ g R hb =>
     obtain⟨arr,e,h1,h2,h3,h4⟩:=s.arr b cells g R hc hb;obtain⟨C,i,I⟩:=rx.cells (fun c a4=>by grind);have T:=run_storeCells_at P g off e u.cells.toList 0 arr w h1 (by simp[C];omega) I;simp only[Nat.add_zero]at T;refine⟨⟨g,off,none⟩,w.setRow g (arr.toList.take off++u.cells.toList++arr.toList.drop (off+u.cells.toList.length)).toArray,rfl,?_,?_⟩
     .simp_all [storeVar,qS,jK,qW,if_neg]
     .refine sW s b (.arr cells) _ g R (.cells (arr.toList.take off++u.cells.toList++arr.toList.drop (off+u.cells.toList.length)).toArray e (0,0)) hc zSp zSp hb zSp (setRow_heap w g arr _ e _ h1)
       (fun k hk=>setRow_other w g k _ hk) rfl rfl rfl ?_
      have a5:u.cells.toList.length=n:=by simp[C,J]
      refine⟨_,e,rfl,by simp[C];omega,by grind [jg],?_⟩;intro j y l;rw[jg _ _ _ zOm]at l;rw[zB]at l;by_cases U:j<off
      .rw [qN zSo,vu,if_pos U]at l
       have:=h4 j y l;refine⟨this.1,?_⟩;have e1:(((arr.toList.take off++u.cells.toList++arr.toList.drop (off+u.cells.toList.length)).toArray).getD j qU)=arr.getD j qU:=by
        simp only[zc,wt,zB];rw[qN zSo,vu,if_pos U,Ym]
       rw[e1];exact this.2
      .rw [zM zSo]at l
       have a0:(cells.take off).length=off:=zSo;rw[a0]at l;by_cases a6:j-off<n
       .rw [zGa]at l
        refine⟨by grind,?_⟩;have:=i (j-off) y l;have e1:(((arr.toList.take off++u.cells.toList++arr.toList.drop (off+u.cells.toList.length)).toArray).getD j qU)=u.cells.getD (j-off) qU:=by
         simp only[zc,wt,zB]
         grind
        rw[e1];exact this
       .rw [zM zOm,uu,J]at l
        have a1:cells[j]?=some y:=by grind
        have:=h4 j y a1;refine⟨this.1,?_⟩;have e1:(((arr.toList.take off++u.cells.toList++arr.toList.drop (off+u.cells.toList.length)).toArray).getD j qU)=arr.getD j qU:=by
         simp only[zc,wt,zB]
         grind
        rw[e1];exact this.2
   grind
  grind
 grind
end
end Go.Ev
namespace Go.Ev
open Go Go.RowKit
section
variable {x z:AV}{h:Array Obj}{G:Gh}{xs:List (List AV)}{sz:Nat}{P:qb}{t:qc}{u:qf}{w:qd}
def Good(P:qb)(G:Gh)(mu:Mu)(w:qd)(s:Sem qf)(x:AV)(mu':Mu):Prop:=
 ∃ v g i,s.run P w = .ok v g/\Stp G mu w i mu' g/\VRel i g.heap x v
theorem sY{mu}(s:Sim G mu w.heap){c x v}(h:c.run P w = .ok v w)(r:VRel G w.heap x v):Good P G mu w c x mu:=
 ⟨v,w,G,h,.refl s,r⟩
theorem WW:(∀ r,r∈xs->r.length=sz)->∀{i k r x},xs[i]?=some r->r[k]?=some x->xs.flatten[i*sz+k]?=some x:=by
 induction xs with
 |nil=>intro _ i k r x h;simp at h
 |cons y j l =>
  intro g i k r x h o;have p:=g y zSp;cases i with
  |zero =>
   grind
  |succ i =>
   grind
theorem yQ(h:∀ r,r∈xs->r.length=sz):xs.flatten.length=xs.length*sz:=by
 induction xs with
 |nil=>simp
 |cons y i g =>
  grind
@[go_sem] def aInt(op:BinOp)(k:IntKind)(a b:Int):Option AV:=
 match op with
 | .add=>some (.sc (.int k (k.wrap (a+b))))
 | .sub=>some (.sc (.int k (k.wrap (a-b))))
 | .mul=>some (.sc (.int k (k.wrap (a*b))))
 | .quo=>if b=0 then none else some (.sc (.int k (k.wrap (a.tdiv b))))
 | .rem=>if b=0 then none else some (.sc (.int k (a.tmod b)))
 | .eql=>some (.sc (.bool (a == b)))
 | .neq=>some (.sc (.bool (a != b)))
 | .lss=>some (.sc (.bool (decide (a<b))))
 | .leq=>some (.sc (.bool (decide (a<=b))))
 | .gtr=>some (.sc (.bool (decide (a > b))))
 | .geq=>some (.sc (.bool (decide (a>=b))))
 |_=>none
@[go_sem] def aStr(op:BinOp)(x y:tP):Option AV:=
 match op with
 | .eql=>some (.sc (.bool (x.toList == y.toList)))
 | .neq=>some (.sc (.bool (!(x.toList == y.toList))))
 | .lss=>some (.sc (.bool (Op.bytesLess x.toList y.toList)))
 | .add=>if x.size+y.size<=9223372036854775807 then some (.sc (.string (x++y))) else none
 |_=>none
@[go_sem] def aEqs:List AV->List AV->Option Bool
 | [],[]=>some true
 | .sc (.int k a) :: J,.sc (.int g b) :: i=>if k=g then (if a == b then aEqs J i else some false) else none
 |_,_=>none
def WX(P:qb)(t:qc):Bool:=match P.underlying t with|some .bool=>true|_=>false
def pT(P:qb)(t:qc):Bool:=match P.underlying t with|some (.int _)=>true|_=>false
def Yn(P:qb):List Field->Nat->Bool
  | [],_=>true
  | f :: g, i => f.offset == i && f.name != "_" && pT P f.type && Yn P g (i + 1)
def VY(P:qb)(t:qc):Option Nat:=
 match P.underlying t with
 |some (.struct g)=>if Yn P g.toList 0=true/\P.stoodInHeld t=false/\P.eqGuardType P.depth t=false then some g.size else none
 |some (.array n e)=>match P.underlying e,szOf P e with
  |some (.int _),some 1=>if P.eqGuardType P.depth t=false then some n else none
  |_,_=>none
 |_=>none
def WY(P:qb)(t:qc):Bool:=match P.underlying t with|some (.interface _)=>true|_=>false
def WZ(P:qb)(t:qc):Bool:=match P.underlying t with|some (.interface g)=>g.isEmpty|_=>false
def Zk(P:qb)(t:qc):Bool:=match P.underlying t with|some (.pointer _)=>true|_=>false
@[go_sem] def pU(op:BinOp)(k:IntKind)(a b:Int):Option AV:=
 if b<0 then none else match op with
  | .shl=>some (.sc (.int k (k.wrap (a*2 ^ (min b.toNat k.bits)))))
  | .shr=>some (.sc (.int k (a.fdiv (2 ^ (min b.toNat k.bits)))))
  |_=>none
@[go_sem] def aBin(P:qb)(op:BinOp)(t:qc)(x y:AV):Option AV:=
 match x,y with
 | .sc (.int k a),.sc (.int g b)=>if op = .shl\/op = .shr then pU op k a b else if k=g then aInt op k a b else none
 | .sc (.bool a),.sc (.bool b)=>if WX P t=true then (match op with | .eql=>some (.sc (.bool (a == b))) | .neq=>some (.sc (.bool (!(a == b))))|_=>none) else none
 | .sc (.string a),.sc (.string b)=>aStr op a b
 | .ifc _ _,.sc .nilIface=>if WY P t=true then (match op with | .eql=>some (.sc (.bool false)) | .neq=>some (.sc (.bool true))|_=>none) else none
 | .sc .nilIface,.sc .nilIface=>if WZ P t=true then (match op with | .eql=>some (.sc (.bool true)) | .neq=>some (.sc (.bool false))|_=>none) else none
 | .sc (.pointer none),.sc (.pointer none)=>if Zk P t=true then (match op with | .eql=>some (.sc (.bool true)) | .neq=>some (.sc (.bool false))|_=>none) else none
 | .ip _,.sc (.pointer none)=>if Zk P t=true then (match op with | .eql=>some (.sc (.bool false)) | .neq=>some (.sc (.bool true))|_=>none) else none
 | .ptr _ _,.sc (.pointer none)=>if Zk P t=true then (match op with | .eql=>some (.sc (.bool false)) | .neq=>some (.sc (.bool true))|_=>none) else none
 |_,_=>none
theorem qgI{k a b}(g:¬b=0):(Op.intDiv .quo k a b).run P w=(Pure.pure (.int k (k.wrap (a.tdiv b))):Sem qf).run P w:=by
 unfold Op.intDiv;rw[if_neg g]
theorem qgJ{k a b}(g:¬b=0):(Op.intDiv .rem k a b).run P w=(Pure.pure (.int k (a.tmod b)):Sem qf).run P w:=by
 unfold Op.intDiv;rw[if_neg g]
theorem qgK(d){t u x g}(i:P.underlying t=some (.interface g)) :
  (Op.equalIn (d+1) t (.iface u x) .nilIface).run P w = .ok false w:=by
 simp[Op.equalIn,run_underlying i]
theorem qgL(d){t g}(i:P.underlying t=some (.interface g)) :
  (Op.equalIn (d+1) t .nilIface .nilIface).run P w = .ok true w:=by
 simp[Op.equalIn,run_underlying i]
theorem qgM(d){t g}(i:P.underlying t=some (.interface g))(j:g.isEmpty=true) :
  (Op.eqGuardIn (d+1) t .nilIface .nilIface).run P w = .ok false w:=by
 simp[Op.eqGuardIn,run_underlying i,j]
theorem qgN(d){t e a}(g:P.underlying t=some (.pointer e)) :
  (Op.equalIn (d+1) t (.pointer a) (.pointer none)).run P w = .ok a.isNone w:=by
 cases a<;>simp[Op.equalIn,run_underlying g]
theorem qgO(h:Zk P t=true):∃ e,P.underlying t=some (.pointer e):=by
 grind [Zk,absurd]
theorem W0{op ox oy a b c}(g:Zk P t=true)(i:a.isNone=b)(j:(!b)=c){z G}
  (h:(match op with | .eql=>some (AV.sc (.bool b)) | .neq=>some (AV.sc (.bool c))|_=>none)=some z):∃ r,(do eqGuard op t ox oy (.pointer a) (.pointer none);binOp op t (.pointer a) (.pointer none):Sem qf).run P w = .ok r w/\VRel G w.heap z r:=by
 obtain⟨e,l⟩:=qgO g;have o:(eqGuard op t ox oy (.pointer a) (.pointer none)).run P w = .ok () w:=by
  unfold eqGuard;cases op<;>rfl
 simp only[qS,o,qW];have p:(Op.equal t (.pointer a) (.pointer none)).run P w = .ok a.isNone w:=qgN 9999 l;subst i;subst j;cases op<;>simp only[qv]at h<;>first
  | (simp at h;done)
  | (subst h;refine⟨_,?_,.sc _ rfl⟩;simp[binOp,p];done)
theorem qgP{op y ox oy v}(l:VRel G w.heap x u)(o:VRel G w.heap y v)(h:aBin P op t x y=some z) :
    ∃ r,(do eqGuard op t ox oy u v;binOp op t u v:Sem qf).run P w = .ok r w/\VRel G w.heap z r:=by
  unfold aBin at h;split at h
  ·
    rename_i k a U b;cases l;cases o;split at h
    · unfold pU at h
      split at h
      · cases h
      · rename_i g
        have i:(eqGuard op t ox oy (.int k a) (.int U b)).run P w = .ok () w:=by
          unfold eqGuard;cases op<;>rfl
        simp only[qS,i,qW];cases op<;>simp only[qv]at h<;>first
          | (cases h;done)
          | (subst h;refine⟨_,?_,.sc _ rfl⟩;simp[binOp,Op.shift,g];done)
    · rename_i hs
      split at h
      · rename_i hk;subst hk
        have i:(eqGuard op t ox oy (.int k a) (.int k b)).run P w = .ok () w:=by
          unfold eqGuard;cases op<;>rfl
        simp only[qS,i,qW];unfold aInt at h;cases op<;>simp only[qv]at h<;>first
          | (simp at h;done)
          | (subst h;refine⟨_,?_,.sc _ rfl⟩;simp[binOp,Op.intArith,Op.intCmp];done)
          | (split at h
             · exact absurd h zSp
             · rename_i g
               simp only[qv]at h;subst h;refine⟨_,?_,.sc _ rfl⟩;simp[binOp,qgI g,qgJ g];done)
          | (exfalso;simp at hs)
      grind
  · rename_i a b
    cases l;cases o;split at h
    · rename_i g
      have j:P.underlying t=some .bool:=by
        grind [WX,absurd]
      have i:(eqGuard op t ox oy (.bool a) (.bool b)).run P w = .ok () w:=by
        unfold eqGuard;cases op<;>rfl
      simp only[qS,i,qW];cases op<;>simp only[qv]at h<;>first
        | (simp at h;done)
        | (subst h;refine⟨_,?_,.sc _ rfl⟩;simp[binOp,Op.equal,Op.maxDepth,run_equalIn_bool' w 9999 t a b j];done)
    grind
  · rename_i a b
    cases l;cases o;have i:(eqGuard op t ox oy (.string a) (.string b)).run P w = .ok () w:=by
      unfold eqGuard;cases op<;>rfl
    simp only[qS,i,qW];unfold aStr at h;cases op<;>simp only[qv]at h<;>first
      | (simp at h;done)
      | (subst h;refine⟨_,?_,.sc _ rfl⟩;simp[binOp,Op.stringOp];done)
      | (split at h
         · rename_i g
           simp only[qv]at h;subst h;refine⟨_,?_,.sc _ rfl⟩;have:¬(((a.size+b.size:Nat):Int) > qq.max):=by simp[IntKind.max,IntKind.signed,IntKind.bits];omega
           simp only[binOp,Op.stringOp,if_neg this,zN]
         · exact absurd h zSp)
  · rename_i R vv
    cases o;cases l with
    |ifc _ _ T hv =>
    split at h
    · rename_i g
      have j:∃ p,P.underlying t=some (.interface p):=by
        unfold WY at g;split at g
        · exact⟨_,by assumption⟩
        · exact absurd g zSp
      obtain⟨p,j⟩:=j;have i:(eqGuard op t ox oy (.iface R T) .nilIface).run P w = .ok () w:=by
        unfold eqGuard;cases op<;>rfl
      simp only[qS,i,qW];have C:(Op.equal t (.iface R T) .nilIface).run P w = .ok false w:=qgK 9999 j;cases op<;>simp only[qv]at h<;>first
        | (simp at h;done)
        | (subst h;refine⟨_,?_,.sc _ rfl⟩;simp[binOp,C];done)
    · exact absurd h zSp
  · cases l
    cases o;split at h
    · rename_i g
      have j:∃ p,P.underlying t=some (.interface p)/\p.isEmpty=true:=by
        unfold WZ at g;split at g
        · exact⟨_,by assumption,g⟩
        · exact absurd g zSp
      obtain⟨p,j,I⟩:=j;have i:(eqGuard op t ox oy .nilIface .nilIface).run P w = .ok () w:=by
        have J:(Op.eqGuardIn Op.maxDepth t .nilIface .nilIface).run P w = .ok false w:=qgM 9999 j I;unfold eqGuard;cases op<;>first|rfl | (simp only[qS,Sem.run_ite,J,qW];simp)
      simp only[qS,i,qW];have C:(Op.equal t .nilIface .nilIface).run P w = .ok true w:=qgL 9999 j;cases op<;>simp only[qv]at h<;>first
        | (simp at h;done)
        | (subst h;refine⟨_,?_,.sc _ rfl⟩;simp[binOp,C];done)
    · exact absurd h zSp
  · cases l
    cases o;split at h
    · rename_i g;exact W0 g rfl rfl h
    · exact absurd h zSp
  · cases o
    cases l;split at h
    · rename_i g;exact W0 g rfl rfl h
    · exact absurd h zSp
  · cases o
    cases l;split at h
    · rename_i g;exact W0 g rfl rfl h
    · exact absurd h zSp
  grind
@[go_sem] def aUn(op:UnOp):AV->Option AV
 | .sc (.bool b)=>match op with | .not=>some (.sc (.bool !b))|_=>none
 | .sc (.int k n)=>match op with | .neg=>some (.sc (.int k (k.wrap (0-n))))|_=>none
 |_=>none
theorem qgQ{op}(g:VRel G w.heap x u)(h:aUn op x=some z) :
  ∃ r,(Op.unary op u).run P w = .ok r w/\VRel G w.heap z r:=by
 unfold aUn at h;split at h
 .cases g
  split at h
  .simp only[qv]at h;subst h
   exact⟨_,rfl,.sc _ rfl⟩
  grind
 .cases g
  split at h
  .simp only[qv]at h;subst h
   exact⟨_,rfl,.sc _ rfl⟩
  grind
 grind
@[go_sem] def VZ(P:qb)(src g:qc):AV->Option AV
 | .sc (.int _ n)=>match P.underlying g with|some (.int k)=>some (.sc (.int k (k.wrap n)))|_=>none
 | .lst _ [[.sc (.int .u8 n)]]=>match P.underlying src with
  |some (.slice e)=>match P.underlying e,P.underlying g with
   |some (.int .u8),some .string=>some (.sc (.string (ByteArray.empty.push (UInt8.ofNat n.toNat))))
   |_,_=>none
  |_=>none
 |_=>none
theorem qgR{src i}(J:VRel G w.heap x u)(p:∃ d,P.underlying src=some d)(h:VZ P src i x=some z) :
  ∃ r,(convert src i u).run P w = .ok r w/\VRel G w.heap z r:=by
 unfold VZ at h;obtain⟨d,p⟩:=p;split at h
 .cases J
  split at h
  .rename_i k U
   simp only[qv]at h;subst h;refine⟨_,?_,.sc _ rfl⟩;simp only[convert,qS,run_underlying p,run_underlying U,qW];simp[Conv.intToInt]
  grind
 .rename_i f n
  split at h
  .rename_i e l
   split at h
   .rename_i he t
    simp only[qv]at h;subst h;cases J with
    |lst _ _ g a cap cs e' fr rd hb C hl hc hi hz hr hv =>
     have R:VRel G w.heap (.sc (.int .u8 n)) (rd 0):=hv 0 _ rfl;have T:cs[a.off+0]?=some (rd 0):=hr 0 _ rfl;generalize rd 0=q at R T;cases R;refine⟨_,?_,.sc _ rfl⟩;rw[run_convert_bytes_string w src i e (some a) _ cap l he t];have I:=run_loadCells_list (P:=P) w a [.int .u8 n] (fun j v o=>by
      match j,o with
      | 0,o =>
       simp only[VT,qv]at o;subst o;rw[ZS hb C];exact T)
     exact run_bytesToString (P:=P) w a 1 cap [n] I
   grind
  grind
 grind
theorem sH{cs a}(r:VRel G h (.ip cs) (.pointer (some a)))(n):VRel G h (.ip (cs.drop n)) (.pointer (some (a.add n))):=by
 cases r with
 |ip _ _ arr e i rd j l o t C =>
  have g:(a.add n).block=a.block:=by unfold Addr.add;split<;>rfl
  have p:(a.add n).spot=none:=by unfold Addr.add;split<;>simp[l]
  have I:(a.add n).off=a.off+n:=by unfold Addr.add;split<;>simp_all
  refine .ip _ _ arr e i (fun k=>rd (n+k)) (by rw[g];exact j) p (by rw[g];exact o) ?_ ?_
  .grind
  grind
theorem sU{b o a}(r:VRel G h (.ptr b o) (.pointer (some a)))(n):VRel G h (.ptr b (o+n)) (.pointer (some (a.add n))):=by
 cases r with
 |ptr _ _ g i j =>
  have:(⟨g,o,none⟩:Addr).add n=⟨g,o+n,none⟩:=by unfold Addr.add;split<;>simp_all
  rw[this];exact .ptr b (o+n) g i j
@[go_sem] def addA(p:AV)(n:Nat):Option AV:=
 match p with
 | .ip g=>some (.ip (g.drop n))
 | .ptr b o=>some (.ptr b (o+n))
 |_=>none
theorem pV{p v n}(r:VRel G h p v)(e:addA p n=some z):∃ a,v = .pointer (some a)/\VRel G h z (.pointer (some (a.add n))):=by
 unfold addA at e;split at e
 .simp only[qv]at e;subst e
  cases r with
  |ip _ a arr el l rd g o t C I=>exact⟨a,rfl,sH (.ip _ a arr el l rd g o t C I) n⟩
 .simp only[qv]at e;subst e
  cases r with
  |ptr _ _ i j g=>exact⟨_,rfl,sU (.ptr _ _ i j g) n⟩
 grind
@[go_sem] def V0(P:qb)(s f:Nat)(p:AV):Option AV:=(qF P s f).bind fun (off,_,_)=>addA p off
theorem pW{s f off n}(h:qF P s f=some (off,t,n)) :
  ∃(fs:Array Field) (g:Field),P.underlying s=some (.struct fs)/\fs[f]?=some g/\g.offset=off/\g.type=t/\szOf P t=some n/\n≠0:=by
 unfold qF at h;split at h
 .grind
 grind
theorem qgS{s f p v}(r:VRel G w.heap p v)(e:V0 P s f p=some z) :
  ∃ u,(Instr.fieldAt s v f).run P w = .ok u w/\VRel G w.heap z u:=by
 unfold V0 at e;cases hf:qF P s f with
 |none=>simp[hf]at e
 |some x =>
  obtain⟨off,t,n⟩:=x;simp only[hf,Option.bind_some]at e;obtain⟨a,rfl,j⟩:=pV r e;obtain⟨C,I,l,g,rfl,rfl,i,o⟩:=pW hf;refine⟨_,?_,j⟩;simp[Instr.fieldAt,run_underlying l,g,Instr.sureAddr,fieldPlace,jK i,o]
@[go_sem] def V1(P:qb)(t:qc)(x l:AV):Option AV:=
 match l with
 | .sc (.int _ i) =>
  match x,qJ P t,ZQ P t with
  | .lst _ J,some (_,g,_),_=>if 0<=i/\i<J.length then (match J[i.toNat]? with|some r=>if r.length=g/\g≠0 then some (.ip r) else none|none=>none) else none
  | .sl b j off len,some (_,g,_),_=>if 0<=i/\i<len/\(j=g\/j=0) then some (.ptr b (off+i.toNat*g)) else none
  |p,none,some (n,_,g)=>if 0<=i/\i<n then addA p (i.toNat*g) else none
  |_,_,_=>none
 |_=>none
theorem ux{e bt}(h:qJ P t=some (e,sz,bt)):∃ i,P.underlying t=some (.slice e)/\P.info? e=some i/\i.size=sz/\i.bytes=bt:=by
 unfold qJ at h;split at h
 .rename_i g l
  cases j:P.info? g with
  |none=>simp[j]at h
  |some i =>
   grind
 grind
theorem pX{e n}(h:ZQ P t=some (n,e,sz)):P.underlying t=some (.array n e)/\szOf P e=some sz:=by
 unfold ZQ at h;split at h
 .rename_i l g o
  cases j:szOf P g with
  |none=>simp[j]at h
  |some i =>
   grind
 grind
theorem qgT{ix v}(r:VRel G w.heap x v)(ri:VRel G w.heap ix u)(e:V1 P t x ix=some z) :
  ∃ y,(Instr.indexAt t v u).run P w = .ok y w/\VRel G w.heap z y:=by
 unfold V1 at e;split at e
 .rename_i k i
  cases ri;split at e
  .rename_i full J e' g bt hs
   split at e
   .rename_i I
    split at e
    .rename_i row l
     split at e
     .rename_i hz
      simp only[qv]at e;subst e;obtain⟨a1,R,o,C,a2⟩:=ux hs;have p:szOf P e'=some g:=by simp[szOf,o,C]
      cases r with
      |nil=>simp at l
      |emp=>simp at l
      |lst _ _ j a cap cs el fr rd hb a3 hl hc T a4 hr hv =>
       have U:j=g:=by grind
       subst U;refine⟨.pointer (some (a.add (i.toNat*j))),?_,?_⟩
       .simp [Instr.indexAt,asIntOf,run_underlying R,I,jK p]
       .have h1:(a.add (i.toNat*j)).block=a.block:=by unfold Addr.add;split<;>rfl
        have h2:(a.add (i.toNat*j)).spot=none:=by unfold Addr.add;split<;>simp[a3]
        have h3:(a.add (i.toNat*j)).off=a.off+i.toNat*j:=by unfold Addr.add;split<;>simp_all
        refine .ip _ _ cs el fr (fun k=>rd (i.toNat*j+k)) (by rw[h1];exact hb) h2 (by rw[h1];exact T) ?_ ?_
        .intro k x hx
         rw[h3,Nat.add_assoc];exact hr _ x (WW a4 l hx)
        grind [WW]
     grind
    grind
   grind
  .rename_i b j off len e' g bt hs
   split at e
   .rename_i I
    obtain⟨a5,a6,_⟩:=I;simp only[qv]at e;subst e;obtain⟨a1,R,o,C,a2⟩:=ux hs;have p:szOf P e'=some g:=by simp[szOf,o,C]
    cases r with
    |sl _ _ _ _ a0 a7 cap hb ht hl =>
     refine⟨.pointer (some ((⟨a0,off,none⟩:Addr).add (i.toNat*g))),?_,sU (.ptr b off a0 a7 hb) _⟩;simp[Instr.indexAt,asIntOf,run_underlying R,a5,a6,jK p]
   grind
  .rename_i n e' g ha
   split at e
   .rename_i I
    obtain⟨R,p⟩:=pX ha;obtain⟨a,rfl,hz⟩:=pV r e;refine⟨_,?_,hz⟩;simp[Instr.indexAt,asIntOf,run_underlying R,Instr.sureAddr,I,jK p]
   .exact absurd e zSp
  grind
 grind
end
end Go.Ev
namespace Go.Ev
open Go Go.RowKit
section
variable {z:AV}{h:Array Obj}{G:Gh}{xs:List (List AV)}{g:Option Int}{vhi vlo vmx:Option qf}{P:qb}{t:qc}{w:qd}
@[go_sem] def V2(P:qb)(t:qc)(cs:List AV)(off:Nat):Option AV:=
 match qR P t,szOf P t with
 |some true,some n=>if off+n<=cs.length then some (.agg ((cs.drop off).take n)) else none
 |some false,_=>cs[off]?
 |_,_=>none
theorem pY{cs g off}
  (C:g.size=cs.length) (j:∀(k) x,cs[k]?=some x->VRel G w.heap x (g.getD k qU)) (h:V2 P t cs off=some z) :
  ∃ u,(part t g off).run P w = .ok u w/\VRel G w.heap z u:=by
 unfold V2 at h;split at h
 .rename_i n l o
  split at h
  .rename_i p
   simp only[qv]at h;subst h;refine⟨.agg (g.extract off (off+n)),by simp[part,VW l,jK o],.agg _ _ zSo ?_⟩;intro k x i;rw[vu]at i;split at i
   .rename_i I
    rw[uu]at i;have:=j _ x i;have e:(g.extract off (off+n)).getD k qU=g.getD (off+k) qU:=by
     simp only[zc]
     grind
    rw[e];exact this
   grind
  grind
 .rename_i l
  have:=j off z h;have r:off<cs.length:=(qk.1 h).1;simp_all[qU,part,VW,zc]
 grind
@[go_sem] def V3(P:qb)(s f:Nat)(x:AV):Option AV:=
 match x with
 | .agg g=>(qF P s f).bind fun (off,t,_)=>V2 P t g off
 |_=>none
theorem qgW{s f x v}(r:VRel G w.heap x v)(e:V3 P s f x=some z) :
  ∃ u,(Instr.field s v f).run P w = .ok u w/\VRel G w.heap z u:=by
 unfold V3 at e;split at e
 .rename_i p
  cases r with
  |agg _ C g i =>
  cases hf:qF P s f with
  |none=>simp[hf]at e
  |some y =>
   obtain⟨off,t,n⟩:=y;simp only[hf,Option.bind_some]at e;obtain⟨I,J,R,j,rfl,rfl,l,o⟩:=pW hf;obtain⟨u,T,U⟩:=pY g i e;simp_all[Instr.field,run_underlying,asAgg]
 grind
@[go_sem] def V4(P:qb)(t:qc)(x j:AV):Option AV:=
 match j with
 | .sc (.int _ i) =>
  match x with
  | .agg l=>match ZQ P t with
   |some (n,e,g)=>if 0<=i/\i<n then V2 P e l (i.toNat*g) else none
   |none=>none
  | .sc (.string s)=>match P.underlying t with
   |some .string=>if 0<=i then (match s.data[i.toNat]? with|some b=>some (.sc (.int .u8 b.toNat))|none=>none) else none
   |_=>none
  |_=>none
 |_=>none
theorem qgX{x p v u}(r:VRel G w.heap x v)(T:VRel G w.heap p u)(e:V4 P t x p=some z) :
  ∃ y,(Instr.index t v u).run P w = .ok y w/\VRel G w.heap z y:=by
 unfold V4 at e;split at e
 .rename_i k i
  cases T;split at e
  .rename_i cs
   cases r with
   |agg _ vs U hv =>
   split at e
   .rename_i n el g ha
    split at e
    .rename_i C
     obtain⟨I,a0⟩:=pX ha;obtain⟨y,h1,J⟩:=pY U hv e;simp_all[Instr.index,asIntOf,run_underlying,jK]
    grind
   grind
  .rename_i s
   cases r;split at e
   .rename_i I
    split at e
    .rename_i C
     split at e
     .rename_i b R
      simp only[qv]at e;subst e;refine⟨.int .u8 b.toNat,?_,.sc _ rfl⟩;have l:i.toNat<s.data.size:=(yK.1 R).1;have o:s[i.toNat]?=some b:=by
       have J:s.data[i.toNat]=b:=(yK.1 R).2;have j:i.toNat<s.size:=l;rw[getElem?_pos s i.toNat j];exact congrArg some J
      simp[Instr.index,asIntOf,run_underlying I,C,o]
     grind
    grind
   grind
  grind
 grind
@[go_sem] def optI:Option AV->Option (Option Int)
 |none=>some none
 |some (.sc (.int _ n))=>some (some n)
 |_=>none
@[go_sem] def V5(P:qb)(t:qc)(x:AV)(lo i mx:Option AV):Option AV:=
 match optI lo,optI i,optI mx with
 |some lo,some i,some mx =>
  match x,P.underlying t with
  | .lst full J,some (.slice _) =>
   let n:Int:=J.length
   let h:=i.getD n
   let l:=lo.getD 0
   match mx with
   |none=>if 0<=l/\l<=h/\h<=n then some (.lst (full&&decide (h=n)) ((J.take h.toNat).drop l.toNat)) else none
   |some m=>if 0<=l/\l<=h/\h<=m/\m<=n/\i.isSome then some (.lst (decide (m=h)) ((J.take h.toNat).drop l.toNat)) else none
  | .sl b g off len,some (.slice e) =>
   let h:=i.getD len
   let l:=lo.getD 0
   match mx with
   |none=>if 0<=l/\l<=h/\h<=len/\(l=0\/l<len)/\szOf P e=some g then some (.sl b g (off+l.toNat*g) (h-l).toNat) else none
   |some _=>none
  | .ip j,some (.array n e) =>
   let h:=i.getD n
   let l:=lo.getD 0
   match mx with
   |none=>if 0<=l/\l<=h/\h<=n/\(l=0\/l<n)/\szOf P e=some 1/\j.length=n then some (.lst (decide (h=n)) (((j.take h.toNat).drop l.toNat).map fun c=>[c])) else none
   |some _=>none
  | .ptr b off,some (.array n e) =>
   match mx with
   |none=>if off=0/\lo.getD 0=0/\0<=i.getD n/\i.getD n<=n/\(szOf P e).isSome=true then some (.sl b 0 0 (i.getD n).toNat) else none
   |some _=>none
  | .sc (.string s),some .string =>
   let n:Int:=s.size
   let h:=i.getD n
   let l:=lo.getD 0
   match mx with
   |none=>if 0<=l/\l<=h/\h<=n then some (.sc (.string (s.extract l.toNat h.toNat))) else none
   |some _=>none
  |_,_=>none
 |_,_,_=>none
theorem Qg{k}{i:Int}{y:Nat}{c}(g:0<=i)(j:i<=y):(Instr.sliceBound (.int k i) y c).run P w = .ok i.toNat w:=by
 simp[Instr.sliceBound,asIntOf,g,j]
theorem W3{o}(e:optI o=some g) :
  ∀{v},(∀ x,o=some x->∃ u,v=some u/\VRel G h x u)->(o=none->v=none)->(g=none/\v=none)\/∃ k n,g=some n/\v=some (.int k n):=by
 intro v i j;unfold optI at e;split at e
 .grind
 .rename_i k n
  simp only[qv]at e;obtain⟨u,l,r⟩:=i _ rfl;cases r
  grind
 grind
theorem Yo{isSlice}{len cap:Nat}{lo mx}
  (j:(lo=none/\vlo=none)\/∃ k n,lo=some n/\vlo=some (.int k n)) (o:(g=none/\vhi=none)\/∃ k n,g=some n/\vhi=some (.int k n))
  (p:(mx=none/\vmx=none)\/∃ k n,mx=some n/\vmx=some (.int k n)) (r:mx.isSome=true->g.isSome=true)
  (U:0<=lo.getD 0) (h1:lo.getD 0<=g.getD len) (h2:g.getD len<=mx.getD cap) (h3:mx.getD cap<=cap) (T:len<=cap) :
  (Instr.sliceBounds isSlice len cap vlo vhi vmx).run P w = .ok ((lo.getD 0).toNat,(g.getD len).toNat,(mx.getD cap).toNat) w:=by
 rcases j with ⟨rfl,rfl⟩|⟨R,l,rfl,rfl⟩<;>rcases o with ⟨rfl,rfl⟩|⟨t,h,rfl,rfl⟩<;>rcases p with ⟨rfl,rfl⟩|⟨C,m,rfl,rfl⟩<;>simp only[Option.getD_none,Option.getD_some]at * <;>
  simp only[Option.isSome_none,Option.isSome_some,reduceCtorEq,imp_false,not_true_eq_false]at r
 .simp [Instr.sliceBounds]
 .grind [Instr.sliceBound,Qg,Instr.sliceBounds,qS,zN,qW]
 .have I:(Instr.sliceBound (.int C m) cap (if isSlice then .slice3Acap else .slice3Alen)).run P w = .ok m.toNat w:=Qg zOm zOm
  have i:(Instr.sliceBound (.int t h) m.toNat .slice3B).run P w = .ok h.toNat w:=Qg zOm zOm;simp only[Instr.sliceBounds,qS,zN,qW,i,I];simp
 .grind [Instr.sliceBound,Qg,Instr.sliceBounds,qS,zN,qW]
 .have i:(Instr.sliceBound (.int t h) cap (if isSlice then .sliceAcap else .sliceAlen)).run P w = .ok h.toNat w:=Qg zOm zOm
  have J:(Instr.sliceBound (.int R l) h.toNat (if (none:Option qf).isSome then .slice3C else .sliceB)).run P w = .ok l.toNat w:=Qg zOm zOm;simp only[Instr.sliceBounds,qS,zN,qW,J,i];simp
 .have I:(Instr.sliceBound (.int C m) cap (if isSlice then .slice3Acap else .slice3Alen)).run P w = .ok m.toNat w:=Qg zOm zOm
  have i:(Instr.sliceBound (.int t h) m.toNat .slice3B).run P w = .ok h.toNat w:=Qg zOm zOm;have J:(Instr.sliceBound (.int R l) h.toNat (if (some (Value.int C m)).isSome then .slice3C else .sliceB)).run P w = .ok l.toNat w:=Qg zOm zOm;simp only[Instr.sliceBounds,qS,zN,qW,J,i,I]
theorem pZ{sz}:(∀ r,r∈xs->r.length=sz)->∀ l,(xs.drop l).flatten=xs.flatten.drop (l*sz):=by
 induction xs with
 |nil=>intro _ l;simp
 |cons y i g =>
  intro j l;cases l with
  |zero=>simp
  |succ l =>
   simp only[List.drop_succ_cons,Qe];rw[g (fun r o=>j r (zP1 o)),Nat.succ_mul,Nat.add_comm,<-List.drop_drop]
   grind
theorem sV{full sz a cap l i m}
  (r:VRel G h (.lst full xs) (.slice a xs.length cap)) (J:∀ x,x∈xs->x.length=sz) (h1:l<=i) (P:i<=xs.length) (h3:i<=m) (hm:m<=cap) (j) (hf:j=true->m=i) :
  VRel G h (.lst j ((xs.take i).drop l)) (.slice (if m=l then a else a.map (·.add (l*sz))) (i-l) (m-l)):=by
 have a2:((xs.take i).drop l).length=i-l:=zSo;by_cases he:i=l
 .subst he
  have o:(xs.take i).drop i=[]:=Qd zOm;rw[o,Nat.sub_self];cases a with
  |none =>
   have:xs=[]/\cap=0:=by cases r;exact⟨rfl,rfl⟩
   have R:m=0:=zOm;subst R;simp;exact .nil j
  |some a =>
   have:(if m=i then some a else (some a).map (·.add (i*sz)))=some (if m=i then a else a.add (i*sz)):=by split<;>rfl
   rw[this];exact .emp j _ _ (fun h=>zW1 (hf h))
 .have T:m≠l:=by omega
  rw[if_neg T];generalize a3:xs.length=n at r;cases r with
  |nil=>simp at P;omega
  |emp=>simp at P;omega
  |lst _ _ g a cap cs e fr rd hb hs hl hc U hz C hv =>
   have a0:xs≠[]:=by intro e;subst e;simp at P;omega
   obtain⟨y,hy⟩:∃ y,y∈xs:=List.exists_mem_of_ne_nil xs a0;have p:g=sz:=by rw[<-hz y hy,J y hy]
   subst p;have t:(a.add (l*g)).block=a.block:=by unfold Addr.add;split<;>rfl
   have a1:(a.add (l*g)).spot=none:=by unfold Addr.add;split<;>simp[hs]
   have a4:(a.add (l*g)).off=a.off+l*g:=by unfold Addr.add;split<;>simp_all
   have key:∀(k:Nat) x,((xs.take i).drop l).flatten[k]?=some x->xs.flatten[l*g+k]?=some x:=by
    intro k x I;rw[pZ (fun r C=>hz r (jI C)),uu]at I
    grind [List.flatten_append,vO,qN,qk]
   have:=VRel.lst (G:=G) (h:=h) j ((xs.take i).drop l) g (a.add (l*g)) (m-l) cs e fr (fun k=>rd (l*g+k)) (by rw[t];exact hb) a1 zOm (fun h=>zW1 (hf h)) (by rw[t];exact U)
    (fun r C=>hz r (jI (List.mem_of_mem_drop C))) (fun k x I=>by grind) (fun k x I=>hv _ x (key k x I))
   grind
theorem VRel.lst_inv{full v}(r:VRel G h (.lst full xs) v) :
  ∃ a cap,v = .slice a xs.length cap/\xs.length<=cap/\(full=true->cap=xs.length)/\(∃ sz,∀ x,x∈xs->x.length=sz):=by
 cases r with
 |nil=>exact⟨none,0,rfl,qr _,fun _=>rfl,0,zSp⟩
 |emp _ a cap g=>exact⟨some a,cap,rfl,Nat.zero_le _,g,0,zSp⟩
 |lst _ _ sz a cap l e o rd p t i g C j I J=>exact⟨some a,cap,rfl,i,g,sz,j⟩
def yR(sz:Nat)(xs:List (List AV)):Prop:=∀ r,r∈xs->r.length=sz
theorem qgZ{x lo hi mx v}(r:VRel G w.heap x v)
  (a6:∀ y,lo=some y->∃ u,vlo=some u/\VRel G w.heap y u) (a0:lo=none->vlo=none) (a7:∀ y,hi=some y->∃ u,vhi=some u/\VRel G w.heap y u) (a1:hi=none->vhi=none)
  (a8:∀ y,mx=some y->∃ u,vmx=some u/\VRel G w.heap y u) (a2:mx=none->vmx=none)
  (a9:∀ full xs,x = .lst full xs->∃ e sz bt,qJ P t=some (e,sz,bt)/\yR sz xs)
  (e:V5 P t x lo hi mx=some z):∃ y,(Instr.sliceAt t v vlo vhi vmx).run P w = .ok y w/\VRel G w.heap z y:=by
 unfold V5 at e;split at e
 .rename_i g o ar aa ad ae
  have J:=W3 (G:=G) (h:=w.heap) aa a6 a0;have R:=W3 (G:=G) (h:=w.heap) ad a7 a1;have T:=W3 (G:=G) (h:=w.heap) ae a8 a2;clear aa ad ae a6 a0 a7 a1 a8 a2;split at e
  .rename_i full xs el U
   obtain⟨a,cap,rfl,af,ak,_⟩:=r.lst_inv;obtain⟨e',sz,bt,hs,ag⟩:=a9 full xs rfl;obtain⟨au,ah,ai,al,av⟩:=ux hs;have an:e'=el:=by rw[U]at ah;simpa using ah.symm
   subst an;have C:szOf P e'=some sz:=by simp[szOf,ai,al]
   simp only at e;split at e
   .split at e
    .rename_i hc
     obtain⟨c1,c2,c3⟩:=hc;simp only[qv]at e;subst e;have i:=Yo (P:=P) (w:=w) (isSlice:=true) (len:=xs.length) (cap:=cap) J R T zSp c1 c2 zSo zSp af;refine⟨_,by simp only[Instr.sliceAt,Instr.slice,qS,run_underlying U,qW,i,jK C,zN];rfl,?_⟩;have hl:(g.getD 0).toNat<=(o.getD xs.length).toNat:=zOm;simp only[Option.getD_none,Int.toNat_natCast];exact sV r ag hl zOm zOm (qr _) _ (fun hf=>by
      simp only[qH,decide_eq_true_eq]at hf;have:=ak hf.1;omega)
    .exact absurd e zSp
   .rename_i m
    split at e
    .rename_i hc
     obtain⟨c1,c2,c3,c4,c5⟩:=hc;simp only[qv]at e;subst e;have i:=Yo (P:=P) (w:=w) (isSlice:=true) (len:=xs.length) (cap:=cap) J R T (fun _=>c5) c1 c2 (by simpa using c3) zSo af;refine⟨_,by simp only[Instr.sliceAt,Instr.slice,qS,run_underlying U,qW,i,jK C,zN];rfl,?_⟩;have hl:(g.getD 0).toNat<=(o.getD xs.length).toNat:=zOm;simp only[Option.getD_some];exact sV r ag hl zOm zOm zOm _ (fun hf=>by
      simp only[decide_eq_true_eq]at hf;omega)
    .exact absurd e zSp
  .rename_i b sz off len el U
   simp only at e;split at e
   .split at e
    .rename_i hc
     obtain⟨c1,c2,c3,c4,C⟩:=hc;simp only[qv]at e;subst e;cases r with
     |sl _ _ _ _ p a4 cap hb ht hl =>
     have i:=Yo (P:=P) (w:=w) (isSlice:=true) (len:=len) (cap:=cap) J R T zSp c1 c2 zSo zSp hl;refine⟨_,by simp only[Instr.sliceAt,Instr.slice,qS,run_underlying U,qW,i,jK C,zN];rfl,?_⟩;simp only[Option.getD_none,Int.toNat_natCast];have e1:(if cap=(g.getD 0).toNat then some (⟨p,off,none⟩:Addr) else (some (⟨p,off,none⟩:Addr)).map (·.add ((g.getD 0).toNat*sz)))=some ⟨p,off+(g.getD 0).toNat*sz,none⟩:=by
      split
      .rename_i aj
       have:(g.getD 0).toNat=0:=zOm;simp[this]
      .simp only[zq,Addr.add]
       split<;>simp_all
     rw[e1,show (o.getD (len:Int)).toNat-(g.getD 0).toNat=(o.getD (len:Int)-g.getD 0).toNat by omega];refine .sl b sz _ _ p a4 _ hb ?_ zOm;have aw:(g.getD 0).toNat<=cap:=zOm;refine zQ (Nat.le_of_eq ?_) ht;rw[Nat.add_assoc,<-Nat.add_mul];congr 2;omega
    .exact absurd e zSp
   .exact absurd e zSp
  .rename_i cs n el U
   simp only at e;split at e
   .split at e
    .rename_i hc
     obtain⟨c1,c2,c3,c4,C,ax⟩:=hc;simp only[qv]at e;subst e;cases r with
     |ip _ a arr e' fr rd hb hs hi hr hv =>
     obtain⟨ab,ao,ay⟩:=a;simp only at hb hs hi hr;subst hs;have i:=Yo (P:=P) (w:=w) (isSlice:=false) (len:=n) (cap:=n) J R T zSp c1 c2 zSo zSp (qr n);refine⟨_,by simp only[Instr.sliceAt,Instr.sureAddr,qS,run_underlying U,qW,i,jK C,zN];rfl,?_⟩;simp only[Option.getD_none,Int.toNat_natCast,Nat.mul_one];have e1:(some (if n=(g.getD 0).toNat then (⟨ab,ao,none⟩:Addr) else (⟨ab,ao,none⟩:Addr).add (g.getD 0).toNat))=some ⟨ab,ao+(g.getD 0).toNat,none⟩:=by
      split
      .rename_i aj
       have:(g.getD 0).toNat=0:=zOm;simp[this]
      .simp only[Addr.add]
       split<;>simp_all
     rw[e1];have I:(((cs.take (o.getD (n:Int)).toNat).drop (g.getD 0).toNat).map fun c=>[c]).length=(o.getD (n:Int)).toNat-(g.getD 0).toNat:=by
      simp only[zT,List.length_drop,v8];omega
     have a5:∀ l:List AV,(l.map fun c=>[c]).flatten=l:=by
      intro l;induction l with
      |nil=>rfl
      |cons x l ih=>simp[ih]
     by_cases h0:(o.getD (n:Int)).toNat-(g.getD 0).toNat=0
     .rw [h0]
      have:(((cs.take (o.getD (n:Int)).toNat).drop (g.getD 0).toNat).map fun c=>[c])=[]:=Qd (by rw[I,h0]);rw[this];exact .emp _ _ _ (fun h=>by rw[decide_eq_true_eq]at h;omega)
     .rw [<-I]
      have a3:∀(k:Nat) x,(((cs.take (o.getD (n:Int)).toNat).drop (g.getD 0).toNat).map fun c=>[c]).flatten[k]?=some x->cs[(g.getD 0).toNat+k]?=some x:=by
       intro k x hx;rw[a5,uu,vu]at hx;split at hx
       .exact hx
       .exact absurd hx zSp
      refine .lst _ _ 1 ⟨ab,ao+(g.getD 0).toNat,none⟩ _ arr e' fr (fun k=>rd ((g.getD 0).toNat+k)) hb rfl (by rw[I];omega) (fun h=>by rw[decide_eq_true_eq]at h;rw[I];omega) hi ?_ ?_ ?_
      .intro r aq
       obtain⟨c,_,rfl⟩:=qn.1 aq;rfl
      .intro k x hx
       have:=hr _ x (a3 k x hx);simpa[Nat.add_assoc] using this
      .intro k x hx
       exact hv _ x (a3 k x hx)
    .exact absurd e zSp
   .exact absurd e zSp
  .rename_i b off n el U
   split at e
   .split at e
    .rename_i hc
     obtain⟨rfl,c1,c2,c3,c4⟩:=hc;obtain⟨sz,C⟩:=Option.isSome_iff_exists.1 c4;simp only[qv]at e;subst e;cases r with
     |ptr _ _ p a4 hb =>
     have i:=Yo (P:=P) (w:=w) (isSlice:=false) (len:=n) (cap:=n) J R T zSp zOm zOm zSo zSp (qr n);refine⟨_,by simp only[Instr.sliceAt,Instr.sureAddr,qS,run_underlying U,qW,i,jK C,zN];rfl,?_⟩;simp only[Option.getD_none,Int.toNat_natCast,c1,Int.toNat_zero,Nat.zero_mul,Nat.sub_zero];have e1:(some (if n=0 then (⟨p,0,none⟩:Addr) else (⟨p,0,none⟩:Addr).add 0))=some ⟨p,0,none⟩:=by
      split
      .rfl
      .simp only[Addr.add]
       split<;>simp_all
     rw[e1];exact .sl b 0 0 _ p a4 n hb zSp zOm
    .exact absurd e zSp
   .exact absurd e zSp
  .rename_i s U
   cases r;simp only at e;split at e
   .split at e
    .rename_i hc
     obtain⟨c1,c2,c3⟩:=hc;simp only[qv]at e;subst e;rcases T with ⟨_,rfl⟩|⟨_,_,h,_⟩
     .have i:=Yo (P:=P) (w:=w) (isSlice:=false) (len:=s.size) (cap:=s.size) J R (mx:=none) (vmx:=none) (.inl ⟨rfl,rfl⟩) zSp c1 c2 (by simp<;>omega) zSp (qr _)
      exact⟨_,by simp only[Instr.sliceAt,Instr.slice,qS,run_underlying U,qW,i,zN,Option.isSome_none,Bool.false_eq_true,if_false],.sc _ rfl⟩
     .exact absurd h zSp
    .exact absurd e zSp
   .exact absurd e zSp
  .exact absurd e zSp
 .exact absurd e zSp
end
end Go.Ev
namespace Go.Ev
open Go Go.RowKit
theorem qg0(off):∀(l:List qf)(s cs),((l.zipIdx s).foldl (fun (cs:Array qf) (x:qf×Nat)=>cs.setIfInBounds (off+x.2) x.1) cs).size=cs.size:=by
 intro l;induction l with
 |nil=>intro s cs;rfl
 |cons y i g=>simp_all
theorem qg1(off):∀(l:List qf)(s cs k),off+s+l.length<=cs.size ->
  ((l.zipIdx s).foldl (fun (cs:Array qf) (x:qf×Nat)=>cs.setIfInBounds (off+x.2) x.1) cs).getD k qU =
   if off+s<=k/\k<off+s+l.length then l.getD (k-(off+s)) qU else cs.getD k qU:=by
 intro l;induction l with
 |nil=>simp_all[if_neg,List.length_nil]
 |cons y i j =>
  intro s cs k h;simp only[zG]at h;simp only[List.zipIdx_cons,List.foldl_cons];rw[j (s+1) _ k zSo];by_cases g:off+(s+1)<=k/\k<off+(s+1)+i.length
  .rw [if_pos g,if_pos (by grind)]
   rw[show k-(off+s)=(k-(off+(s+1)))+1 by omega];simp
  .rw [if_neg g]
   by_cases o:k=off+s
   .subst o
    rw[if_pos zSp];simp[zc,show off+s<cs.size by omega]
   .rw [if_neg (by grind)]
    simp only[zc]
    grind
@[go_sem] def Zl(place:Nat->Option (Nat×Nat))(cells:List AV):List (Nat×AV)->Option (List AV)
 | []=>some cells
 | (i,v) :: g =>
  match place i with
  |none=>none
  |some (off,size)=>if v.cells.length=size/\off+size<=cells.length/\v.cells.all AV.one=true then Zl place (putCells cells off v.cells) g else none
theorem p5(cells off xs)(h:off+xs.length<=cells.length):(putCells cells off xs).length=cells.length:=by
 grind [jg]
theorem qg2(cells off xs)(h:off+xs.length<=cells.length)(k) :
  (putCells cells off xs)[k]?=if off<=k/\k<off+xs.length then xs[k-off]? else cells[k]?:=by
 rw[jg _ _ _ h,zB];by_cases g:k<off
 .rw [zIn,qN zSo,vu,if_pos g]
 .have i:(cells.take off).length=off:=by simp;omega
  rw[zM zOm,i];by_cases j:k<off+xs.length
  .rw [if_pos zOm,zGa]
  .rw [zIn,zM zOm,uu]
   congr 1;omega
def JD(G:Gh)(h:Array Obj):List (Nat×AV)->List (Nat×qf)->Prop
 | [],[]=>True
 | (i,x) :: J,(j,v) :: g=>i=j/\VRel G h x v/\JD G h J g
 |_,_=>False
theorem p6{G h place}:∀ ps g cells arr z,JD G h ps g ->
  arr.size=cells.length->(∀(k) x,cells[k]?=some x->VRel G h x (arr.getD k qU))->Zl place cells ps=some z ->
  ∃ r,Instr.fill place arr g=some r/\r.size=z.length/\z.length=cells.length/\∀(k) x,z[k]?=some x->VRel G h x (r.getD k qU):=by
 intro ps;induction ps with
 |nil =>
  intro g cells arr z o C J h;cases g with
  |nil =>
   simp only[Zl,qv]at h;subst h;exact⟨arr,rfl,C,rfl,J⟩
  |cons=>exact o.elim
 |cons p ps P =>
  intro g cells arr z o C J h;obtain⟨i,x⟩:=p;cases g with
  |nil=>exact o.elim
  |cons q g =>
   obtain⟨j,v⟩:=q;obtain⟨rfl,R,o⟩:=o;simp only[Zl]at h;split at h
   .grind
   .rename_i off size T
    split at h
    .rename_i l
     obtain⟨c1,c2,c3⟩:=l;obtain⟨U,t,I⟩:=R.cells (fun c a0=>by grind);have hl:v.cells.toList.length=size:=zSo;obtain⟨r,h1,h2,h3,h4⟩:=P g (putCells cells off x.cells) (v.cells.zipIdx.foldl (fun cs (x:qf×Nat)=>cs.setIfInBounds (off+x.2) x.1) arr) z o
      (by rw[p5 _ _ _ zOm,<-Array.foldl_toList,Array.toList_zipIdx,qg0,C])
      (by
       intro k y hk;rw[qg2 _ _ _ zOm]at hk;rw[<-Array.foldl_toList,Array.toList_zipIdx,qg1 off _ 0 arr k zOm];by_cases a1:off<=k/\k<off+x.cells.length
       .simp_all
       grind) h
     simp_all[p5,Instr.fill,if_neg]
    grind
def yo(P:qb)(t:qc):Option (Nat->Option (Nat×Nat)):=
 match P.underlying t with
 |some (.array _ e)=>(szOf P e).map fun s=>fun i=>some (i*s,s)
 |some (.struct j)=>(j.toList.mapM (fun f=>(P.info? f.type).map fun i=>(f.offset,i.size))).map fun g=>fun i=>g.toArray[i]?
 |_=>none
@[go_sem] def V6(P:qb)(t:qc)(ps:List (Nat×AV)):Option AV:=
 match qB P t,yo P t with
 |some z,some place=>(Zl place z.cells ps).map .agg
 |_,_=>none
theorem JE{G h}(v)(g:∀ c,c∈(ofV v).cells->c.one=true) :
  v.cells.size=(ofV v).cells.length/\∀(k) x,(ofV v).cells[k]?=some x->VRel G h x (v.cells.getD k qU):=
 let ⟨i,j,_⟩:=(VRel.ofV (G:=G) (h:=h) v).cells g
 ⟨i,j⟩
theorem qg3{P G w t ps o z}(J:JD G w.heap ps o.toList)
  (R:∀ y,qB P t=some y->y.cells.all AV.one=true) (e:V6 P t ps=some z):∃ u,(Instr.build t o).run P w = .ok u w/\VRel G w.heap z u:=by
 unfold V6 at e;split at e
 .rename_i C place g j
  cases hf:Zl place C.cells ps with
  |none=>simp[hf]at e
  |some r =>
   simp only[hf,zq,qv]at e;subst e;have T:=R C g;unfold qB at g;cases l:P.info? t with
   |none=>simp[l]at g
   |some it =>
    simp only[l,Option.bind_some,jR]at g;obtain⟨v,hv,rfl⟩:=g;obtain⟨g1,U⟩:=JE (G:=G) (h:=w.heap) v (fun c hc=>by grind);obtain⟨I,h1,h2,h3,h4⟩:=p6 ps o.toList _ v.cells r J g1 U hf;refine⟨.agg I,?_,.agg _ _ h2 h4⟩;refine run_build w t o I ?_;unfold yo at j;unfold Program.built;split at j
    .rename_i n el hu
     cases a0:P.info? el with
     |none=>grind [szOf]
     |some ie =>
      grind [szOf,qv]
    .rename_i fs hu
     cases hm:fs.toList.mapM (fun f=>(P.info? f.type).map fun i=>(f.offset,i.size)) with
     |none=>simp[hm]at j
     |some p =>
      grind
    grind
 grind
end Go.Ev
namespace Go.Ev
open Go Go.RowKit
section
variable {G:Gh}{xs:List (List AV)}{mu:Mu}{sz:Nat}{P:qb}{w:qd}
def zo(sz:Nat)(xs:List (List AV)):Prop:=∀ r,r∈xs->r.length=sz/\r.all AV.one=true
theorem zo.ok(h:zo sz xs):yR sz xs:=fun r g=>(h r g).1
theorem zo.one(h:zo sz xs):∀ c,c∈xs.flatten->c.one=true:=by
 intro c i;obtain⟨r,j,g⟩:=pP.1 i;exact by simpa using zF.1 (h r j).2 c g
theorem W4(l:List qf)(k):l.toArray.getD k qU=l.getD k qU:=by
 simp[zc,zS]
theorem p7(s:Sim G mu w.heap){x v}(t)(r:VRel G w.heap x v)(o:x.cells.all AV.one=true) :
  ∃ G',(newVar t v).run P w = .ok ⟨w.heap.size,0,none⟩ (w.alloc (.cells v.cells t))/\Stp G mu w G' (mu++[.arr x.cells]) (w.alloc (.cells v.cells t)) /\
   VRel G' (w.alloc (.cells v.cells t)).heap (.ptr mu.length 0) (.pointer (some ⟨w.heap.size,0,none⟩)):=by
 obtain⟨i,g,_⟩:=r.cells (fun c p=>by grind);refine⟨_,rfl,sR s (.cells v.cells t) (.arr x.cells) v.cells.size ?_,.ptr _ 0 w.heap.size v.cells.size ?_⟩
 .intro _
  refine⟨v.cells,t,rfl,rfl,zOm,fun j y l=>⟨by grind,g j y l⟩⟩
 .show (G.blk++[_])[mu.length]?=_
  rw[<-s.len];simp
theorem qg4(s:Sim G mu w.heap){x v}(t)(r:VRel G w.heap x v)(l:x.cells.all AV.one=true) :
  ∃ G',(newVar t v).run P w = .ok ⟨w.heap.size,0,none⟩ (w.alloc (.cells v.cells t))/\Stp G mu w G' mu (w.alloc (.cells v.cells t)) /\
   VRel G' (w.alloc (.cells v.cells t)).heap (.ip x.cells) (.pointer (some ⟨w.heap.size,0,none⟩)):=by
 obtain⟨i,g,_⟩:=r.cells (fun c o=>by grind);have T:=sB s (.cells v.cells t);refine⟨_,rfl,T,.ip _ _ v.cells t (0,0) (fun k=>v.cells.getD k qU) (VV w _) rfl (.inr rfl) ?_ ?_⟩
 .simp_all [qk,zc]
 .intro k y j
  exact T.vrel s (g k y j)
theorem p8(z n){k}{x:AV}(h:((q9 n z).flatten)[k]?=some x):z[k % z.length]?=some x:=by
 induction n generalizing k with
 |zero=>simp at h
 |succ n g =>
  grind [Qe,qN,Nat.mod_eq_of_lt,zM,Nat.mod_eq_sub_mod]
theorem p9(z:List AV)(n):((q9 n z).flatten).length=n*z.length:=by simp
@[go_sem] def Yp(sz:Nat):List (List AV)->List (Nat×AV)->Option (List (List AV))
 |rows,[]=>some rows
 |rows,(i,v) :: g=>if v.cells.length=sz/\i<rows.length/\v.cells.all AV.one=true then Yp sz (rows.set i v.cells) g else none
theorem JF:∀ rows i r,yR sz rows->r.length=sz->i<rows.length->(rows.set i r).flatten=putCells rows.flatten (i*sz) r:=by
 intro rows;induction rows with
 |nil=>grind
 |cons y j C =>
  intro i r l p I;have P:y.length=sz:=l y zSp;have R:(y :: j).flatten.length=(j.length+1)*sz:=yQ (xs:=y :: j) l;cases i with
  |zero =>
   grind [jg,Nat.succ_mul]
  |succ i =>
   simp only[List.set_cons_succ,Qe];have o:i<j.length:=zUs I;have g:yR sz j:=fun r p=>l r (zP1 p)
   rw[C i r g p o];have t:i*sz+r.length<=j.flatten.length:=by
    rw[yQ g,p];have:(i+1)*sz<=j.length*sz:=Nat.mul_le_mul_right _ o;rw[Nat.succ_mul]at this;exact this
   rw[jg _ _ _ t,jg _ _ _ (by simp only[zd,P,Nat.succ_mul];omega)];simp_all[Nat.succ_mul,Nat.add_comm,List.take_append,List.drop_append,List.take,List.take_of_length_le,List.drop]
theorem qg5:∀ ps rows g,yR sz rows->Yp sz rows ps=some g ->
  Zl (fun i=>some (i*sz,sz)) rows.flatten ps=some g.flatten/\yR sz g/\g.length=rows.length:=by
 intro ps;induction ps with
 |nil =>
  intro rows g j h;simp only[Yp,qv]at h;subst h;exact⟨rfl,j,rfl⟩
 |cons p ps t =>
  intro rows g j h;obtain⟨i,v⟩:=p;simp only[Yp]at h;split at h
  .rename_i C
   obtain⟨c1,c2,c3⟩:=C;have l:yR sz (rows.set i v.cells):=by
    intro r I;rcases List.mem_or_eq_of_mem_set I with h|h
    .exact j r h
    grind
   obtain⟨J,P,R⟩:=t _ g l h;refine⟨?_,P,by rw[R];simp⟩;simp only[Zl];have o:i*sz+sz<=rows.flatten.length:=by
    rw[yQ j];have:(i+1)*sz<=rows.length*sz:=Nat.mul_le_mul_right _ c2
    grind
   rw[if_pos ⟨c1,o,c3⟩,<-JF rows i v.cells j c1 c2];exact J
  grind
@[go_sem] def V7(P:qb)(t:qc)(len:Nat)(ps:List (Nat×AV)):Option AV:=
 match qJ P t with
 |some (e,g,_) =>
  match qB P e with
  |some z=>if len*g<=16777216/\z.cells.length=g/\z.cells.all AV.one=true then (Yp g (q9 len z.cells) ps).map (.lst true) else none
  |none=>none
 |none=>none
theorem V8{t z}(h:qB P t=some z):∃ i v,P.info? t=some i/\i.zero=some v/\z=ofV v:=by
 unfold qB at h;cases g:P.info? t with
 |none=>simp[g]at h
 |some it =>
  simp only[g,Option.bind_some,jR]at h;obtain⟨v,j,rfl⟩:=h
  grind
theorem sJ{h b cap cs e g}(full)(i:h[b]?=some (.cells cs e g))(j:xs.length<=cap)(l:full=true->cap=xs.length)
  (o:G.imm b) (p:yR sz xs) (t:xs.flatten.length<=cs.size) (r:∀(k) x,xs.flatten[k]?=some x->VRel G h x (cs.getD k qU)):VRel G h (.lst full xs) (.slice (some ⟨b,0,none⟩) xs.length cap):=by
 refine .lst full xs sz ⟨b,0,none⟩ cap cs e g (fun k=>cs.getD k qU) i rfl j l o p ?_ r;intro k x C;have:k<cs.size:=by grind
 simp[zc,this]
theorem ge{z:Array qf}{n k}(g:k<n)(i:0<z.size):(((Array.range n).map (z[· % z.size]!)).getD k qU)=z.getD (k % z.size) qU:=by
 simp_all[Nat.mod_lt,zc,getElem!_pos]
theorem qg6(s:Sim G mu w.heap){t len ps R x}(hp:JD G w.heap ps R.toList)
  (e:V7 P t len ps=some x):Good P G mu w (Instr.buildSlice t len R) x mu:=by
 unfold V7 at e;split at e
 .rename_i el i bt hs
  split at e
  .rename_i z hz
   split at e
   .rename_i hc
    obtain⟨c1,c2,c3⟩:=hc;cases p:Yp i (q9 len z.cells) ps with
    |none=>simp[p]at e
    |some rows =>
     simp only[p,zq,qv]at e;subst e;obtain⟨a6,hu,a5,a7,a8⟩:=ux hs;have U:szOf P el=some i:=by grind [szOf]
     obtain⟨it,l,a0,a1,rfl⟩:=V8 hz;have C:yR i (q9 len (ofV l).cells):=by
      intro r p;rw[List.eq_of_mem_replicate p];exact c2
     obtain⟨f1,f2,f3⟩:=qg5 ps _ rows C p;have g:=JE (G:=G) (h:=w.heap) l (fun c hc=>by grind);have o:((q9 len (ofV l).cells).flatten).length=len*i:=by rw[p9,c2]
     obtain⟨arr,k1,k2,k3,k4⟩:=p6 (G:=G) (h:=w.heap) ps R.toList _ ((Array.range (len*i)).map ((if len*i=0 then #[] else l.cells)[· % (if len*i=0 then #[] else l.cells).size]!)) _ hp (by simp[o])
      (by
       intro k y hk;have a2:k<len*i:=by grind
       have a3:¬len*i=0:=zOm;have:=p8 _ _ hk;rw[c2]at this;simp only[if_neg a3];have I:l.cells.size=i:=by rw[g.1,c2]
       rw[ge a2 (by grind),I]
       grind) f1
     have T:=sB s (.cells arr el);have j:rows.length=len:=by rw[f3];simp
     refine⟨.slice (some ⟨w.heap.size,0,none⟩) len len,_,_,?_,T,?_⟩
     .have a9:(zeroValue el).run P w = .ok l w:=by simp[zeroValue,typeInfo,a0,a1]
      have a4:¬(len*i > 2 ^ 24):=zOm;simp only[Instr.buildSlice,qS,run_underlying hu,qW,jK U,if_neg a4];by_cases h0:len*i=0
      .simp_all [if_pos,qS,qW,zN,newRow,run_newObj]
      simp_all[if_neg,qS,qW,zN,newRow,run_newObj]
     .have:=sJ (G:=⟨fun b=>G.imm b\/b=w.heap.size,G.blk⟩) (h:=(w.alloc (.cells arr el)).heap) (xs:=rows) (sz:=i) (b:=w.heap.size) (cap:=len) true (VV w _) zOm (fun _=>j.symm) (.inr rfl) f2 zOm
       (fun k y hk=>T.vrel s (k4 k y hk))
      rw[j]at this;exact this
   grind
  grind
 grind
end
end Go.Ev
namespace Go.Ev
open Go Go.RowKit
theorem Stp.move{G mu w}(s:Sim G mu w.heap)(i c p o)(hc:mu[i]?=some c)(hd:c ≠ .dead)(hk:G.blk[i]?=some (p,o)) :
  Stp G mu w ⟨G.imm,G.blk++[(p,o)]⟩ (mu.set i .dead++[c]) w:=by
 have P:G.le ⟨G.imm,G.blk++[(p,o)]⟩:=⟨fun b h=>h,fun j x h=>by
  grind⟩
 have a3:=s.len;have a0:(mu.set i Cell.dead).length=mu.length:=zSp
 have r:∀(j:Nat)(l:Cell) b t,(mu.set i Cell.dead++[c])[j]?=some l->l ≠ .dead->(G.blk++[(p,o)])[j]?=some (b,t) ->
   (j<mu.length/\j≠i/\mu[j]?=some l/\G.blk[j]?=some (b,t))\/(j=mu.length/\l=c/\b=p/\t=o):=by
  intro j l b t J g R;rcases yA J with ⟨I,C⟩|⟨I,C⟩
  .grind
  .rcases yA R with ⟨h',_⟩|⟨_,h'⟩
   .omega
   .obtain ⟨rfl,rfl⟩:=Prod.mk.inj h'
    exact .inr ⟨zOm,C,rfl,rfl⟩
 refine⟨P,⟨by simp[s.len],s.imm,?_,?_,?_,s.tab⟩,fun _ _ _=>rfl,qr _,?_,fun b h => .inl h,rfl,rfl,rfl,qr _⟩
 .intro j l b t J g R
  rcases r j _ b t J g R with ⟨_,_,I,C⟩|⟨_,rfl,rfl,rfl⟩
  .obtain ⟨o',g1,g2⟩:=s.obj j l b t I g C
   exact⟨o',g1,g2.le P⟩
  .obtain ⟨o',g1,g2⟩:=s.obj i l b t hc hd hk
   exact⟨o',g1,g2.le P⟩
 .intro j l b t J g R
  rcases r j _ b t J g R with ⟨_,_,I,C⟩|⟨_,rfl,rfl,rfl⟩
  .exact s.live j l b t I g C
  .exact s.live i l b t hc hd hk
 .intro j k l ck b t t' J a1 g T U a2
  rcases r j _ b t J g U with ⟨l1,n1,I,C⟩|⟨l1,e1,e2,e3⟩<;>rcases r k _ b t' a1 T a2 with ⟨l2,n2,h3,h4⟩|⟨l2,e4,e5,e6⟩
  .exact s.inj j k l ck b t t' I h3 g T C h4
  .subst e5
   exact absurd (s.inj j i l c b t o I hc g hd C hk) n1
  .subst e2
   exact absurd (s.inj k i ck c b t' o h3 hc T hd h4 hk) n2
  .omega
 .intro b R
  obtain⟨j,l,t,J,g,U⟩:=R;rcases r j _ b t J g U with ⟨_,_,I,C⟩|⟨_,rfl,rfl,rfl⟩
  .exact .inl ⟨j,l,t,I,g,C⟩
  .exact .inl ⟨i,l,t,hc,hd,hk⟩
@[go_sem] def JG(n:Nat)(z:List AV):List AV:=
 match z with
 | [x]=>q9 n x
 |z=>(q9 n z).flatten
theorem gg(n z):JG n z=(q9 n z).flatten:=by
 unfold JG;split
 .simp
 .rfl
@[go_sem] def JH(P:qb)(mu:Mu)(t:qc)(len cap:AV):Option (AV×Mu):=
 match len,cap,qJ P t with
 | .sc (.int .i64 l),.sc (.int .i64 c),some (e,g,i) =>
  match qB P e with
  |some z=>if 0<=l/\l<=c/\c<=4294967296/\i<=16384/\z.cells.length=g/\z.cells.all AV.one=true/\g≠0 then
    some (.sl mu.length g 0 l.toNat,mu++[.arr (JG l.toNat z.cells)]) else none
  |none=>none
 |_,_,_=>none
theorem z8{n}(g : -9223372036854775808<=n)(i:n<=9223372036854775807):qq.wrap n=n:=IntWalk.i64_in n ⟨g,i⟩
theorem zWr{x}(g:-9223372036854775808<=x:=by omega)(i:x<=9223372036854775807:=by omega):qq.wrap x=x:=z8 g i
theorem zWk(k:Nat)(g:-9223372036854775808<=(k:Int)+1:=by omega)(i:(k:Int)+1<=9223372036854775807:=by omega):qq.wrap ((k:Int)+1)=(k:Int)+1:=z8 g i
theorem qg7{P G mu mu' w}(s:Sim G mu w.heap){t len cap x vl vc}(rl:VRel G w.heap len vl)(rc:VRel G w.heap cap vc)
  (e:JH P mu t len cap=some (x,mu')):Good P G mu w (Instr.makeSlice t vl vc) x mu':=by
 unfold JH at e;split at e
 .rename_i l c el i bt hs
  cases rl;cases rc;split at e
  .rename_i z hz
   split at e
   .rename_i hc
    obtain⟨c1,c2,c3,c4,c5,c6,c7⟩:=hc;simp only[qv,uM]at e;obtain⟨rfl,rfl⟩:=e;obtain⟨o,hu,C,a8,U⟩:=ux hs;have a0:szOf P el=some i:=by grind [szOf]
    obtain⟨it,p,a1,a2,rfl⟩:=V8 hz;have g:=JE (G:=G) (h:=w.heap) p (fun c hc=>by grind);have a3:(zeroValue el).run P w = .ok p w:=by simp[zeroValue,typeInfo,a1,a2]
    have a4:qq.wrap l=l:=zWr;have a5:qq.wrap c=c:=zWr;have a9:((o.bytes:Nat):Int)*c<=2 ^ 48:=by
     rw[U];have h1:(bt:Int)*c<=16384*4294967296:=Int.mul_le_mul zOm zOm zOm zOm;omega
    have I:p.cells.size=i:=by rw[g.1,c5]
    let arr:Array qf:=(Array.range (c.toNat*i)).map ((if c.toNat*i=0 then #[] else p.cells)[· % (if c.toNat*i=0 then #[] else p.cells).size]!)
    have J:arr.size=c.toNat*i:=by simp[arr]
    have aa:l.toNat*i<=c.toNat*i:=Nat.mul_le_mul_right _ zOm;have ab:(JG l.toNat (ofV p).cells).length=l.toNat*i:=by rw[gg,p9,c5]
    have T:=sR s (.cells arr el) (.arr (JG l.toNat (ofV p).cells)) (c.toNat*i) (by
     intro _;refine⟨arr,el,rfl,J,zOm,fun j y hj=>?_⟩;have ad:j<l.toNat*i:=by grind
     have a6:¬c.toNat*i=0:=zOm;rw[gg]at hj;have hy:=p8 _ _ hj;refine⟨by grind,?_⟩;have:=g.2 _ y hy;simp only[arr,if_neg a6];rw[ge zOm zOm,I,<-c5];exact this)
    refine⟨.slice (some ⟨w.heap.size,0,none⟩) l.toNat c.toNat,_,_,?_,T,?_⟩
    .have a7:(typeInfo el).run P w = .ok o w:=by simp[typeInfo,C]
     have n1:¬(((o.bytes:Nat):Int)*c > 2 ^ 48):=zOm;have r:((decide (c<0)||decide (((o.bytes:Nat):Int)*c > 2 ^ 48))||decide (l<0)||decide (l > c))=false:=by
      grind
     simp only[Instr.makeSlice,qS,run_underlying hu,qW,asInt,asIntOf,zN,a7,a4,a5,r,Bool.false_eq_true,if_false,run_askRoom,jK a0];by_cases R:c.toNat*i=0
     .simp only[if_pos R,qS,zN,qW,newRow,run_newObj]
      simp only[arr,if_pos R];rfl
     .simp only[if_neg R,qS,a3,zN,qW,newRow,run_newObj]
      simp only[arr,if_neg R];rfl
    .refine .sl _ i 0 _ w.heap.size (c.toNat*i) c.toNat ?_ zOm zOm
     show (G.blk++[_])[mu.length]?=_;rw[<-s.len];simp
   grind
  grind
 grind
end Go.Ev
namespace Go.Ev
open Go Go.RowKit
section
variable {P:qb}{w:qd}
def qE(mu:Mu):AV->Option (List (List AV))
 | .lst _ J=>some J
 | .sl b g off len=>match mu[b]? with
  |some (.arr cells)=>if off+len*g<=cells.length then some ((qu len).map fun i=>(cells.drop (off+i*g)).take g) else none
  |_=>none
 |_=>none
theorem W5(sz):∀(len)(cells:List AV),len*sz<=cells.length->((qu len).map fun i=>(cells.drop (i*sz)).take sz).flatten=cells.take (len*sz):=by
 intro len;induction len with
 |zero=>intro cells _;simp
 |succ n g =>
  intro cells h;rw[List.range_succ,ze,List.flatten_append,g cells (by rw[Nat.succ_mul]at h;omega)];simp only[List.map_cons,List.map_nil,Qe,List.flatten_nil,List.append_nil,Nat.succ_mul];rw[List.take_add]
theorem V9{G mu}(s:Sim G mu w.heap){x v ys sz}(r:VRel G w.heap x v)(h:qE mu x=some ys)(R:zo sz ys) :
  ∃(a:Option Addr) (cap:Nat) (news:List qf),v = .slice a ys.length cap/\news.length=ys.length*sz/\(∀ u∈news,u.oneCell'=true) /\
   (∀(k) y,ys.flatten[k]?=some y->VRel G w.heap y (news.getD k qU))/\(Builtin.firstCells sz ys.length v).run P w = .ok news.toArray w/\(Builtin.firstCells sz ys.length v).run P w.drew = .ok news.toArray w.drew:=by
 have fin:∀(a:Addr)(cap:Nat)(rd:Nat->qf),(∀(k:Nat) y,ys.flatten[k]?=some y->w.cell? (a.add k)=some (rd k)/\VRel G w.heap y (rd k))->v = .slice (some a) ys.length cap ->
   ∃(a:Option Addr) (cap:Nat) (news:List qf),v = .slice a ys.length cap/\news.length=ys.length*sz/\(∀ u∈news,u.oneCell'=true) /\
   (∀(k:Nat) y,ys.flatten[k]?=some y->VRel G w.heap y (news.getD k qU))/\(Builtin.firstCells sz ys.length v).run P w = .ok news.toArray w/\(Builtin.firstCells sz ys.length v).run P w.drew = .ok news.toArray w.drew:=by
  intro a cap rd T U;subst U;have l:=yQ R.ok;have p:∀ k,k<ys.length*sz->∃ y,ys.flatten[k]?=some y:=fun k hk=>⟨ys.flatten[k]' zOm,by simp[l,hk]⟩
  refine⟨some a,cap,(qu (ys.length*sz)).map rd,rfl,zSp,?_,?_,?_,?_⟩
  .intro u hu
   obtain⟨k,hk,rfl⟩:=qn.1 hu;obtain⟨y,i⟩:=p k (zUs hk);exact(T k y i).2.one (R.one y (zb i))
  .grind
  .grind [Builtin.firstCells,run_loadCells]
  .simp only[Builtin.firstCells]
   exact run_loadCells w.drew a _ rd (fun j hj=>by simp_all)
 unfold qE at h;split at h
 .rename_i full J
  simp only[qv]at h;subst h;cases r with
  |nil=>exact⟨none,0,[],rfl,zSp,zSp,zSp,by simp[Builtin.firstCells],by simp[Builtin.firstCells]⟩
  |emp _ a cap hc=>simp_all
  |lst _ _ g a cap cs e fr rd hb hs hl hc hi a2 hr U =>
   exact fin a cap rd (fun k y i=>⟨by rw[ZS hb hs];exact hr k y i,U k y i⟩) rfl
 .rename_i b g off len
  split at h
  .rename_i cells hc
   split at h
   .rename_i a3
    simp only[qv]at h;cases r with
    |sl _ _ _ _ o a0 cap hb ht hl =>
    obtain⟨arr,e,h1,h2,h3,h4⟩:=s.arr b cells o a0 hc hb;have t:ys.length=len:=by rw[<-h];simp
    subst t;by_cases h0:ys.length=0
    .simp_all
    .have C:g=sz:=by
      have I:0<ys.length:=zOm;have hm:(cells.drop (off+0*g)).take g∈ys:=by
       rw[<-h];exact qn.2 ⟨0,zUs I,rfl⟩
      have:=(R _ hm).1;have a1:g<=ys.length*g:=Nat.le_mul_of_pos_left _ I;simp at this;omega
     subst C;have l:ys.flatten=(cells.drop off).take (ys.length*g):=by
      rw[<-h];have:=W5 g ys.length (cells.drop off) zSo;simp only[List.drop_drop]at this;simpa using this
     refine fin ⟨o,off,none⟩ cap (fun k=>arr.getD (off+k) qU) (fun k y i=>?_) rfl;rw[l,vu]at i;split at i
     .rw [uu]at i
      refine⟨?_,(h4 _ y i).2⟩;rw[ZS (a:=⟨o,off,none⟩) h1 rfl];have a4:off+k<cells.length:=(qk.1 i).1;have:off+k<arr.size:=zOm;simp[zc,this]
     grind
   grind
  grind
 grind
def vd(P:qb)(mu:Mu)(j:Array qc)(s x:AV)(K:AV->Mu->Prop):Prop:=
  ∃ t o e g p i,j=#[t,o]/\qJ P t=some (e,g,p)/\(qJ P o).isSome=true/\(∃ l,qB P e=some l/\l.cells.length=g/\l.cells.all AV.one=true)/\g≠0/\p<=16384/\qE mu x=some i/\zo g i /\
    ((∃ J,s = .lst true J/\zo g J/\J.length+i.length<=4294967296/\(i=[]->K s mu)/\(i≠[]->K (.sl mu.length g 0 (J.length+i.length)) (mu++[.arr (J++i).flatten]))) \/
     (∃ b len cells,s = .sl b g 0 len/\mu[b]?=some (.arr cells)/\len*g<=cells.length/\len+i.length<=4294967296 /\
        K (.sl mu.length g 0 (len+i.length)) (mu.set b .dead++[.arr (cells.take (len*g)++i.flatten)])))
theorem gh{t C ty e i d}(I:P.underlying t=some (.slice e))(o:P.underlying C=some (.slice d))(J:P.info? e=some i)
  {base} {g j n cap} {a} {news} {w'}
  (hf:(Builtin.firstCells i.size n (.slice a n cap)).run P w = .ok news.toArray w) (l:g+n<=j)
  (p:∀ b,base=some b->(storeCells (b.add (g*i.size)) news).run P w = .ok () w') (r:base=none->w'=w) :
  (Builtin.append_ #[t,C] ty #[.slice base g j,.slice a n cap]).run P w = .ok (.slice base (g+n) j) w':=by
 cases base with
 |none =>
  have:=r rfl;subst this;simp[Builtin.append_,run_underlying I,run_underlying o,sizeOf,typeInfo,J,Builtin.lenOf,l,hf]
 |some b =>
  have:=p b rfl;simp[Builtin.append_,run_underlying I,run_underlying o,sizeOf,typeInfo,J,Builtin.lenOf,l,hf,this]
theorem qg8{t I ty e i z d}(R:P.underlying t=some (.slice e))(r:P.underlying I=some (.slice d))(T:P.info? e=some i)(U:i.zero=some z)
  {base a} {g j n cap} {l news}
  (C:(Builtin.firstCells i.size g (.slice base g j)).run P w.drew = .ok l.toArray w.drew) (hf:(Builtin.firstCells i.size n (.slice a n cap)).run P w.drew = .ok news.toArray w.drew)
  (hg:j<g+n) (a0:((g+n:Nat):Int)<=9223372036854775807) (J:Builtin.nextslicecap (g+n) j*i.bytes<=281474976710656) :
  (Builtin.append_ #[t,I] ty #[.slice base g j,.slice a n cap]).run P w =
   .ok (.slice (some ⟨w.heap.size,0,none⟩) (g+n) (grownCap w (g+n) j e))
    (w.drew.alloc (.cells (l++(news++(y9 z.cells (grownCap w (g+n) j e-(g+n))).toList)).toArray e)):=by
 have hn:¬(g+n<=j):=zOm;have o:¬(9223372036854775807<((g:Int)+(n:Int))):=zOm;have p:¬(281474976710656<Builtin.nextslicecap (g+n) j*i.bytes):=zOm;simp[Builtin.append_,run_underlying R,run_underlying r,sizeOf,typeInfo,zeroValue,T,U,Builtin.lenOf,hn,o,p,Question.forced,hf,C,newRow,grownCap];congr 2;apply Array.ext';simp
theorem gk(w g i e):g<=grownCap w g i e:=by
 simp only[grownCap,Question.cut];omega
theorem gq{g cap bt}(h:cap<g)(i:g<=4294967296)(j:bt<=16384):Builtin.nextslicecap g cap*bt<=281474976710656:=by
 refine growslice_fits h ?_;have:g*bt<=4294967296*16384:=Nat.mul_le_mul i j;omega
theorem gw{G mu}(s:Sim G mu w.heap){I ty sv xv vs vx}(rs:VRel G w.heap sv vs)(rx:VRel G w.heap xv vx){K}
  (h:vd P mu I sv xv K):∃ z mu',K z mu'/\Good P G mu w (Builtin.append_ I ty #[vs,vx]) z mu':=by
 obtain⟨t,t',e,g,bt,ys,rfl,aw,bm,⟨zv,ax,ay,az⟩,bn,b0,b1,aa,h⟩:=h;obtain⟨i,hu,hi,rfl,rfl⟩:=ux aw;obtain⟨d,ah⟩:∃ d,P.underlying t'=some (.slice d):=by
  grind [qJ,ux]
 obtain⟨i',z,b2,hz,rfl⟩:=V8 ax;obtain rfl:i=i':=Option.some.inj (hi.symm.trans b2);have al:z.cells.size=i.size:=by rw[(JE (G:=G) (h:=w.heap) z (fun c hc=>by simpa using zF.1 az c hc)).1,ay]
 obtain⟨a,cap,o,rfl,ai,an,a6,hf,b3⟩:=V9 (P:=P) s rx b1 aa;have b4:=yQ aa.ok
 have grow:∀(base:Option Addr)(l R:Nat)(p:List qf)(oc:List AV)(b5:Mu)(G1:Gh),l*i.size=oc.length->p.length=oc.length->(∀(k:Nat) y,oc[k]?=some y->y.one=true/\VRel G w.heap y (p.getD k qU)) ->
   (Builtin.firstCells i.size l (.slice base l R)).run P w.drew = .ok p.toArray w.drew->R<l+ys.length->l+ys.length<=4294967296 ->
   Good P G mu w (Builtin.append_ #[t,t'] ty #[.slice base l R,.slice a ys.length cap]) (.sl mu.length i.size 0 (l+ys.length)) (mu++[.arr (oc++ys.flatten)]):=by
  intro base l R p oc b5 G1 b6 a3 U ab hg a7;have a2:=qg8 (ty:=ty) hu ah hi hz ab b3 hg zOm (gq hg a7 b0);have b7:=gk w (l+ys.length) R e;generalize grownCap w (l+ys.length) R e=gc at a2 b7;have b8:(y9 z.cells (gc-(l+ys.length))).toList.length=(gc-(l+ys.length))*z.cells.size:=by simp[size_zeroCells]
  have sd:Sim G mu w.drew.heap:=s;have T:=sR sd (.cells (p++(o++(y9 z.cells (gc-(l+ys.length))).toList)).toArray e) (.arr (oc++ys.flatten)) ((p++(o++(y9 z.cells (gc-(l+ys.length))).toList)).length) (by
   intro _;refine⟨_,e,rfl,zSp,by simp only[zd];omega,fun j y hj=>?_⟩;rw[W4,zS];by_cases ad:j<oc.length
   .rw [qN ad]at hj
    rw[zGa,<-zS];exact U j y hj
   .rw [zM zOm]at hj
    rw[zM zOm,a3];have:j-oc.length<ys.flatten.length:=(qk.1 hj).1;rw[zGa,<-zS];exact⟨aa.one y (zb hj),a6 _ y hj⟩)
  have ao:(p++(o++(y9 z.cells (gc-(l+ys.length))).toList)).length=gc*i.size:=by
   simp only[zd,b8,al,a3,<-b6,ai,<-Nat.add_mul];congr 1;omega
  rw[ao]at T;refine⟨_,_,_,a2,(Stp.drew s).trans s T,?_⟩;refine .sl _ i.size 0 _ w.heap.size (gc*i.size) gc ?_ zOm zOm;show (G.blk++[_])[mu.length]?=_;rw[<-s.len];simp
 rcases h with ⟨J,rfl,aj,a7,b9,bb⟩|⟨b,len,cells,rfl,hc,aq,a7,hk⟩
 .obtain ⟨a0,af,p,rfl,a3,_,U,ab,a5⟩:=V9 (P:=P) s rs (ys:=J) rfl aj
  have ar:af=J.length:=by
   obtain⟨a1,c1,h1,_,h2,_⟩:=rs.lst_inv;cases h1;exact h2 rfl
  subst ar;by_cases hy:ys=[]
  .subst hy
   refine⟨_,_,b9 rfl,_,_,_,?_,Stp.refl s,rs⟩;have hn:o=[]:=Qd (zUs ai);subst hn;exact gh (ty:=ty) hu ah hi hf zSp (fun b hb=>rfl) (fun _=>rfl)
  .have bo:0<ys.length:=List.length_pos_iff.2 hy
   have au:=yQ aj.ok;have:=grow a0 J.length J.length p J.flatten mu G au.symm (by rw[a3,au]) (fun k y hk=>⟨aj.one y (zb hk),U k y hk⟩) a5 zOm a7;rw[<-List.flatten_append]at this;exact⟨_,_,bb hy,this⟩
 .refine ⟨_,_,hk,?_⟩
  have ak:qE mu (.sl b i.size 0 len)=some ((qu len).map fun j=>(cells.drop (j*i.size)).take i.size):=by
   simp only[qE,hc,Nat.zero_add];rw[if_pos aq]
  have bc:=rs;cases rs with
  |sl _ _ _ _ C ae a8 hb ht hl =>
  obtain⟨arr,e',h1,h2,h3,h4⟩:=s.arr b cells C ae hc hb;have av:zo i.size ((qu len).map fun j=>(cells.drop (j*i.size)).take i.size):=by
   intro r hr;obtain⟨j,hj,rfl⟩:=qn.1 hr;have be:j<len:=zUs hj;have:(j+1)*i.size<=len*i.size:=Nat.mul_le_mul_right _ be;rw[Nat.succ_mul]at this;refine⟨zSo,?_⟩;rw[zF];intro c bg;obtain⟨k,hk⟩:=List.mem_iff_getElem?.1 (List.mem_of_mem_drop (jI bg));exact(h4 k c hk).1
  have bh:=W5 i.size len cells aq;obtain⟨a0,af,p,hv,a3,_,U,ab,a5⟩:=V9 (P:=P) s bc ak av;rw[bh]at U;simp only[zT,List.length_range]at hv a3 ab a5;by_cases a4:len+ys.length<=a8
  ·
   have bq:len*i.size+o.length<=arr.size:=by
    have h5:=Nat.mul_le_mul_right i.size a4;rw[Nat.add_mul]at h5;rw[ai,h2];omega
   have a2:=run_storeCells_at P C (len*i.size) e' o 0 arr w h1 zOm an;simp only[Nat.add_zero]at a2;have bi:=gh (ty:=ty) (w':=w.setRow C (arr.toList.take (len*i.size)++o++arr.toList.drop (len*i.size+o.length)).toArray) hu ah hi hf a4 (base:=some ⟨C,0,none⟩)
    (fun b' bj=>by
     cases bj;have:(⟨C,0,none⟩:Addr).add (len*i.size)=⟨C,len*i.size,none⟩:=by unfold Addr.add;split<;>simp_all
     rw[this];exact a2) zSp
   have st1:=sW (w':=w.setRow C (arr.toList.take (len*i.size)++o++arr.toList.drop (len*i.size+o.length)).toArray) s b (.arr cells) (.arr (cells.take (len*i.size)++ys.flatten)) C ae
    (.cells (arr.toList.take (len*i.size)++o++arr.toList.drop (len*i.size+o.length)).toArray e' (0,0)) hc zSp zSp hb zSp (setRow_heap w C arr _ e' _ h1) (fun k hk=>setRow_other w C k _ hk) rfl rfl rfl
    (by
     have ag:(cells.take (len*i.size)).length=len*i.size:=zSo;have bk:(arr.toList.take (len*i.size)).length=len*i.size:=zSo;refine⟨_,e',rfl,zSo,by simp only[zd,ag,b4];omega,fun j y hj=>?_⟩;rw[W4,zS,zB];by_cases ad:j<len*i.size
     .rw [zGa,vu,if_pos ad]at hj
      rw[zGa,vu,if_pos ad,Ym,<-zc];exact h4 j y hj
     .rw [zM zOm,ag]at hj
      rw[zM zOm,bk];have:j-len*i.size<ys.flatten.length:=(qk.1 hj).1;rw[zGa,<-zS];exact⟨aa.one y (zb hj),a6 _ y hj⟩)
   have a9:b<mu.length:=(qk.1 hc).1;have st2:=Stp.move st1.sim b (.arr (cells.take (len*i.size)++ys.flatten)) C ae (zP1 a9) zSp hb;rw[List.set_set]at st2;refine⟨_,_,_,bi,st1.trans s st2,?_⟩;refine .sl _ i.size 0 _ C ae a8 ?_ ht a4;show (G.blk++[_])[mu.length]?=_;rw[<-s.len];simp
  .obtain ⟨v,w',G',k1,k2,k3⟩:=grow (some ⟨C,0,none⟩) len a8 p (cells.take (len*i.size)) mu G zSo (by rw[a3];simp;omega) (fun k y hk=>by
    refine⟨?_,U k y hk⟩;rw[vu]at hk;split at hk
    .exact (h4 k y hk).1
    .exact absurd hk zSp) a5 zOm a7
   have st2:=sX k2.sim b;have a9:b<mu.length:=(qk.1 hc).1;rw[List.set_append_left _ _ a9]at st2;exact⟨v,w',G',k1,k2.trans s st2,k3⟩
end
end Go.Ev
namespace Go.Ev
open Go Go.RowKit
section
variable {es:List (AV×AV)}{xs:List (List AV)}{cs:List AV}
structure St where
 tm:Nat->AV
 mu:Mu
def St.put(st:St)(d:Option Tmp)(v:AV)(m:Mu):St:=
 ⟨match d with|some d=>fun i=>if i=d then v else st.tm i|none=>st.tm,m⟩
def St.ev(st:St):qg->AV
 | .tmp t=>st.tm t
 | .const v=>ofV v
 | .global _ => .any
 | .func f => .fn (.func f) [] []
structure Pol where
 mt:List Nat:=[]
inductive AEnd where
 |ret (v:AV)
 |pan (v:AV)
def ya(G:Gh)(h:Array Obj)(args:List AV)(g:Array qf):Prop:=
 g.size=args.length/\∀(k:Nat) x,args[k]?=some x->VRel G h x (g.getD k qU)
def jh(P:qb)(f:qx):Prop:=∀(args:Array qf)(w:qd),(callFunc f args).run P w = .ok (.enter f args) w
def qD(P:qb)(f:qx)(args:List AV)(mu:Mu)(R:AEnd->Mu->Prop):Prop:=jh P f /\
 ∀(G:Gh)(w:qd)(o:Array qf),Sim G mu w.heap->ya G w.heap args o ->
  Calls P f o w fun e i=>∃ l j,Stp G mu w l j i /\
   ((∃ r v,R (.ret r) j/\e = .returned v/\VRel l i.heap r v)\/(∃ r v,R (.pan r) j/\e = .panicked [{ v,recovered:=false }]/\VRel l i.heap r v))
structure Yq (B:Nat) (w w':qd):Prop extends Below B w w' where
 drawn:w.drawn<=w'.drawn
def qi(P:qb)(f:qx)(args:List AV)(r:AV):Prop:=jh P f /\
 ∀(i:Nat->Prop)(w:qd)(l:Array qf),Sim ⟨i,[]⟩ [] w.heap->ya ⟨i,[]⟩ w.heap args l ->
  Calls P f l w fun e j=>∃ g v,e = .returned v/\(∀ b,i b->g b)/\(∀ b,g b->b<j.heap.size/\(i b\/w.heap.size<=b))/\Yq w.heap.size w j/\VRel ⟨g,[]⟩ j.heap r v
def qg9(P:qb)(f:qx)(args:List AV)(r:AV):Prop:=jh P f /\
 ∀(g:Nat->Prop)(w:qd)(j:Array qf),Sim ⟨g,[]⟩ [] w.heap->ya ⟨g,[]⟩ w.heap args j ->
  Calls P f j w fun e i=>∃ l v,e = .returned v/\(∀ b,l b->w.heap.size<=b/\b<i.heap.size)/\Yq w.heap.size w i/\VRel ⟨l,[]⟩ i.heap r v
def HF(x:AV):Prop:=∀(G:Gh)(h:Array Obj)(v:qf),VRel G h x v->VRel ⟨G.imm,[]⟩ h x v
def FL(x:AV):Prop:=∀(G g:Gh)(h i:Array Obj)(v:qf),VRel G h x v->VRel g i x v
theorem HF.sc(v):HF (.sc v):=fun _ _ u r=>by cases r with|sc _ g=>exact .sc _ g
theorem HF.agg(h:∀ c,c∈cs->HF c):HF (.agg cs):=fun G i u r=>by
 cases r with
 |agg _ o j l=>exact .agg _ _ j (fun k x g=>h x (zb g) G i _ (l k x g))
theorem HF.tup(h:∀ c,c∈cs->HF c):HF (.tup cs):=fun G i u r=>by
 cases r with
 |tup _ o j l=>exact .tup _ _ j (fun k x g=>h x (zb g) G i _ (l k x g))
theorem HF.ip(h:∀ c,c∈cs->HF c):HF (.ip cs):=fun G i u r=>by
 cases r with
 |ip _ a arr e j rd l o p t C=>exact .ip _ a arr e j rd l o p t (fun k x g=>h x (zb g) G i _ (C k x g))
theorem HF.ifc{t x}(h:HF x):HF (.ifc t x):=fun G g u r=>by
 cases r with
 |ifc _ _ v i=>exact .ifc _ _ _ (h G g v i)
theorem HF.lst{full}(h:∀ r,r∈xs->∀ c,c∈r->HF c):HF (.lst full xs):=fun G l u r=>by
 cases r with
 |nil=>exact .nil _
 |emp _ a cap i=>exact .emp _ a cap i
 |lst _ _ g a cap o e p rd t C I i J P R T =>
  refine .lst _ _ g a cap o e p rd t C I i J P R (fun k x j=>?_);obtain⟨row,U,h2⟩:=pP.1 (zb j);exact h row U x h2 G l _ (T k x j)
theorem HF.fn{f first caps}(j:∀ c,c∈first->HF c)(l:∀ c,c∈caps->HF c):HF (.fn f first caps):=fun G i u r=>by
 cases r with
 |fn _ _ _ o p t C I J=>exact .fn _ _ _ o p t C (fun k x g=>j x (zb g) G i _ (I k x g)) (fun k x g=>l x (zb g) G i _ (J k x g))
theorem HF.im(h:∀ p,p∈es->HF p.1/\HF p.2):HF (.im es):=fun G j u r=>by
 cases r with
 |im _ i ce clock l o t C I J=>exact .im _ i ce clock l o t (fun k x g=>(h x (zb g)).1 G j _ (C k x g)) (fun k x g=>(h x (zb g)).2 G j _ (I k x g)) J
theorem HF.ims(h:∀ p,p∈es->HF p.1/\HF p.2):HF (.ims es):=fun G C u r=>by
 cases r with
 |ims _ i I J _ g P r =>
  refine .ims _ i I J _ g P (HF.im (fun p l=>?_) G C _ r);obtain⟨j,o⟩:=List.mem_iff_getElem?.1 l;have t:j<es.length:=by rw[<-g.1];exact(qk.1 o).1
  rw[g.back t]at o;exact h p (zb o)
theorem FL.sc(v):FL (.sc v):=fun _ _ _ _ u r=>by cases r with|sc _ g=>exact .sc _ g
theorem FL.agg(h:∀ c,c∈cs->FL c):FL (.agg cs):=fun G j l g u r=>by
 cases r with
 |agg _ t o p=>exact .agg _ _ o (fun k x i=>h x (zb i) G j l g _ (p k x i))
theorem FL.tup(h:∀ c,c∈cs->FL c):FL (.tup cs):=fun G j l g u r=>by
 cases r with
 |tup _ t o p=>exact .tup _ _ o (fun k x i=>h x (zb i) G j l g _ (p k x i))
theorem FL.ifc{t x}(h:FL x):FL (.ifc t x):=fun G i j g u r=>by
 cases r with
 |ifc _ _ v l=>exact .ifc _ _ _ (h G i j g v l)
inductive Rd (mu:Mu):AV->AV->Prop
 |hf (x:AV) (h:HF x):Rd mu x x
 |sl (b sz off len:Nat) (cells:List AV) (ys:List (List AV)) (hc:mu[b]?=some (.arr cells)) (hl:off+len*sz<=cells.length) (hn:ys.length=len) (hz:yR sz ys)
   (h:∀(k:Nat) x y,cells[off+k]?=some x->ys.flatten[k]?=some y->Rd mu x y):Rd mu (.sl b sz off len) (.lst false ys)
 |ptr (b off:Nat) (cells ys:List AV) (hc:mu[b]?=some (.arr cells)) (hn:off+ys.length<=cells.length) (h:∀(k:Nat) x y,cells[off+k]?=some x->ys[k]?=some y->Rd mu x y):Rd mu (.ptr b off) (.ip ys)
 |mp (b:Nat) (es fs:List (AV×AV)) (hc:mu[b]?=some (.mp es)) (hn:fs.length=es.length) (hk:∀(k:Nat) x y,es[k]?=some x->fs[k]?=some y->Rd mu x.1 y.1) (hv:∀(k:Nat) x y,es[k]?=some x->fs[k]?=some y->Rd mu x.2 y.2):Rd mu (.mp b) (.im fs)
 |md (b:Nat) (es fs:List (AV×AV)) (hc:mu[b]?=some (.md es)) (hn:fs.length=es.length) (hk:∀(k:Nat) x y,es[k]?=some x->fs[k]?=some y->Rd mu x.1 y.1) (hv:∀(k:Nat) x y,es[k]?=some x->fs[k]?=some y->Rd mu x.2 y.2):Rd mu (.mp b) (.im fs)
 |agg (xs ys:List AV) (hn:ys.length=xs.length) (h:∀(k:Nat) x y,xs[k]?=some x->ys[k]?=some y->Rd mu x y):Rd mu (.agg xs) (.agg ys)
 |tup (xs ys:List AV) (hn:ys.length=xs.length) (h:∀(k:Nat) x y,xs[k]?=some x->ys[k]?=some y->Rd mu x y):Rd mu (.tup xs) (.tup ys)
 |lst (full:Bool) (xs ys:List (List AV)) (hn:ys.length=xs.length) (hz:∀(k:Nat) x y,xs[k]?=some x->ys[k]?=some y->x.length=y.length) (h:∀(k:Nat) x y,xs.flatten[k]?=some x->ys.flatten[k]?=some y->Rd mu x y):Rd mu (.lst full xs) (.lst full ys)
 |fn (f:Fn) (first first' caps caps':List AV) (hn:first'.length=first.length) (hm:caps'.length=caps.length) (h:∀(k:Nat) x y,first[k]?=some x->first'[k]?=some y->Rd mu x y) (h':∀(k:Nat) x y,caps[k]?=some x->caps'[k]?=some y->Rd mu x y) :
   Rd mu (.fn f first caps) (.fn f first' caps')
 |ifc (t:qc) (x y:AV) (h:Rd mu x y):Rd mu (.ifc t x) (.ifc t y)
 |wk (x:AV) (full:Bool) (ys:List (List AV)) (h:Rd mu x (.lst full ys)):Rd mu x (.lst false ys)
 |ims (x:AV) (es es':List (AV×AV)) (σ τ:Nat->Nat) (hp:PIx σ τ es es') (hd:(es.map Prod.fst).Nodup) (h:Rd mu x (.im es')):Rd mu x (.ims es)
theorem Rd.zsc{mu}(v):Rd mu (.sc v) (.sc v):=.hf _ (HF.sc _)
theorem gy{ys:List (List AV)}(g:ys.length=xs.length)(i:∀(k:Nat) x y,xs[k]?=some x->ys[k]?=some y->x.length=y.length):xs.flatten.length=ys.flatten.length:=by
 induction xs generalizing ys with
 |nil=>grind
 |cons x xs j =>
  cases ys with
  |nil=>simp at g
  |cons y ys =>
   have p:=i 0 x y rfl rfl;have:=j (ys:=ys) (zUs g) (fun k a b l o=>i (k+1) a b (zUs l) (zUs o))
   grind
theorem Rd.sound{G mu h}(s:Sim G mu h){x y}(r:Rd mu x y):∀{v},VRel G h x v->VRel ⟨fun b=>G.imm b\/Live G mu b,[]⟩ h y v:=by
 have a4:Gh.le ⟨G.imm,[]⟩ ⟨fun b=>G.imm b\/Live G mu b,[]⟩:=⟨fun b h => .inl h,fun _ _ h=>h⟩;induction r with
 |hf x P=>intro v r;exact(P G h v r).le a4
 |sl b g off len cells i C hl T hz j ih =>
  intro v r;subst T;cases r with
  |sl _ _ _ _ l o cap I ht a3 =>
  obtain⟨arr,e,h1,h2,h3,h4⟩:=s.arr b cells l o C I;by_cases h0:i=[]
  .subst h0;exact .emp false _ cap zSp
  .have a5:=yQ hz
   have p:∀(k:Nat) y,i.flatten[k]?=some y->∃ x,cells[off+k]?=some x:=by
    grind
   refine .lst false i g ⟨l,off,none⟩ cap arr e (0,0) (fun k=>arr.getD (off+k) qU) h1 rfl a3 zSp (.inr ⟨b,_,o,C,zSp,I⟩) hz ?_ ?_
   .intro k y R
    obtain⟨x,P⟩:=p k y R;have:off+k<arr.size:=by grind
    simp[zc,this]
   grind
 |ptr b off cells i C T j ih =>
  intro v r;cases r with
  |ptr _ _ l o I =>
  obtain⟨arr,e,h1,h2,h3,h4⟩:=s.arr b cells l o C I;have p:∀(k:Nat) y,i[k]?=some y->∃ x,cells[off+k]?=some x:=by
   grind
  refine .ip i ⟨l,off,none⟩ arr e (0,0) (fun k=>arr.getD (off+k) qU) h1 rfl (.inr ⟨b,_,o,C,zSp,I⟩) ?_ ?_
  .intro k y R
   obtain⟨x,P⟩:=p k y R;have:off+k<arr.size:=by grind
   simp[zc,this]
  grind
 |mp b U fs C T hk hv a6 a7 =>
  intro v r;cases r with
  |mp _ l o I =>
  obtain⟨ce,cl,h1,h2,h3,h4,h5,h6⟩:=s.mp b U l o C I;have p:∀(k:Nat) y,fs[k]?=some y->∃ x,U[k]?=some x:=by
   grind
  refine .im fs l ce cl h1 (.inr ⟨b,_,o,C,zSp,I⟩) zOm ?_ ?_ (.of h5 h6)
  .grind
  grind
 |md b U fs C T hk hv a6 a7 =>
  intro v r;cases r with
  |mp _ l o I =>
  obtain⟨ce,cl,h1,h2,h3,h4,h5⟩:=s.md b U l o C I;have p:∀(k:Nat) y,fs[k]?=some y->∃ x,U[k]?=some x:=by
   grind
  refine .im fs l ce cl h1 (.inr ⟨b,_,o,C,zSp,I⟩) zOm ?_ ?_ h5
  .grind
  grind
 |agg J i T j ih =>
  intro v r;cases r with
  |agg _ vs hm hv =>
  refine .agg _ _ zOm (fun k y R=>?_);have hk:k<i.length:=(qk.1 R).1;have P:J[k]?=some (J[k]' zOm):=by grind
  grind
 |tup J i T j ih =>
  intro v r;cases r with
  |tup _ vs hm hv =>
  refine .tup _ _ zOm (fun k y R=>?_);have hk:k<i.length:=(qk.1 R).1;have P:J[k]?=some (J[k]' zOm):=by grind
  grind
 |lst full J i T hz j ih =>
  intro v r;have a5:=gy T hz;cases r with
  |nil=>cases i with
   |nil=>exact .nil _
   |cons=>simp at T
  |emp _ a cap C=>cases i with
   |nil=>exact .emp _ a cap C
   |cons=>simp at T
  |lst _ _ g a cap cs e fr rd I hs hl C hi a8 hr hv =>
   rw[<-T];have p:∀(k:Nat) y,i.flatten[k]?=some y->∃ x,J.flatten[k]?=some x:=by
    grind
   refine .lst full i g a cap cs e fr rd I hs zOm (by rw[T];exact C) (.inl hi) ?_ ?_ ?_
   .intro r a9
    obtain⟨k,hk⟩:=List.mem_iff_getElem?.1 a9;have ae:k<i.length:=(qk.1 hk).1;have P:J[k]?=some (J[k]' zOm):=by simp[show k<J.length by omega]
    rw[<-hz k _ r P hk];exact a8 _ (zb P)
   .intro k y R
    obtain⟨x,P⟩:=p k y R;exact hr k x P
   grind
 |fn f first a1 a0 a2 T hm j aa ih ab =>
  intro v r;cases r with
  |fn _ _ _ vs ws af ag hv hw =>
  refine .fn f _ _ vs ws zOm zOm (fun k y R=>?_) (fun k y R=>?_)
  .have hk:k<a1.length:=(qk.1 R).1
   have P:first[k]?=some (first[k]' zOm):=by simp[show k<first.length by omega]
   grind
  .have hk:k<a2.length:=(qk.1 R).1
   have P:a0[k]?=some (a0[k]' zOm):=by simp[show k<a0.length by omega]
   exact ab k _ y P R (hw k _ P)
 |ifc t x y j ih =>
  intro v r;cases r with
  |ifc _ _ v hv=>exact .ifc t y v (ih hv)
 |wk x full i j ih =>
  intro v r;have:=ih r;cases this with
  |nil=>exact .nil _
  |emp _ a cap C=>exact .emp _ a cap zSp
  |lst _ _ g a cap cs e fr rd I hs hl C hi hz hr hv=>exact .lst _ _ g a cap cs e fr rd I hs hl zSp hi hz hr hv
 |ims x U ad σ τ hp hd j ih =>
  intro v r;exact .ims U ad σ τ v hp hd (ih r)
end
end Go.Ev
namespace Go.Ev
open Go Go.RowKit
section
variable {s x:AV}{K l:AV->Mu->Prop}{h:Array Obj}{i j:Array qc}{G:Gh}{mu:Mu}{P:qb}{w:qd}
def cutM(keep:Nat->Bool):Mu->Nat->Mu
 | [],_=>[]
 |c :: l,i=>(if keep i=true then c else .dead) :: cutM keep l (i+1)
theorem jL(keep):∀ mu i k,(cutM keep mu k)[i]?=(mu[i]?).map fun c=>if keep (k+i)=true then c else .dead
 | [],i,k=>by simp[cutM]
 |c :: l,0,k=>by simp[cutM]
 |c :: l,i+1,k=>by
  rw[cutM,v6,v6,jL keep l i (k+1)];have:k+1+i=k+(i+1):=zOm;rw[this]
theorem jT(keep):∀ mu k,(cutM keep mu k).length=mu.length
 | [],_=>rfl
 |c :: l,k=>by simp[cutM,jT keep l (k+1)]
theorem vA{keep i c}(h:(cutM keep mu 0)[i]?=some c)(j:c ≠ .dead):mu[i]?=some c/\keep i=true:=by
 rw[jL]at h;cases g:mu[i]? with
 |none=>grind
 |some l =>
  rw[g]at h;simp only[zq,Nat.zero_add,qv]at h;by_cases o:keep i=true
  .grind
  grind
theorem Live.cut{keep b}(h:Live G (cutM keep mu 0) b):Live G mu b:=by
 obtain⟨i,c,g,l,j,o⟩:=h;exact⟨i,c,g,(vA l j).1,j,o⟩
theorem Sim.cut(s:Sim G mu h)(keep):Sim G (cutM keep mu 0) h:=by
 refine⟨by rw[jT];exact s.len,s.imm,fun i c g l r o p=>s.obj i c g l (vA r o).1 o p,fun i c g l r o p=>s.live i c g l (vA r o).1 o p,?_,s.tab⟩;intro i j ci C b I J r o p t P R;exact s.inj i j ci C b I J (vA r p).1 (vA o t).1 p t P R
def frz(G:Gh)(give:Nat->Bool)(mu:Mu):Gh:=⟨fun b=>G.imm b\/Live G (cutM give mu 0) b,G.blk⟩
theorem Ua(s:Sim G mu h)(give):Sim (frz G give mu) (cutM (fun i=>!give i) mu 0) h:=by
 have J:G.le (frz G give mu):=⟨fun b C => .inl C,fun _ _ h=>h⟩;refine⟨by rw[jT];exact s.len,?_,?_,?_,?_,s.tab.mono (fun b h => .inl h) (fun _ _=>rfl)⟩
 .rintro b (C|⟨i,c,g,p,l,r⟩)
  .exact s.imm b C
  .obtain ⟨o,P,_⟩:=s.obj i c b g (vA p l).1 l r
   exact(yK.1 P).1
 .intro i c t g p l r
  obtain⟨o,P,U⟩:=s.obj i c t g (vA p l).1 l r;exact⟨o,P,U.mono J (Ext.refl _ _)⟩
 .rintro i c t g p l r (C|⟨j,c',I,g1,R,g3⟩)
  .exact s.live i c t g (vA p l).1 l r C
  .have e:=s.inj i j c c' t g I (vA p l).1 (vA g1 R).1 l R r g3
   subst e;have a1:=(vA p l).2;have a2:=(vA g1 R).2
   grind
 .intro i j ci cj b ti tj p l r T h5 h6
  exact s.inj i j ci cj b ti tj (vA p r).1 (vA l T).1 r T h5 h6
theorem Zm(s:Sim G mu w.heap)(give):Stp G mu w (frz G give mu) (cutM (fun i=>!give i) mu 0) w:=by
 refine⟨⟨fun b g => .inl g,fun _ _ h=>h⟩,Ua s give,fun _ _ _=>rfl,qr _,?_,?_,rfl,rfl,rfl,qr _⟩
 .rintro b ⟨i,c,j,o,l,p⟩
  exact .inl ⟨i,c,j,(vA o l).1,l,p⟩
 .rintro b (g|g)
  .exact .inl g
  .exact .inr (.inl g.cut)
theorem W6(s:Sim G mu h)(give){x y v}(r:Rd (cutM give mu 0) x y)(g:VRel G h x v):VRel (frz G give mu) h y v:=
 VRel.mono (G:=⟨fun b=>G.imm b\/Live G (cutM give mu 0) b,[]⟩) (G':=frz G give mu) ⟨fun _ j=>j,fun i x l=>by simp at l⟩ (Ext.refl _ _) (r.sound (s.cut give) g)
theorem vd.det(h:vd P mu j s x K):∃ v m,vd P mu j s x (fun a b=>a=v/\b=m)/\K v m:=by
 obtain⟨t,C,e,g,I,i,R,T,U,a4,a5,a6,a7,a8,h⟩:=h;rcases h with ⟨J,l,o,p,b4,b5⟩|⟨b,len,cells,l,o,p,b4,b5⟩
 .by_cases r:i=[]
  .exact ⟨_,_,⟨t,C,e,g,I,i,R,T,U,a4,a5,a6,a7,a8,.inl ⟨J,l,o,p,fun _=>⟨rfl,rfl⟩,fun h=>absurd r h⟩⟩,b4 r⟩
  .exact ⟨_,_,⟨t,C,e,g,I,i,R,T,U,a4,a5,a6,a7,a8,.inl ⟨J,l,o,p,fun h=>absurd h r,fun _=>⟨rfl,rfl⟩⟩⟩,b5 r⟩
 .exact ⟨_,_,⟨t,C,e,g,I,i,R,T,U,a4,a5,a6,a7,a8,.inr ⟨b,len,cells,l,o,p,b4,rfl,rfl⟩⟩,b5⟩
theorem vd.mono(h:vd P mu j s x K)(o:∀ v m,K v m->l v m):vd P mu j s x l:=by
 obtain⟨t,T,e,g,U,i,a1,a2,a3,a4,a5,a6,a7,a8,h⟩:=h;refine⟨t,T,e,g,U,i,a1,a2,a3,a4,a5,a6,a7,a8,?_⟩;rcases h with ⟨J,p,r,C,I,R⟩|⟨b,len,cells,p,r,C,I,R⟩
 .exact .inl ⟨J,p,r,C,fun h=>o _ _ (I h),fun h=>o _ _ (R h)⟩
 grind
def gD(P:qb)(mu:Mu)(l:Array qc)(s x:AV)(K:AV->Mu->Prop):Prop:=
 ∃ t o e g p j n J,l=#[t,o]/\qJ P t=some (e,g,p)/\P.underlying o=some (.int .i64)/\qB P e=some j/\j.cells.length=g/\j.cells.all AV.one=true/\g≠0/\p<=16384/\x = .sc (.int .i64 (Int.ofNat n))/\0<n/\s = .lst true J/\zo g J/\J.length+n<=4294967296 /\
  K (.sl mu.length g 0 (J.length+n)) (mu++[.arr (J.flatten++(qu (n*g)).map fun i=>j.cells.getD (i % g) .any)])
theorem qhA(s:Sim G mu w.heap){I ty sv xv vs vx}(rs:VRel G w.heap sv vs)(rx:VRel G w.heap xv vx){K}
  (h:gD P mu I sv xv K):∃ z mu',K z mu'/\Good P G mu w (Builtin.append_ I ty #[vs,vx]) z mu':=by
 obtain⟨t,tn,e,g,bt,zv,n,J,rfl,ab,ad,ae,R,af,an,U,rfl,hn,rfl,C,ag,hk⟩:=h;obtain⟨i,hu,hi,rfl,rfl⟩:=ux ab;obtain⟨i',z,ah,hz,rfl⟩:=V8 ae;obtain rfl:i=i':=Option.some.inj (hi.symm.trans ah);obtain⟨l,ai⟩:=JE (G:=G) (h:=w.heap) z (fun c hc=>by grind);rw[R]at l;obtain⟨a0,a2,o,rfl,a3,_,a4,aq,a5⟩:=V9 (P:=P) s rs (ys:=J) rfl C;have a6:a2=J.length:=by
  obtain⟨a1,c1,h1,_,h2,_⟩:=rs.lst_inv;cases h1;exact h2 rfl
 subst a6;cases rx with
 |sc _ _ =>
 have a7:n*i.bytes<=281474976710656:=zQ (Nat.mul_le_mul (show n<=4294967296 by omega) U) zOm;have r:=Lib.run_append_grow_zeros w t tn ty e i z .i64 .i64 hu ad hi hz a0 J.length J.length o a5 n hn zOm zOm zOm a7 (gq zOm ag U);have aj:=gk w (J.length+n) J.length e;generalize grownCap w (J.length+n) J.length e=gc at r aj;have ak:=yQ C.ok;have ar:(y9 z.cells n).size=n*i.size:=by simp[y9,l]
 have au:(y9 z.cells (gc-(J.length+n))).size=(gc-(J.length+n))*i.size:=by simp[y9,l]
 have a8:∀ j,j<n*i.size->(y9 z.cells n).getD j qU=z.cells.getD (j % i.size) qU:=by
  intro j p;have a9:0<i.size:=zOm;simp_all[Nat.mod_lt,y9,zc,getElem!_pos,ZM]
 have sd:Sim G mu w.drew.heap:=s;have T:=sR sd (.cells (o.toArray++y9 z.cells n++y9 z.cells (gc-(J.length+n))) e) (.arr (J.flatten++(qu (n*i.size)).map fun j=>(ofV z).cells.getD (j % i.size) .any)) (gc*i.size) (by
  intro _;have ao:J.length*i.size+n*i.size+(gc-(J.length+n))*i.size=gc*i.size:=by
   rw[<-Nat.add_mul,<-Nat.add_mul];congr 1;omega
  refine⟨_,e,rfl,by grind,by grind,fun j y p=>?_⟩;by_cases al:j<J.flatten.length
  .rw [qN al]at p
   refine⟨C.one y (zb p),?_⟩;have:=a4 j y p;rw[zc,Array.append_assoc,Array.getElem?_append_left zSo];rw[zS]at this;show VRel G w.heap y _
   grind
  .rw [zM zOm,zn]at p
   have aa:j-J.flatten.length<n*i.size:=by
    cases hq:(qu (n*i.size))[j-J.flatten.length]? with
    |none=>rw[hq]at p;cases p
    |some q=>have:=(qk.1 hq).1;simpa using this
   rw[List.getElem?_range aa]at p;have a9:0<i.size:=zOm;have hm:(j-J.flatten.length) % i.size<(ofV z).cells.length:=by rw[R];exact Nat.mod_lt _ a9
   simp only[zq,qv]at p;rw[zS,qA hm]at p;subst p;refine⟨by simpa using zF.1 af _ (List.getElem_mem hm),?_⟩;have e1:(o.toArray++y9 z.cells n++y9 z.cells (gc-(J.length+n))).getD j qU=(y9 z.cells n).getD (j-J.flatten.length) qU:=by
    rw[zc,zc,Array.append_assoc,Array.getElem?_append_right zSo,Array.getElem?_append_left (by simp[a3];omega)];simp[a3,ak]
   rw[e1,a8 _ aa];exact ai _ _ (qA hm))
 refine⟨_,_,hk,_,_,_,r,(Stp.drew s).trans s T,?_⟩;refine .sl _ i.size 0 _ w.heap.size (gc*i.size) gc ?_ zOm zOm;show (G.blk++[_])[mu.length]?=_;rw[<-s.len];simp
def qz(P:qb)(mu:Mu)(g:Array qc)(s x:AV)(K:AV->Mu->Prop):Prop:=
 vd P mu g s x K\/((∃ give j,Rd (cutM give mu 0) x j/\vd P (cutM (fun i=>!give i) mu 0) g s j K)\/gD P mu g s x K)
theorem qz.det(h:qz P mu i s x K):∃ v m,qz P mu i s x (fun a b=>a=v/\b=m)/\K v m:=by
 rcases h with h|⟨give,j,l,o⟩|⟨t,p,e,r,C,I,n,J,R,T,U,a4,a5,a6,a7,a8,a9,b1,b2,b3,b4,k⟩
 .obtain ⟨v,m,g,k⟩:=h.det;exact⟨v,m,.inl g,k⟩
 .obtain ⟨v,m,g,k⟩:=o.det;exact⟨v,m,.inr (.inl ⟨give,j,l,g⟩),k⟩
 .exact ⟨_,_,.inr (.inr ⟨t,p,e,r,C,I,n,J,R,T,U,a4,a5,a6,a7,a8,a9,b1,b2,b3,b4,rfl,rfl⟩),k⟩
theorem qz.mono(h:qz P mu i s x K)(j:∀ v m,K v m->l v m):qz P mu i s x l:=by
 rcases h with h|⟨give,o,p,r⟩|⟨t,C,e,g,I,R,n,J,T,U,a3,a4,a5,a6,a7,a8,a9,b1,b2,b3,b4,k⟩
 .exact .inl (h.mono j)
 .exact .inr (.inl ⟨give,o,p,r.mono j⟩)
 .exact .inr (.inr ⟨t,C,e,g,I,R,n,J,T,U,a3,a4,a5,a6,a7,a8,a9,b1,b2,b3,b4,j _ _ k⟩)
theorem qhB(s:Sim G mu w.heap){g ty l o p r}(i:VRel G w.heap l p)(j:VRel G w.heap o r){K}
  (h:qz P mu g l o K):∃ z mu',K z mu'/\Good P G mu w (Builtin.append_ g ty #[p,r]) z mu':=by
 rcases h with h|⟨give,x',t,C⟩|h
 .exact gw s i j h
 .obtain ⟨z,mu',I,v,J,R,g1,T,U⟩:=gw (ty:=ty) (Ua s give) (i.mono (Zm s give).le (Ext.refl _ _)) (W6 s give t j) C
  exact⟨z,mu',I,v,J,R,g1,(Zm s give).trans s T,U⟩
 .exact qhA s i j h
inductive Gv (mu:Mu) (give:Nat->Bool):AV->AV->Prop where
 |same (x:AV):Gv mu give x x
 |rd (x y:AV) (h:Rd (cutM give mu 0) x y):Gv mu give x y
 |fn (f:Fn) (first first' caps caps':List AV) (hn:first'.length=first.length) (hm:caps'.length=caps.length) (h:∀(k:Nat) x y,first[k]?=some x->first'[k]?=some y->Gv mu give x y)
   (h':∀(k:Nat) x y,caps[k]?=some x->caps'[k]?=some y->Gv mu give x y):Gv mu give (.fn f first caps) (.fn f first' caps')
theorem Gv.sound(s:Sim G mu h){give x y}(r:Gv mu give x y):∀{v},VRel G h x v->VRel (frz G give mu) h y v:=by
 have o:G.le (frz G give mu):=⟨fun b t => .inl t,fun _ _ h=>h⟩;induction r with
 |same x=>intro v l;exact l.mono o (Ext.refl _ _)
 |rd x y r=>grind [W6]
 |fn f first g i j hn hm hr C ih I =>
  intro v l;cases l with
  |fn _ _ _ J P R T l hw =>
  refine .fn f _ _ J P zOm zOm (fun k y p=>?_) (fun k y p=>?_)
  .have U:k<g.length:=(qk.1 p).1
   have hx:first[k]?=some (first[k]' zOm):=qA _
   grind
  .have U:k<j.length:=(qk.1 p).1
   have hx:i[k]?=some (i[k]' zOm):=qA _
   grind
end
end Go.Ev
namespace Go.Ev
open Go Go.RowKit
section
variable {x:AV}{h:Array Obj}{G:Gh}{P:qb}{u:qf}{w:qd}
theorem JI{e q cs i v}(g:P.underlying e=some (.int q))(h:cs[i]?=some v):(part e cs i).run P w = .ok v w:=by
 simp_all[isAgg,run_underlying,part]
theorem JL{xs ys b}(h:aEqs (x :: xs) ys=some b):∃ k a b' g,x = .sc (.int k a)/\ys = .sc (.int k b') :: g/\(((a == b')=true/\aEqs xs g=some b)\/((a == b')=false/\b=false)):=by
 cases x with
 |sc v =>
  cases v with
  |int k a =>
   cases ys with
   |nil=>simp[aEqs]at h
   |cons y ys =>
    cases y with
    |sc u =>
     cases u with
     |int j b' =>
      by_cases l:k=j
      .subst l
       cases i:(a == b') with
       |true=>exact⟨k,a,b',ys,rfl,rfl,.inl ⟨i,by grind [aEqs]⟩⟩
       |false=>exact⟨k,a,b',ys,rfl,rfl,.inr ⟨i,by grind [aEqs]⟩⟩
      grind [aEqs]
     |_=>simp[aEqs]at h
    |_=>simp[aEqs]at h
  |_=>simp[aEqs]at h
 |_=>simp[aEqs]at h
theorem qhC(d){e q}(p:P.underlying e=some (.int q))(C I):∀ xs ys i b,aEqs xs ys=some b ->
  (∀(k) x,xs[k]?=some x->∃ v,C[i+k]?=some v/\VRel G w.heap x v)->(∀(k) x,ys[k]?=some x->∃ v,I[i+k]?=some v/\VRel G w.heap x v) ->
  (forIn (m:=Sem) (List.range' i xs.length) ((none:Option Bool),()) fun i T=>do
   let a <-part e C i
   let b <-part e I i
   let c <-Op.equalIn (d+1) e a b
   if (!c)=true then pure (ForInStep.done (some false,())) else pure (ForInStep.yield (none,()))).run P w = .ok (if b then (none,()) else (some false,())) w:=by
 intro xs;induction xs with
 |nil =>
  intro ys i b h _ _;cases ys with
  |nil=>simp_all[aEqs,qv]
  |cons=>simp[aEqs]at h
 |cons x xs U =>
  intro ys i b h J R;have h':=JL h;clear h;obtain⟨k,a,b',r,rfl,rfl,h⟩:=h';obtain⟨v,g,rv⟩:=J 0 _ rfl;obtain⟨u,l,ru⟩:=R 0 _ rfl;cases rv;cases ru;rw[Nat.add_zero]at g l;simp only[zG,List.range'_succ,List.forIn_cons,qS,JI p g,JI p l,qW,run_equalIn_int w d e k q a b' p];rcases h with ⟨o,h⟩|⟨o,rfl⟩
  .rw [o]
   simp only[Bool.not_true,Bool.false_eq_true,if_false,zN,qW];refine U r (i+1) b h (fun j x t=>?_) (fun j x t=>?_)
   .have:=J (j+1) x (zUs t)
    grind
   .have:=R (j+1) x (zUs t)
    grind
  simp_all
theorem Yr{xs:List AV}{g:Array qf}(i:g.size=xs.length)(j:∀(k) x,xs[k]?=some x->VRel G h x (g.getD k qU)) :
  ∀(k) x,xs[k]?=some x->∃ v,g[0+k]?=some v/\VRel G h x v:=by
 simp_all[qk,qU,zc]
theorem gE(d){t e n q}(l:P.underlying t=some (.array n e))(o:P.underlying e=some (.int q))(p:szOf P e=some 1)
  {xs ys} {g i} (r:xs.length=n) (C:VRel G w.heap (.agg xs) (.agg g)) (I:VRel G w.heap (.agg ys) (.agg i)) {b} (h:aEqs xs ys=some b) :
  (Op.equalIn (d+2) t (.agg g) (.agg i)).run P w = .ok b w:=by
 cases C with
 |agg _ _ J R =>
 cases I with
 |agg _ _ T U =>
 unfold Op.equalIn;simp only[qS,run_underlying l,qW,jK p,Nat.mul_one,Std.Legacy.Range.forIn_eq_forIn_range'];have j:(Std.Legacy.Range.size [:n])=xs.length:=by simp[Std.Legacy.Range.size,r]
 rw[j];have:=qhC (G:=G) d o g i xs ys 0 b h (Yr J R) (Yr T U);rw[this];cases b<;>simp
theorem qhD(d I J):∀ fs i xs ys b,Yn P fs i=true->xs.length=fs.length->aEqs xs ys=some b ->
  (∀(k) x,xs[k]?=some x->∃ v,I[i+k]?=some v/\VRel G w.heap x v)->(∀(k) x,ys[k]?=some x->∃ v,J[i+k]?=some v/\VRel G w.heap x v) ->
  (Op.eqFields (d+1) I J fs).run P w = .ok b w:=by
 intro fs;induction fs with
 |nil =>
  intro i xs ys b _ p h _ _;have:xs=[]:=Qd (zUs p);subst this;cases ys with
  |nil=>simp only[aEqs,qv]at h;subst h;rfl
  |cons=>simp[aEqs]at h
 |cons f fs U =>
  intro i xs ys b hf p h R T;cases xs with
  |nil=>simp at p
  |cons x xs =>
   simp only[Yn,qH,beq_iff_eq,bne_iff_ne,ne_eq]at hf;obtain⟨⟨⟨h1,h2⟩,h3⟩,h4⟩:=hf;have h':=JL h;clear h;obtain⟨k,a,b',r,rfl,rfl,h⟩:=h';obtain⟨v,g,rv⟩:=R 0 _ rfl;obtain⟨u,l,ru⟩:=T 0 _ rfl;cases rv;cases ru;rw[Nat.add_zero]at g l;obtain⟨q,t⟩:∃ q,P.underlying f.type=some (.int q):=by
    grind [pT,absurd]
   rw[Op.eqFields,if_pos h2];simp only[h1,qS,JI t g,JI t l,qW,run_equalIn_int w d f.type k q a b' t];rcases h with ⟨o,h⟩|⟨o,rfl⟩
   .rw [o]
    simp only[Bool.not_true,Bool.false_eq_true,if_false];refine U (i+1) xs r b h4 (zUs p) h (fun j x C=>?_) (fun j x C=>?_)
    .have:=R (j+1) x (zUs C)
     grind
    .have:=T (j+1) x (zUs C)
     grind
   simp_all
theorem qhE(d){t fs}(j:P.underlying t=some (.struct fs))(hf:Yn P fs.toList 0=true)(o:P.stoodInHeld t=false)
  {xs ys} {g i} (p:xs.length=fs.size) (r:VRel G w.heap (.agg xs) (.agg g)) (C:VRel G w.heap (.agg ys) (.agg i)) {b} (h:aEqs xs ys=some b) :
  (Op.equalIn (d+2) t (.agg g) (.agg i)).run P w = .ok b w:=by
 have l:P.fieldsOf t=fs:=by simp[Program.fieldsOf,j]
 rw[run_equalIn_agg w (d+1) t g i (by rw[l];exact j) o,l];cases r with
 |agg _ _ I J =>
 cases C with
 |agg _ _ R T =>
 exact qhD d g i fs.toList 0 xs ys b hf (zUs p) h (Yr I J) (Yr R T)
inductive KK where
 |now
 |arr (n:Nat)
def keyKind(P:qb)(g:qc):Option KK:=
 match P.underlying g with
 |some (.int _)|some .string|some .bool=>some .now
 |some (.array n e)=>match P.underlying e,szOf P e with
  |some (.int _),some 1=>some (.arr n)
  |_,_=>none
 |_=>none
@[go_sem] def jU(P:qb)(g:qc)(x y:AV):Option Bool:=
 match P.underlying g with
 |some (.int _)=>(match x,y with | .sc (.int k a),.sc (.int j b)=>if k=j then some (a == b) else none|_,_=>none)
 |some .string=>(match x,y with | .sc (.string a),.sc (.string b)=>some (a == b)|_,_=>none)
 |some .bool=>(match x,y with | .sc (.bool a),.sc (.bool b)=>some (a == b)|_,_=>none)
 |some (.array n e)=>(match P.underlying e,szOf P e with
  |some (.int _),some 1=>(match x,y with | .agg J,.agg i=>if J.length=n/\i.length=n then aEqs J i else none|_,_=>none)
  |_,_=>none)
 |_=>none
def zw(P:qb)(g:qc)(k:AV):List (AV×AV)->Nat->Option (Option Nat)
 | [],_=>some none
 |e :: U,i=>match jU P g k e.1 with
  |some true=>some (some i)
  |some false=>zw P g k U (i+1)
  |none=>none
@[go_sem] def Ys(q:IntKind):AV->Bool
 | .sc (.int k _)=>k == q
 |_=>false
@[go_sem] def ju(P:qb)(g:qc)(x:AV):Bool:=
 match P.underlying g with
 |some (.int q)=>Ys q x
 |some .string=>(match x with | .sc (.string _)=>true|_=>false)
 |some .bool=>(match x with | .sc (.bool _)=>true|_=>false)
 |some (.array n e)=>(match P.underlying e,szOf P e with
  |some (.int q),some 1=>(match x with | .agg J=>J.length == n&&J.all (Ys q)|_=>false)
  |_,_=>false)
 |_=>false
theorem qhF(m d){e q}(l:P.underlying e=some (.int q))(o:szOf P e=some 1)(j):∀ n i,i+n<=j.size ->
    (forIn (m := Sem) (List.range' i n) PUnit.unit fun i p => do
            let g <-Go.sizeOf e
            let x <-part e j (i*g)
            Instr.checkKey m (d+1) e x
            pure (ForInStep.yield PUnit.unit)).run P w = .ok PUnit.unit w:=by
  intro n;induction n with
  |zero=>intro i _;rfl
  |succ n C =>
    intro i h;have r:j[i]?=some (j[i]' zOm):=by grind
    have t:∀ v,(Instr.checkKey m (d+1) e v).run P w = .ok () w:=by
      simp_all[Instr.checkKey,run_underlying]
    simp only[List.range'_succ,List.forIn_cons,qS,jK o,qW,Nat.mul_one,JI l r,t,zN]
    grind
theorem JO{g v}(m)(r:VRel G w.heap x v)(h:ju P g x=true):(Instr.checkKey m 10000 g v).run P w = .ok () w:=by
 unfold ju at h;have now:∀ d,P.underlying g=some d->(∀ n e,d ≠ .array n e)->(∀ o,d ≠ .struct o)->(∀ p,d ≠ .interface p)->(Instr.checkKey m 10000 g v).run P w = .ok () w:=by
  intro d i t C I;show (Instr.checkKey m (9999+1) g v).run P w=_;unfold Instr.checkKey;simp only[qS,run_underlying i,qW];cases d<;>first|rfl | (exact absurd rfl (t _ _)) | (exact absurd rfl (C _)) | (exact absurd rfl (I _))
 split at h
 .grind
 .grind
 .grind
 .rename_i n e i
  split at h
  .rename_i R T
   split at h
   .rename_i J
    cases r with
    |agg _ l U hv =>
    have hl:J.length=n:=by
     grind
    show (Instr.checkKey m (9998+2) g (.agg l)).run P w=_;unfold Instr.checkKey;simp only[qS,run_underlying i,qW,Std.Legacy.Range.forIn_eq_forIn_range'];have j:(Std.Legacy.Range.size [:n])=n:=by simp[Std.Legacy.Range.size]
    rw[j,qhF m 9998 R T l n 0 zOm];simp
   grind
  grind
 grind
def jv(G:Gh)(h:Array Obj)(es:List (AV×AV))(ce:List zE):Prop:=ce.length=es.length/\∀(k:Nat) x,es[k]?=some x->∃ e,ce[k]?=some e/\VRel G h x.1 e.key/\VRel G h x.2 e.val
theorem gF{i y v b d}(j:P.underlying i=some d)(l:∀ n e,d ≠ .array n e)(o:VRel G h x u)(p:VRel G h y v)(g:jU P i x y=some b) :
  Instr.sameNow d u v=some b:=by
 unfold jU at g;rw[j]at g;cases d<;>simp only at g<;>first | (exact absurd g (by simp;done)) | (exact absurd rfl (l _ _))|skip
 all_goals
  split at g
  .cases o;cases p
   grind [Instr.sameNow,qv,absurd]
  grind
theorem qhG{t d}(C:P.underlying t=some d)(I:∀ n e,d ≠ .array n e)(J:VRel G h x u):∀ es ce i r,
  jv G h es ce->zw P t x es i=some r->Instr.findNow d u ce i=some (r.map fun j=>(j,(ce.getD (j-i) default).val))/\∀ j,r=some j->i<=j/\j<i+es.length:=by
 intro es;induction es with
 |nil =>
  intro ce i r g hf;have:ce=[]:=Qd g.1;subst this;simp only[zw,qv]at hf;subst hf;exact⟨rfl,zSp⟩
 |cons e es T =>
  intro ce i r g hf;cases ce with
  |nil=>have:=g.1;simp at this
  |cons c ce =>
   obtain⟨c',l,R,rv⟩:=g.2 0 e rfl;simp only[VT,qv]at l;subst l;simp only[zw]at hf;split at hf
   .rename_i o
    simp only[qv]at hf;subst hf;have:=gF C I J R o
    grind [Instr.findNow]
   .rename_i o
    have:=gF C I J R o;have p:jv G h es ce:=⟨by have:=g.1;grind,fun k y U=>g.2 (k+1) y (zUs U)⟩;obtain⟨h1,h2⟩:=T ce (i+1) r p hf;refine⟨?_,fun j hj=>?_⟩
    .simp only[Instr.findNow,this,h1]
     cases r with
     |none=>rfl
     |some j =>
      have:=h2 j rfl;simp only[zq];rw[show j-i=(j-(i+1))+1 by omega];simp
    grind
   grind
theorem qhH{o e n q}(R:P.underlying o=some (.array n e))(T:P.underlying e=some (.int q))(U:szOf P e=some 1){x u}(rx:VRel G w.heap x u) :
  ∀ es ce i r,jv G w.heap es ce->zw P o x es i=some r ->
   (Instr.findAsking o u ce i).run P w = .ok (r.map fun j=>(j,(ce.getD (j-i) default).val)) w/\∀ j,r=some j->i<=j/\j<i+es.length:=by
 intro es;induction es with
 |nil =>
  intro ce i r g hf;have:ce=[]:=Qd g.1;subst this;simp only[zw,qv]at hf;subst hf;exact⟨rfl,zSp⟩
 |cons y es ih =>
  intro ce i r g hf;cases ce with
  |nil=>have:=g.1;simp at this
  |cons c ce =>
   obtain⟨c',p,t,rv⟩:=g.2 0 y rfl;simp only[VT,qv]at p;subst p;simp only[zw]at hf;have heq:∀ b,jU P o x y.1=some b->(Op.equal o u c.key).run P w = .ok b w:=by
    intro b l;unfold jU at l;rw[R]at l;simp only[T,U]at l;split at l
    .rename_i J ys C
     split at l
     .rename_i hl
      rw[C]at t;generalize hq:c.key=ck at t;cases rx with
      |agg _ vs hn hv =>
      cases t with
      |agg _ ws hm hw =>
      exact gE (G:=G) 9998 R T U hl.1 (.agg _ _ hn hv) (.agg _ _ hm hw) l
     grind
    grind
   split at hf
   .rename_i hk
    simp only[qv]at hf;subst hf;simp_all[Instr.findAsking]
   .rename_i hk
    have I:jv G w.heap es ce:=⟨by have:=g.1;grind,fun k z hz=>g.2 (k+1) z (zUs hz)⟩;obtain⟨h1,h2⟩:=ih ce (i+1) r I hf;refine⟨?_,fun j hj=>?_⟩
    .simp only[Instr.findAsking,qS,heq _ hk,qW,Bool.false_eq_true,if_false,h1]
     cases r with
     |none=>rfl
     |some j =>
      have:=h2 j rfl;simp only[zq];rw[show j-i=(j-(i+1))+1 by omega];simp
    grind
   grind
theorem Zn{g}(p:VRel G w.heap x u)(l:ju P g x=true){es}{ce:Array zE}{r}(o:jv G w.heap es ce.toList)(hf:zw P g x es 0=some r) :
  (Instr.findKey g u ce.toList).run P w = .ok (r.map fun j=>(j,(ce.getD j default).val)) w/\∀ j,r=some j->j<es.length:=by
 have C:∀ j,ce.toList.getD j default=ce.getD j default:=by
  simp
 unfold ju at l;have now:∀ d,P.underlying g=some d->(∀ n e,d ≠ .array n e)->(Instr.findKey g u ce.toList).run P w = .ok (r.map fun j=>(j,(ce.getD j default).val)) w/\∀ j,r=some j->j<es.length:=by
  intro d i I;obtain⟨t,J⟩:=qhG i I p es ce.toList 0 r o hf;simp_all[Nat.sub_zero,Instr.findKey,run_underlying]
 split at l
 .grind
 .grind
 .grind
 .rename_i n e i
  split at l
  .rename_i R T
   obtain⟨t,J⟩:=qhH i R T p es ce.toList 0 r o hf;simp only[Nat.sub_zero,C]at t;refine⟨?_,fun j hj=>by grind⟩;simp only[Instr.findKey,qS,run_underlying i,qW];cases U:ce.toList with
   |nil =>
    have:r=none:=by
     cases es with
     |nil=>grind [zw]
     |cons=>have:=o.1;rw[U]at this;simp at this
    subst this;simp[Instr.findNow]
   |cons c cs =>
    grind [Instr.findNow,Instr.sameNow]
  grind
 grind
end
end Go.Ev
namespace Go.Ev
open Go Go.RowKit
section
variable {k x y:AV}{h:Array Obj}{G:Gh}{es:List (AV×AV)}{mu:Mu}{P:qb}{g:qc}{w:qd}
def mapT(P:qb)(t:qc):Option (qc×qc):=match P.underlying t with|some (.map k e)=>some (k,e)|_=>none
theorem ZT{t k e}(h:mapT P t=some (k,e)):P.underlying t=some (.map k e):=by
 unfold mapT at h;split at h
 .grind
 grind
@[go_sem] def ve(mu:Mu):AV->Option (List (AV×AV))
 | .im U=>some U
 | .mp b=>match mu[b]? with|some (.mp U)=>some U|_=>none
 | .sc (.map none)=>some []
 |_=>none
theorem Ub(ce:Array zE)(k)(g:k<ce.size):ce.toList[k]?=some (ce.getD k default):=by
 simp[zc,g]
theorem qhI(s:Sim G mu w.heap){x v es}(r:VRel G w.heap x v)(h:ve mu x=some es) :
  (v = .map none/\es=[])\/∃ m ce i,v = .map (some m)/\w.heap[m]?=some (.map ce i)/\jv G w.heap es ce.toList:=by
 unfold ve at h;split at h
 .simp only[qv]at h;subst h
  cases r with
  |im _ g ce clock j P o R T U =>
   refine .inr ⟨g,ce,clock,rfl,j,⟨zUs o,fun k x p=>?_⟩⟩
   grind [qk,Ub]
 .split at h
  .rename_i t C
   simp only[qv]at h;subst h;cases r with
   |mp _ g l j =>
    obtain⟨ce,i,I,J,h3,h4,h5,h6⟩:=s.mp _ _ g l C j;refine .inr ⟨g,ce,i,rfl,I,⟨zUs J,fun k x p=>?_⟩⟩
    grind [qk,Ub]
  grind
 .simp only[qv]at h;subst h
  cases r;exact .inl ⟨rfl,rfl⟩
 grind
@[go_sem] def jC(P:qb)(mu:Mu)(t:qc)(m k:AV)(ok:Bool):Option AV:=
 match mapT P t,ve mu m with
 |some (g,j),some U =>
  if ju P g k=true then
   match zw P g k U 0 with
   |some (some i)=>(U[i]?).map fun e=>if ok then .tup [e.2,.sc (.bool true)] else e.2
   |some none=>(qB P j).map fun z=>if ok then .tup [z,.sc (.bool false)] else z
   |none=>none
  else none
 |_,_=>none
theorem tup2{z u v}(i:VRel G h y u)(j:VRel G h z v):VRel G h (.tup [y,z]) (.tuple #[u,v]):=by
 refine .tup _ _ rfl (fun k c g=>?_);cases k with
 |zero=>simp at g;subst g;exact i
 |succ k=>cases k with
  |zero=>simp at g;subst g;exact j
  |succ k=>simp at g
theorem wv{m ce g}(h:w.heap[m]?=some (.map ce g)):(getObj m).run P w = .ok (.map ce g) w:=by
 simp[getObj,Sem.run,h]
theorem gG(s:Sim G mu w.heap){t m k z ok vm T}(rm:VRel G w.heap m vm)(J:VRel G w.heap k T)(h:jC P mu t m k ok=some z) :
  ∃ u,(Instr.lookup t vm T ok).run P w = .ok u w/\VRel G w.heap z u:=by
 unfold jC at h;split at h
 .rename_i kt et U ht a0
  have I:=ZT ht;split at h
  .rename_i o
   have j:∀ b,(Instr.checkKey b 10000 kt T).run P w = .ok () w:=fun b=>JO b J o
   rcases qhI s rm a0 with ⟨rfl,rfl⟩|⟨mb,ce,cl,rfl,hb,hr⟩
   .simp only[zw]at h
    cases C:qB P et with
    |none=>simp[C]at h
    |some z0 =>
     simp only[C,zq,qv]at h;subst h;obtain⟨p,l,rfl⟩:=ZR C w;have g:=(Zn (es:=[]) (ce:=#[]) J o ⟨rfl,zSp⟩ (r:=none) rfl).1;cases ok
     .exact ⟨p,by simp[Instr.lookup,run_underlying I,j,g,l],.ofV p⟩
     .exact ⟨.tuple #[p,.bool false],by simp[Instr.lookup,run_underlying I,j,g,l],tup2 (.ofV p) (.sc _ rfl)⟩
   .have R:=wv (P:=P) hb
    split at h
    .rename_i i hf
     obtain⟨g,a1⟩:=Zn J o hr hf;have hi:=a1 i rfl;have hx:U[i]?=some U[i]:=zP1 hi;rw[hx]at h;simp only[zq,qv]at h;subst h;obtain⟨e,he,h1,h2⟩:=hr.2 i _ hx;have a2:ce.getD i default=e:=by
      simp_all
     simp only[zq,a2]at g;cases ok
     .exact ⟨e.val,by simp[Instr.lookup,run_underlying I,R,j,g],h2⟩
     .exact ⟨.tuple #[e.val,.bool true],by simp[Instr.lookup,run_underlying I,R,j,g],tup2 h2 (.sc _ rfl)⟩
    .rename_i hf
     obtain⟨g,_⟩:=Zn J o hr hf;simp only[Option.map_none]at g;cases C:qB P et with
     |none=>simp[C]at h
     |some z0 =>
      simp only[C,zq,qv]at h;subst h;obtain⟨p,l,rfl⟩:=ZR C w;cases ok
      .exact ⟨p,by simp[Instr.lookup,run_underlying I,R,j,g,l],.ofV p⟩
      .exact ⟨.tuple #[p,.bool false],by simp[Instr.lookup,run_underlying I,R,j,g,l],tup2 (.ofV p) (.sc _ rfl)⟩
    grind
  grind
 grind
theorem gH:∀ xs ys,aEqs xs ys=some true->xs=ys
 | [],[],_=>rfl
 | [],_ :: _,h=>by simp[aEqs]at h
 |x :: xs,[],h=>by cases x<;>simp[aEqs]at h
 |x :: xs,y :: ys,h=>by
  unfold aEqs at h;split at h
  .rename_i g i;cases g
  .rename_i k a l k' b o g i
   simp only[List.cons.injEq]at g i;obtain⟨rfl,rfl⟩:=g;obtain⟨rfl,rfl⟩:=i;split at h
   .rename_i p
    subst p;split at h
    .rename_i j
     have:=beq_iff_eq.1 j;subst this;rw[gH xs ys h]
    grind
   grind
  grind
theorem gJ(q):∀ xs ys,xs.length=ys.length->xs.all (Ys q)=true->ys.all (Ys q)=true->∃ b,aEqs xs ys=some b
 | [],[],_,_,_=>⟨true,rfl⟩
 | [],_ :: _,h,_,_=>by simp at h
 |_ :: _,[],h,_,_=>by simp at h
 |x :: xs,y :: ys,h,g,i=>by
  simp only[List.all_cons,qH]at g i;obtain⟨b,t⟩:=gJ q xs ys (zUs h) g.2 i.2;have j:=g.1;have l:=i.1;unfold Ys at j l;split at j
  .split at l
   .rename_i C a _ I c
    have o:=beq_iff_eq.1 j;have p:=beq_iff_eq.1 l;subst o;subst p;by_cases r:(a == c)=true
    .simp_all [aEqs]
    simp_all[aEqs]
   grind
  grind
theorem W7{a b:tP}(h:(a == b)=true):a=b:=by
 obtain⟨x⟩:=a;obtain⟨y⟩:=b;have g:(x == y)=true:=h;rw[beq_iff_eq.1 g]
theorem qhJ(h:jU P g x y=some true):x=y:=by
 unfold jU at h;split at h
 .grind
 .grind [qv,W7,absurd]
 .grind
 .grind [gH,absurd]
 grind
theorem gK{l}(i:ju P l x=true)(g:ju P l y=true):∃ b,jU P l x y=some b:=by
 unfold ju at i g;unfold jU;split at i
 .rename_i q j
  simp only[j]at g⊢;unfold Ys at i g;split at i
  .split at g
   .simp_all
   grind
  grind
 .rename_i j
  simp only[j]at g⊢;split at i
  .split at g
   .exact ⟨_,rfl⟩
   grind
  grind
 .rename_i j
  simp only[j]at g⊢;split at i
  .split at g
   .exact ⟨_,rfl⟩
   grind
  grind
 .rename_i n e j
  simp only[j]at g⊢;split at i
  .rename_i q o p
   simp only[o,p]at g⊢;split at i
   .split at g
    .rw [qH]at i g
     have r:=beq_iff_eq.1 i.1;have t:=beq_iff_eq.1 g.1;simp only;rw[if_pos ⟨r,t⟩]
     grind [gJ]
    grind
   grind
  grind
 grind
theorem JQ:∀{es i j},zw P g k es i=some (some j)->i<=j/\∃ e,es[j-i]?=some e/\k=e.1
 | [],i,j,h=>by simp[zw]at h
 |e :: es,i,j,h=>by
  unfold zw at h;split at h
  .rename_i l
   simp only[qv]at h;subst h;exact⟨qr _,e,zSp,qhJ l⟩
  .obtain ⟨o,p,r,t⟩:=JQ h
   grind
  grind
theorem W8{j}:∀{es i},zw P j k es i=some none->∀ e,e∈es->jU P j k e.1=some false
 | [],_,_=>zSp
 |e :: es,i,h=>by
  unfold zw at h;split at h
  .exact absurd h zSp
  .rename_i l
   intro o g;rcases qy.1 g with rfl|g
   .exact l
   .exact W8 h o g
  grind
theorem gL(l:ju P g k=true):∀ es i,(∀ e,e∈es->ju P g e.1=true)->∃ r,zw P g k es i=some r
 | [],i,_=>⟨none,rfl⟩
 |e :: es,i,h=>by
  obtain⟨b,p⟩:=gK l (h e zSp);obtain⟨r,t⟩:=gL l es (i+1) (fun o j=>h o (zP1 j))
  grind [zw]
theorem PIx.mem{I o r es i}(p:PIx o r es i){x:I}:x∈i↔x∈es:=by
 constructor
 .intro h
  obtain⟨j,l⟩:=List.mem_iff_getElem?.1 h;have g:j<es.length:=by rw[<-p.1];grind
  rw[p.back g]at l
  grind
 .intro h
  obtain⟨j,l⟩:=List.mem_iff_getElem?.1 h;have g:j<es.length:=(qk.1 l).1;rw[<-(p.2 j g).2.2.2.2]at l
  grind
theorem qhK(h:(es.map Prod.fst).Nodup){x y}(g:x∈es)(i:y∈es)(e:x.1=y.1):x=y:=by
 induction es with
 |nil=>simp at g
 |cons z es j =>
  grind
theorem gM(h:jU P g x y=some false):x≠y:=by
 rintro rfl;unfold jU at h;have agg:∀ J:List AV,aEqs J J≠some false:=by
  intro J;induction J with
  |nil=>simp[aEqs]
  |cons x J j =>
   intro h;obtain⟨k,a,o,i,rfl,p,h⟩:=JL h
   grind
 have ba:∀ a:tP,(a == a)=true:=fun a=>by obtain⟨l⟩:=a;exact(beq_self_eq_true l)
 split at h
 .grind
 .grind
 .grind
 .grind
 grind
theorem qhL{t T et p z ok σ τ}(ht:mapT P t=some (T,et))(I:PIx σ τ es p)(hd:(es.map Prod.fst).Nodup)
  (ho:∀ e,e∈es->ju P T e.1=true) (h:jC P mu t (.im es) k ok=some z):jC P mu t (.im p) k ok=some z:=by
 unfold jC at *
 simp only[ht,ve]at h⊢;split at h
 .rename_i U
  rw[if_pos U];obtain⟨r',o⟩:=gL U p 0 (fun e r=>ho e (I.mem.1 r));rw[o];split at h
  .rename_i i J
   obtain⟨_,e,r,C⟩:=JQ J;simp only[Nat.sub_zero]at r;rw[r]at h;cases r' with
   |none=>exact absurd C (gM (W8 o e (I.mem.2 (zb r))))
   |some j =>
    obtain⟨_,R,g,l⟩:=JQ o;simp only[Nat.sub_zero]at g;have:R=e:=qhK hd (I.mem.1 (zb g)) (zb r) (by rw[<-C,<-l])
    grind
  .rename_i J
   cases r' with
   |none=>exact h
   |some j =>
    obtain⟨_,R,g,l⟩:=JQ o;simp only[Nat.sub_zero]at g;exact absurd l (gM (W8 J R (I.mem.1 (zb g))))
  grind
 grind
def yB(P:qb)(mu:Mu)(t:qc)(m k:AV)(ok:Bool):Option AV:=
 match m with
 | .ims U=>(match mapT P t with
  |some (g,_)=>if (U.all fun e=>ju P g e.1)=true then jC P mu t (.im U) k ok else none
  |none=>none)
 |m=>jC P mu t m k ok
@[go_sem] theorem quQ(P mu t es k ok):yB P mu t (.ims es) k ok=(match mapT P t with
  |some (g,_)=>if (es.all fun e=>ju P g e.1)=true then jC P mu t (.im es) k ok else none
  |none=>none):=rfl
@[go_sem] theorem quR(P mu t es k ok):yB P mu t (.im es) k ok=jC P mu t (.im es) k ok:=rfl
@[go_sem] theorem quS(P mu t b k ok):yB P mu t (.mp b) k ok=jC P mu t (.mp b) k ok:=rfl
@[go_sem] theorem quT(P mu t v k ok):yB P mu t (.sc v) k ok=jC P mu t (.sc v) k ok:=rfl
theorem qhM(s:Sim G mu w.heap){t m k z ok g i}(j:VRel G w.heap m g)(l:VRel G w.heap k i)(h:yB P mu t m k ok=some z) :
  ∃ u,(Instr.lookup t g i ok).run P w = .ok u w/\VRel G w.heap z u:=by
 unfold yB at h;split at h
 .rename_i U
  split at h
  .rename_i J R o
   split at h
   .rename_i T
    cases j with
    |ims _ p σ τ _ C I r =>
     exact gG s r l (qhL o C I (fun e he=>by grind) h)
   grind
  grind
 .exact gG s j l h
theorem qhN:∀(xs ys)(g i:List qf)(n),aEqs xs ys=some true->g.length=xs.length->i.length=ys.length->(∀(k:Nat) x,xs[k]?=some x->∃ v,g[k]?=some v/\VRel G h x v) ->
  (∀(k:Nat) x,ys[k]?=some x->∃ v,i[k]?=some v/\VRel G h x v)->g.length=i.length/\((g.zip i).all fun (x,y)=>Instr.sameBits n x y)=true:=by
 intro xs;induction xs with
 |nil =>
  intro ys g i n o p r _ _;cases ys with
  |nil=>simp_all
  |cons=>simp[aEqs]at o
 |cons x xs R =>
  intro ys g i n o p r I l;have T:=JL o;clear o;obtain⟨k,a,b',t,rfl,rfl,h⟩:=T;rcases h with ⟨U,h⟩|⟨_,h⟩
  .cases g with
   |nil=>simp at p
   |cons v g =>
    cases i with
    |nil=>simp at r
    |cons u i =>
     obtain⟨v',J,r1⟩:=I 0 _ rfl;obtain⟨u',P,r2⟩:=l 0 _ rfl;simp at J P;subst J;subst P;cases r1;cases r2;obtain⟨g1,g2⟩:=R t g i n h (zUs p) (zUs r) (fun j y C=>I (j+1) y (zUs C)) (fun j y C=>l (j+1) y (zUs C));refine⟨by simp[g1],?_⟩;simp_all[List.zip_cons_cons,List.all_cons,Instr.sameBits]
  grind
theorem W9{kt u v}(R:VRel G h x u)(T:VRel G h y v)(g:jU P kt x y=some true):Instr.sameBits 10000 v u=true:=by
 unfold jU at g;split at g
 .split at g
  .cases R;cases T
   split at g
   .simp_all [qv,beq_iff_eq,Instr.sameBits]
   grind
  grind
 .split at g
  .cases R;cases T
   simp_all[Option.some.inj,Instr.sameBits,beq_toListBytes,beq_iff_eq]
  grind
 .split at g
  .cases R;cases T
   have g:=Option.some.inj g;simp_all[Instr.sameBits,beq_iff_eq]
  grind
 .split at g
  .split at g
   .rename_i J i
    split at g
    .rename_i hl
     cases R with
     |agg _ o U hv =>
     cases T with
     |agg _ p hm hw =>
     have g1:=Yr U hv;have g2:=Yr hm hw;have:=qhN (G:=G) (h:=h) J i o.toList p.toList 9999 g (zUs U) (zUs hm) (fun k x hx=>by have:=g1 k x hx;simpa using this) (fun k x hx=>by have:=g2 k x hx;simpa using this);have t:∀(a b:List qf),a.length=b.length->((a.zip b).all fun (x,y)=>Instr.sameBits 9999 x y)=true->(∀ c,c∈a->∃ k n,c = .int k n)->(∀ c,c∈b->∃ k n,c = .int k n)->((b.zip a).all fun (x,y)=>Instr.sameBits 9999 x y)=true:=by
      intro a;induction a with
      |nil=>intro b _ _ _ _;simp
      |cons c a ih =>
       intro b hl h ha hb;cases b with
       |nil=>simp at hl
       |cons d b =>
        obtain⟨k1,n1,rfl⟩:=ha c zSp;obtain⟨k2,n2,rfl⟩:=hb d zSp;simp only[List.zip_cons_cons,List.all_cons,qH]at h⊢;refine⟨?_,ih b (zUs hl) h.2 (fun c j=>ha c (zP1 j)) (fun c j=>hb c (zP1 j))⟩;simp only[Instr.sameBits,qH,beq_iff_eq]at h⊢;exact⟨h.1.1.symm,h.1.2.symm⟩
     have ints:∀(J i:List AV),aEqs J i=some true->(∀ c,c∈J->∃ k n,c = .sc (.int k n))/\(∀ c,c∈i->∃ k n,c = .sc (.int k n)):=by
      intro J;induction J with
      |nil=>intro i h;cases i with
       |nil=>simp
       |cons=>simp[aEqs]at h
      |cons x J ih =>
       intro i h;have h':=JL h;clear h;obtain⟨k,a,b',a0,rfl,rfl,h⟩:=h';rcases h with ⟨_,h⟩|⟨_,h⟩
       .obtain ⟨g1,g2⟩:=ih a0 h
        refine⟨fun c j=>?_,fun c j=>?_⟩
        .rcases qy.1 j with rfl|j
         .exact ⟨k,a,rfl⟩
         .exact g1 c j
        .rcases qy.1 j with rfl|j
         .exact ⟨k,b',rfl⟩
         .exact g2 c j
       .exact absurd h zSp
     obtain⟨i1,i2⟩:=ints J i g;have val:∀(l:List AV)(C:Array qf),C.size=l.length->(∀(k:Nat) x,l[k]?=some x->VRel G h x (C.getD k qU))->(∀ c,c∈l->∃ k n,c = .sc (.int k n))->∀ c,c∈C.toList->∃ k n,c = .int k n:=by
      intro l C U hv hi c j;obtain⟨k,g⟩:=List.mem_iff_getElem?.1 j;have I:C[k]?=some c:=zUs g;have a1:k<l.length:=by have:=(yK.1 I).1;omega
      obtain⟨q,n,e⟩:=hi l[k] zSp;have r:=hv k l[k] (zP1 a1);rw[e,qgG I]at r;cases r;exact⟨q,n,rfl⟩
     have hs:=t o.toList p.toList this.1 this.2 (val J o U hv i1) (val i p hm hw i2);show (p.size == o.size&&(p.toList.zip o.toList).all fun (x,y)=>Instr.sameBits 9999 x y)=true
     grind
    grind
   grind
  grind
 grind
theorem Xa:∀ es i j,zw P g k es i=some (some j)->i<=j/\∃ e,es[j-i]?=some e/\jU P g k e.1=some true:=by
 intro es;induction es with
 |nil=>intro i j h;simp[zw]at h
 |cons e es l =>
  intro i j h;simp only[zw]at h;split at h
  .grind
  .grind
  grind
end
end Go.Ev
namespace Go.Ev
open Go Go.RowKit
section
variable {ce:Array zE}{h:Array Obj}{G:Gh}{es:List (AV×AV)}{mu mu':Mu}{g:Nat}{P:qb}{w:qd}
@[go_sem] def Yt(es:List (AV×AV))(i:Option Nat)(k v:AV):List (AV×AV):=
 match i with
 |some i=>es.set i (k,v)
 |none=>es++[(k,v)]
theorem Qh{r}(h:w.heap[r]?=some (.map ce g))(o):(setObj r o).run P w = .ok () { w with heap:=w.heap.setIfInBounds r o }:=by
 simp[setObj,Sem.run,h]
theorem Xb(w:qd)(r o)(h:r<w.heap.size):({ w with heap:=w.heap.setIfInBounds r o }:qd).heap[r]?=some o:=by
 simp[h]
theorem Xc(w:qd)(r k o)(h:k≠r):({ w with heap:=w.heap.setIfInBounds r o }:qd).heap[k]?=w.heap[k]?:=by
 grind
theorem Uc(s:Sim G mu w.heap){b v es}(r:VRel G w.heap (.mp b) v)(l:mu[b]?=some (.mp es)) :
  ∃ m g ce,v = .map (some m)/\G.blk[b]?=some (m,g)/\w.heap[m]?=some (.map ce ce.size)/\jv G w.heap es ce.toList/\(∀(k)(e:zE),ce[k]?=some e->e.born=k):=by
 cases r with
 |mp _ i g j =>
  obtain⟨ce,I,o,p,J,P,t,C⟩:=s.mp _ _ i g l j;subst t;refine⟨i,g,ce,rfl,j,o,⟨zUs p,fun k x R=>?_⟩,C⟩
  grind [qk,Ub]
theorem qhO(i:jv G h es ce.toList)(l:∀(k)(e:zE),ce[k]?=some e->e.born=k):uw G h g (.map ce ce.size) (.mp es):=by
 refine⟨ce,ce.size,rfl,by simpa using i.1,fun k x j=>?_,fun k x j=>?_,rfl,l⟩
 .obtain ⟨e,o,p,r⟩:=i.2 k x j
  simp_all
 .obtain ⟨e,o,p,r⟩:=i.2 k x j
  simp_all
theorem gN(g:jv G h es ce.toList){i}(C:i<es.length){k v o p}(I:VRel G h k o)(J:VRel G h v p) :
  jv G h (es.set i (k,v)) (ce.modify i fun e=>{ e with key:=o,val:=p }).toList:=by
 refine⟨by simpa using g.1,fun j x l=>?_⟩;rcases ua l with ⟨rfl,rfl⟩|⟨r,l⟩
 .have t:j<ce.size:=by have:=g.1;simp at this;omega
  simp_all
 .obtain ⟨e,P,R,T⟩:=g.2 j x l
  grind
theorem Xd(i:jv G h es ce.toList){k v l o}(t:VRel G h k l)(C:VRel G h v o)(n) :
  jv G h (es++[(k,v)]) (ce.push { key:=l,val:=o,born:=n }).toList:=by
 have r:ce.size=es.length:=by simpa using i.1
 refine⟨zP1 r,fun j x g=>?_⟩;rcases yA g with ⟨I,g⟩|⟨rfl,rfl⟩
 .obtain ⟨e,J,P,R⟩:=i.2 j x g
  grind
 simp_all
theorem Xe(g:∀(k) (e:zE),ce[k]?=some e->e.born=k)(i f)(hf:∀ e,(f e).born=e.born):∀(k)(e:zE),(ce.modify i f)[k]?=some e->e.born=k:=by
 grind
theorem gO(g:∀(k)(e:zE),ce[k]?=some e->e.born=k)(x)(i:x.born=ce.size):∀(k)(e:zE),(ce.push x)[k]?=some e->e.born=k:=by
 grind
theorem sL(s:Sim G mu w.heap){b m j es i ce g}(o:mu[b]?=some (.mp es))(p:G.blk[b]?=some (m,j))(r:w.heap[m]?=some (.map ce ce.size))
  (t:jv G w.heap i g.toList) (l:∀(k)(e:zE),g[k]?=some e->e.born=k):Stp G mu w G (mu.set b (.mp i)) { w with heap:=w.heap.setIfInBounds m (.map g g.size) }:=by
 grind [yK,sW,Xb,Xc,qhO]
theorem qhP(s:Sim G mu w.heap){b v es}(r:VRel G w.heap (.mp b) v)(o:mu[b]?=some (.md es)) :
  ∃ m g ce j,v = .map (some m)/\G.blk[b]?=some (m,g)/\w.heap[m]?=some (.map ce j)/\jv G w.heap es ce.toList/\vy ce j:=by
 cases r with
 |mp _ i g l =>
  obtain⟨ce,j,p,t,I,J,C⟩:=s.md _ _ i g o l;refine⟨i,g,ce,j,rfl,l,p,⟨zUs t,fun k x P=>?_⟩,C⟩
  grind [qk,Ub]
theorem qhQ{i}(j:jv G h es ce.toList)(o:vy ce g):uw G h i (.map ce g) (.md es):=by
 refine⟨ce,g,rfl,by simpa using j.1,fun k x l=>?_,fun k x l=>?_,o⟩
 .obtain ⟨e,p,r,t⟩:=j.2 k x l
  simp_all
 .obtain ⟨e,p,r,t⟩:=j.2 k x l
  simp_all
theorem sQ(s:Sim G mu w.heap){b m j c i o g p}(r:mu[b]?=some c)(t:c ≠ .dead)(C:G.blk[b]?=some (m,j))(I:w.heap[m]?=some o)
  (J:jv G w.heap i g.toList) (l:vy g p):Stp G mu w G (mu.set b (.md i)) { w with heap:=w.heap.setIfInBounds m (.map g p) }:=by
 grind [yK,sW,Xb,Xc,qhQ]
theorem qhR{l}(o:vy ce l)(i f)(hf:∀ e,(f e).born=e.born):vy (ce.modify i f) l:=by
 have key:∀(k:Nat)(e:zE),(ce.modify i f)[k]?=some e->∃ g,ce[k]?=some g/\g.born=e.born:=by
  grind
 refine⟨fun k e h=>?_,fun j k e p r t T=>?_⟩
 .obtain ⟨g,C,I⟩:=key k e h
  rw[<-I];exact o.1 k g C
 .obtain ⟨J,g1,U⟩:=key j e r
  obtain⟨P,R,g4⟩:=key k p t;exact o.2 j k J P g1 R zOm
theorem qhS{i}(g:vy ce i)(x)(I:x.born=i):vy (ce.push x) (i+1):=by
 have key:∀(k:Nat)(e:zE),(ce.push x)[k]?=some e->(k=ce.size/\e=x)\/ce[k]?=some e:=by
  grind
 refine⟨fun k e h=>?_,fun j k e l r t C=>?_⟩
 .rcases key k e h with ⟨_,rfl⟩|h
  .omega
  .have:=g.1 k e h;omega
 .rcases key j e r with ⟨o,rfl⟩|o<;>rcases key k l t with ⟨p,rfl⟩|p
  .omega
  .have:=g.1 k l p;omega
  .have:=g.1 j e o;omega
  .exact g.2 j k e l o p C
theorem qhT{l}(o:vy ce l)(i):vy (ce.eraseIdxIfInBounds i) l:=by
 have key:∀ k:Nat,∃ j:Nat,(ce.eraseIdxIfInBounds i)[k]?=ce[j]?/\j=if k<i then k else if i<ce.size then k+1 else k:=by
  grind
 refine⟨fun k e h=>?_,fun j k e t p r C=>?_⟩
 .obtain ⟨j,g,_⟩:=key k
  rw[g]at h;exact o.1 j e h
 .obtain ⟨I,g,R⟩:=key j
  obtain⟨J,P,T⟩:=key k;rw[g]at p;rw[P]at r;have:=o.2 I J e t p r C
  grind
theorem qhU(j:jv G h es ce.toList){i}(t:i<es.length):jv G h (es.eraseIdx i) (ce.eraseIdxIfInBounds i).toList:=by
 have o:ce.size=es.length:=by simpa using j.1
 have e:(ce.eraseIdxIfInBounds i).toList=ce.toList.eraseIdx i:=by
  simp_all
 rw[e];refine⟨by simp[List.length_eraseIdx,o],fun k x g=>?_⟩;rw[List.getElem?_eraseIdx]at g;by_cases l:k<i
 .rw [if_pos l]at g
  obtain⟨c,p,r⟩:=j.2 k x g
  grind
 .rw [if_neg l]at g
  obtain⟨c,p,r⟩:=j.2 (k+1) x g
  grind
@[go_sem] def jV(P:qb)(mu:Mu)(t:qc)(m k v:AV):Option Mu:=
 match m,mapT P t with
 | .mp b,some (g,_)=>match mu[b]? with
  |some (.mp U)=>if ju P g k=true then (zw P g k U 0).map fun r=>mu.set b (.mp (Yt U r k v)) else none
  |some (.md U)=>if ju P g k=true then (zw P g k U 0).map fun r=>mu.set b (.md (Yt U r k v)) else none
  |_=>none
 |_,_=>none
theorem Xf{o n}(h:Instr.sameBits 10000 o n=true):(Instr.keyThatStays o n).run P w = .ok n w:=by
 simp[Instr.keyThatStays,h]
theorem gP(s:Sim G mu w.heap){t m k v vm vk vv}(rm:VRel G w.heap m vm)(rk:VRel G w.heap k vk)(rv:VRel G w.heap v vv)(h:jV P mu t m k v=some mu') :
  ∃ w',(Instr.mapUpdate t vm vk vv).run P w = .ok () w'/\Stp G mu w G mu' w':=by
 unfold jV at h;split at h
 .rename_i b kt et ht
  have hu:=ZT ht;split at h
  .rename_i U hm
   split at h
   .rename_i C
    obtain⟨mb,a4,ce,rfl,hb,I,J,g⟩:=Uc s rm hm;have R:(Instr.checkKey false 10000 kt vk).run P w = .ok () w:=JO false rk C;have hg:=wv (P:=P) I;have a5:ce.size=U.length:=by simpa using J.1
    cases hf:zw P kt k U 0 with
    |none=>simp[hf]at h
    |some r =>
     simp only[hf,zq,qv]at h;subst h;obtain⟨j,a0⟩:=Zn rk C J hf;cases r with
     |none =>
      have l:=Xd J rk rv ce.size;have o:=gO g { key:=vk,val:=vv,born:=ce.size } rfl;refine⟨_,?_,sL s hm hb I l o⟩;simp only[Option.map_none]at j;simp[Instr.mapUpdate,run_underlying hu,hg,R,j,Qh I]
     |some i =>
      obtain⟨_,e,he,T⟩:=Xa U 0 i hf;rw[Nat.sub_zero]at he;obtain⟨c,hc,a1,a6⟩:=J.2 i e he;have a2:ce[i]?=some c:=zUs hc;have p:=W9 rk a1 T;have l:=gN J (a0 i rfl) rk rv;have o:=Xe g i (fun e=>{ e with key:=vk,val:=vv }) (fun _=>rfl);refine⟨_,?_,sL s hm hb I l o⟩;simp only[zq]at j;simp[Instr.mapUpdate,run_underlying hu,hg,R,j,a2,Xf p,Qh I]
   grind
  .rename_i U hm
   split at h
   .rename_i C
    obtain⟨mb,a4,ce,cl,rfl,hb,I,J,g⟩:=qhP s rm hm;have R:(Instr.checkKey false 10000 kt vk).run P w = .ok () w:=JO false rk C;have hg:=wv (P:=P) I;have a5:ce.size=U.length:=by simpa using J.1
    cases hf:zw P kt k U 0 with
    |none=>simp[hf]at h
    |some r =>
     simp only[hf,zq,qv]at h;subst h;obtain⟨j,a0⟩:=Zn rk C J hf;cases r with
     |none =>
      have l:=Xd J rk rv cl;have o:=qhS g { key:=vk,val:=vv,born:=cl } rfl;refine⟨_,?_,sQ s hm zSp hb I l o⟩;simp only[Option.map_none]at j;simp[Instr.mapUpdate,run_underlying hu,hg,R,j,Qh I]
     |some i =>
      obtain⟨_,e,he,T⟩:=Xa U 0 i hf;rw[Nat.sub_zero]at he;obtain⟨c,hc,a1,a6⟩:=J.2 i e he;have a2:ce[i]?=some c:=zUs hc;have p:=W9 rk a1 T;have l:=gN J (a0 i rfl) rk rv;have o:=qhR g i (fun e=>{ e with key:=vk,val:=vv }) (fun _=>rfl);refine⟨_,?_,sQ s hm zSp hb I l o⟩;simp only[zq]at j;simp[Instr.mapUpdate,run_underlying hu,hg,R,j,a2,Xf p,Qh I]
   grind
  grind
 grind
@[go_sem] def Yu(P:qb)(mu:Mu)(t:qc)(m k:AV):Option (AV×Mu):=
 match m,mapT P t with
 | .mp b,some (g,j)=>match mu[b]? with
  |some (.mp U)=>if ju P g k=true then
    match zw P g k U 0 with
    |some (some i)=>(U[i]?).map fun e=>(.tup [e.2,.sc (.int .i64 i)],mu.set b (.mp (U.set i (k,e.2))))
    |some none=>(qB P j).map fun z=>(.tup [z,.sc (.int .i64 U.length)],mu.set b (.mp (U++[(k,z)])))
    |none=>none
   else none
  |_=>none
 |_,_=>none
theorem qhV(s:Sim G mu w.heap){t m k z vm R}(rm:VRel G w.heap m vm)(rk:VRel G w.heap k R)(h:Yu P mu t m k=some (z,mu')) :
  Good P G mu w (Instr.mapEntry t vm R) z mu':=by
 unfold Yu at h;split at h
 .rename_i b kt et ht
  have hu:=ZT ht;split at h
  .rename_i U hm
   split at h
   .rename_i o
    obtain⟨mb,a9,ce,rfl,hb,hh,p,g⟩:=Uc s rm hm;have a0:(Instr.checkKey false 10000 kt R).run P w = .ok () w:=JO false rk o;have hg:=wv (P:=P) hh;have a2:ce.size=U.length:=by simpa using p.1
    split at h
    .rename_i i hf
     obtain⟨l,aa⟩:=Zn rk o p hf;obtain⟨_,e,he,a1⟩:=Xa U 0 i hf;rw[Nat.sub_zero]at he;rw[he]at h;simp only[zq,qv,uM]at h;obtain⟨rfl,rfl⟩:=h;obtain⟨c,hc,a3,a4⟩:=p.2 i e he;have r:ce[i]?=some c:=zUs hc;have C:=W9 rk a3 a1;have a5:ce.getD i default=c:=by simp[zc,r]
     have I:jv G w.heap (U.set i (k,e.2)) (ce.modify i fun e=>{ e with key:=R }).toList:=by
      refine⟨by simpa using p.1,fun j x hx=>?_⟩;rcases ua hx with ⟨rfl,rfl⟩|⟨ab,hx⟩
      .grind
      .obtain ⟨e',ad,h1,h2⟩:=p.2 j x hx
       grind
     have J:=Xe g i (fun e=>{ e with key:=R }) (fun _=>rfl);have a6:c.born=i:=g i c r;have T:=sL s hm hb hh I J;refine⟨.tuple #[c.val,.int .i64 i],_,G,?_,T,tup2 (T.vrel s a4) (.sc _ rfl)⟩;simp only[zq,a5]at l;simp[Instr.mapEntry,run_underlying hu,hg,a0,l,r,Xf C,Qh hh,goInt,a6]
    .rename_i hf
     obtain⟨l,_⟩:=Zn rk o p hf;cases hz:qB P et with
     |none=>simp[hz]at h
     |some z0 =>
      simp only[hz,zq,qv,uM]at h;obtain⟨rfl,rfl⟩:=h;obtain⟨zv,a7,rfl⟩:=ZR hz w;have I:=Xd p rk (VRel.ofV (G:=G) (h:=w.heap) zv) ce.size;have J:=gO g { key:=R,val:=zv,born:=ce.size } rfl;have T:=sL s hm hb hh I J;refine⟨.tuple #[zv,.int .i64 U.length],_,G,?_,T,tup2 (.ofV zv) (.sc _ rfl)⟩;simp only[Option.map_none]at l;simp[Instr.mapEntry,run_underlying hu,hg,a0,l,a7,Qh hh,goInt,a2]
    grind
   grind
  grind
 grind
@[go_sem] def Xg(mu:Mu)(m g v:AV):Option Mu:=
 match m,g with
 | .mp b,.sc (.int _ i)=>match mu[b]? with
  |some (.mp U)=>if 0<=i then (U[i.toNat]?).map fun e=>mu.set b (.mp (U.set i.toNat (e.1,v))) else none
  |_=>none
 |_,_=>none
theorem qhW(s:Sim G mu w.heap){t m st v vm vs o}(rm:VRel G w.heap m vm)(rs:VRel G w.heap st vs)(rv:VRel G w.heap v o)(h:Xg mu m st v=some mu') :
  ∃ w',(Instr.entryStore t vm vs o).run P w = .ok () w'/\Stp G mu w G mu' w':=by
 unfold Xg at h;split at h
 .rename_i b q i
  split at h
  .rename_i U hm
   split at h
   .rename_i a1
    cases p:U[i.toNat]? with
    |none=>simp[p]at h
    |some e =>
     simp only[p,zq,qv]at h;subst h;obtain⟨mb,a2,ce,rfl,hb,r,C,g⟩:=Uc s rm hm;cases rs;have hg:=wv (P:=P) r;obtain⟨c,hc,a3,a4⟩:=C.2 _ e p;have I:ce[i.toNat]?=some c:=zUs hc;have J:i.toNat<ce.size:=(yK.1 I).1;have l:ce.findIdx? (fun e=>(e.born:Int) == i)=some i.toNat:=by
      rw[Array.findIdx?_eq_some_iff_getElem];refine⟨J,?_,fun j hj=>?_⟩
      .grind
      .have:ce[j].born=j:=g j _ (by simp[show j<ce.size by omega])
       simp[this];omega
     have R:jv G w.heap (U.set i.toNat (e.1,v)) (ce.modify i.toNat fun e=>{ e with val:=o }).toList:=by
      refine⟨by simpa using C.1,fun j x T=>?_⟩;rcases ua T with ⟨rfl,rfl⟩|⟨a5,T⟩
      .grind
      .obtain ⟨e',a6,h1,h2⟩:=C.2 j x T
       grind
     have a0:=Xe g i.toNat (fun e=>{ e with val:=o }) (fun _=>rfl);refine⟨_,?_,sL s hm hb r R a0⟩;simp[Instr.entryStore,hg,asInt,asIntOf,l,Qh r]
   grind
  grind
 grind
theorem qhX(s:Sim G mu w.heap){t}:Good P G mu w (Instr.makeMap t none) (.mp mu.length) (mu++[.mp []]):=by
 have T:=sR s (.map #[] 0) (.mp []) 0 (fun _=>⟨#[],0,rfl,rfl,zSp,zSp,rfl,zSp⟩);refine⟨.map (some w.heap.size),_,_,?_,T,.mp _ w.heap.size 0 ?_⟩
 .simp [Instr.makeMap]
 .show (G.blk++[_])[mu.length]?=_
  rw[<-s.len];simp
@[go_sem] def Ud(P:qb)(mu:Mu)(t:qc)(m:AV):Option (AV×Mu):=
 match mapT P t,m with
 |some _,.im U=>some (.ptr mu.length 0,mu++[.it U []])
 |some _,.ims U=>some (.ptr mu.length 0,mu++[.it U []])
 |some _,.sc (.map none)=>some (.ptr mu.length 0,mu++[.it [] []])
 |_,_=>none
theorem qhY(s:Sim G mu w.heap){t m z R}(i:VRel G w.heap m R)(h:Ud P mu t m=some (z,mu')):Good P G mu w (Instr.range t R) z mu':=by
 unfold Ud at h;split at h
 .rename_i l U o
  obtain⟨kt,et⟩:=l;have p:=ZT o;simp only[qv,uM]at h;obtain⟨rfl,rfl⟩:=h;have j:=i;cases i with
  |im _ g ce clock r C hn hk hv hd =>
  have T:=sR s (.mapIter (some g) clock #[] clock) (.it U []) 0 (fun h => .inl ⟨g,U,id,id,ce,clock,j,r,C,PIx.refl U,zSp,zSp⟩);refine⟨.pointer (some ⟨w.heap.size,0,none⟩),_,_,?_,T,.ptr _ 0 w.heap.size 0 ?_⟩
  .have I:=wv (P:=P) r
   simp[Instr.range,run_underlying p,I]
  .show (G.blk++[_])[mu.length]?=_
   rw[<-s.len];simp
 .rename_i l U o
  obtain⟨kt,et⟩:=l;have p:=ZT o;simp only[qv,uM]at h;obtain⟨rfl,rfl⟩:=h;cases i with
  |ims _ J σ τ _ hp a0 i =>
  have j:=i;cases i with
  |im _ g ce clock r C hn hk hv hd =>
  have T:=sR s (.mapIter (some g) clock #[] clock) (.it U []) 0 (fun h => .inl ⟨g,J,σ,τ,ce,clock,j,r,C,hp,zSp,zSp⟩);refine⟨.pointer (some ⟨w.heap.size,0,none⟩),_,_,?_,T,.ptr _ 0 w.heap.size 0 ?_⟩
  .have I:=wv (P:=P) r
   simp[Instr.range,run_underlying p,I]
  .show (G.blk++[_])[mu.length]?=_
   rw[<-s.len];simp
 .rename_i l o
  obtain⟨kt,et⟩:=l;have p:=ZT o;simp only[qv,uM]at h;obtain⟨rfl,rfl⟩:=h;cases i;have T:=sR s (.mapIter none 0 #[] 0) (.it [] []) 0 (fun _ => .inr ⟨rfl,rfl⟩);refine⟨.pointer (some ⟨w.heap.size,0,none⟩),_,_,?_,T,.ptr _ 0 w.heap.size 0 ?_⟩
  .simp [Instr.range,run_underlying p]
  .show (G.blk++[_])[mu.length]?=_
   rw[<-s.len];simp
 grind
def Xh(mu:Mu)(g:AV)(K:AV->Mu->Prop):Prop:=
 ∃ b U seen,g = .ptr b 0/\mu[b]?=some (.it U seen) /\
  (∀(i:Nat) e,U[i]?=some e->i ∉ seen->K (.tup [.sc (.bool true),e.1,e.2]) (mu.set b (.it U (seen++[i])))) /\
  ((∀ i,i<U.length->i∈seen)->K (.tup [.sc (.bool false)]) mu)
theorem tup1{y u}(i:VRel G h y u):VRel G h (.tup [y]) (.tuple #[u]):=by
 refine .tup _ _ rfl (fun k c g=>?_);cases k with
 |zero=>simp at g;subst g;exact i
 |succ k=>simp at g
theorem tup3{x y z t u v}(i:VRel G h x t)(j:VRel G h y u)(l:VRel G h z v):VRel G h (.tup [x,y,z]) (.tuple #[t,u,v]):=by
 refine .tup _ _ rfl (fun k c g=>?_)
 match k,g with
 | 0,g=>simp at g;subst g;exact i
 | 1,g=>simp at g;subst g;exact j
 | 2,g=>simp at g;subst g;exact l
 |k+3,g=>simp at g
theorem qhZ(s:Sim G mu w.heap){an vi ty}(ri:VRel G w.heap an vi){K}(h:Xh mu an K) :
  ∃ z mu',K z mu'/\Good P G mu w (Instr.next vi false ty) z mu':=by
 obtain⟨b,U,seen,rfl,hm,h1,h2⟩:=h;cases ri with
 |ptr _ _ p ao hb =>
 obtain⟨o,ho,ag⟩:=s.obj b _ p ao hm zSp hb;have b2:p<w.heap.size:=(yK.1 ho).1;rcases ag with ⟨m,a1,σ,τ,g,l,rm,a6,hi,C,a2,rfl⟩|⟨rfl,rfl⟩
 .cases rm with
  |im _ _ ce clock ab a7 aq hk hv hd =>
  rw[a6]at ab;obtain⟨rfl,rfl⟩:g=ce/\l=clock:=zUs ab;have hn:g.size=U.length:=by rw[aq];exact C.1
  have ar:∀ j,j<U.length->g[j]?=some (g.getD j default):=fun j hj=>by
   simp_all
  generalize au:(seen.map fun i=>(g.getD (σ i) default).born)=sn at ho;have ad:∀ j,j<U.length->((g.getD j default).born∈sn↔τ j∈seen):=by
   intro j hj;rw[<-au,qn];constructor
   .rintro ⟨i,a7,b3⟩
    have h1:=C.2 i (a2 i a7);have:=hd.2 _ _ _ _ (ar _ h1.1) (ar j hj) b3
    grind
   .intro b4
    exact⟨τ j,b4,by simp only[(C.2 j hj).2.2.2.1]⟩
  have a3:(getObj p).run P w = .ok (.mapIter (some m) l sn.toArray l) w:=by simp[getObj,Sem.run,ho]
  have ah:=wv (P:=P) a6;have I:(!sn.toArray.isEmpty&&!g.isEmpty&&g.all fun e=>decide (e.born>=l))=false:=by
   by_cases bb:g.size=0
   .grind
   .have:(g.all fun e=>decide (e.born>=l))=false:=by
     cases hq:(g.all fun e=>decide (e.born>=l)) with
     |false=>rfl
     |true =>
      have h0:g[0]?=some (g[0]' zOm):=by simp[show 0<g.size by omega]
      have:=(Array.all_eq_true'.1 hq) _ (Array.mem_of_getElem? h0);have bc:=hd.1 0 _ h0
      grind
    rw[this];simp
  have av:∀(a:Array zE),(∀ e,e∈a->e∈g)->(a.filter fun e=>decide (e.born<l))=a/\(a.filter fun e=>decide (e.born>=l))=#[]:=by
   intro a ha;have hb:∀ e,e∈a->e.born<l:=by
    intro e he;obtain⟨k,hk⟩:=Array.mem_iff_getElem?.1 (ha e he);exact hd.1 k e hk
   simp_all
  obtain⟨ai,aj⟩:=av (g.filter fun e=>!sn.toArray.contains e.born) (fun e he=>(Array.mem_filter.1 he).1);generalize r:(g.filter fun e=>!sn.toArray.contains e.born)=left at ai aj;have a0:∀ e,e∈left->∃(k:Nat) (x:AV×AV),U[k]?=some x/\k ∉ seen/\e.born=(g.getD (σ k) default).born/\VRel G w.heap x.1 e.key/\VRel G w.heap x.2 e.val:=by
   intro e he;rw[<-r,Array.mem_filter]at he;obtain⟨k,aw⟩:=Array.mem_iff_getElem?.1 he.1;have a8:k<g.size:=(yK.1 aw).1;have a4:k<U.length:=zOm;have hx:a1[k]?=some (a1[k]' zOm):=by simp[show k<a1.length by omega]
   have a9:g.getD k default=e:=by simp[zc,aw]
   refine⟨τ k,_,by rw[<-C.back a4];exact hx,?_,by rw[(C.2 k a4).2.2.2.1,a9],by have:=hk k _ hx;rwa[a9]at this,by have:=hv k _ hx;rwa[a9]at this⟩;intro hs;have:=he.2;have h3:=(ad k a4).2 hs;rw[a9]at h3;simp[h3]at this
  by_cases a5:left=#[]
  ·
   have ax:∀ i,i<U.length->i∈seen:=by
    intro i hi;refine Classical.byContradiction fun ak=>?_
    obtain⟨q1,q2,q3,q4,q5⟩:=C.2 i hi;have a7:σ i<g.size:=zOm;have:g[σ i]∈left:=by
     rw[<-r,Array.mem_filter];refine⟨zSp,?_⟩;have h4:g.getD (σ i) default=g[σ i]:=by simp[zc,a7]
     have h3:g[σ i].born ∉ sn:=fun h=>ak (by rw[<-h4]at h;have:=(ad _ q1).1 h;rwa[q3]at this)
     simp[h3]
    rw[a5]at this;simp at this
   refine⟨_,_,h2 ax,?_⟩;refine sY s (v := .tuple #[.bool false]) ?_ (tup1 (.sc _ rfl));simp only[Instr.next,qS,a3,qW,ah,I,Bool.false_eq_true,if_false,r,a5];simp[Question.forced]
  .have J:0<left.size:=by
    rcases Nat.eq_zero_or_pos left.size with h|h
    .exact absurd (Array.eq_empty_of_size_eq_zero h) a5
    .exact h
   have ay:left.isEmpty=false:=by simp[Array.isEmpty];omega
   have ae:∀(n:Nat)(h:n<left.size),left[n]?=some left[n]:=fun n h=>zP1 h
   have key:∀(n:Nat)(R:qd)(b5:n<left.size),R.heap=w.heap->Stp G mu w G mu R->∃ z mu',K z mu'/\∃ v w' G',((do
     setObj p (.mapIter (some m) l (sn.toArray.push left[n].born) l)
     pure (.tuple #[.bool true,left[n].key,left[n].val]):Sem qf)).run P R = .ok v w'/\Stp G mu w G' mu' w'/\VRel G' w'.heap z v:=by
    intro n R b5 aa al;obtain⟨k,x,hx,ak,b6,r1,r2⟩:=a0 left[n] zSp;have b7:R.heap[p]?=some (.mapIter (some m) l sn.toArray l):=by rw[aa];exact ho
    have az:p<R.heap.size:=by rw[aa];exact b2
    have b8:VRel G R.heap (.im a1) (.map (some m)):=by rw[aa];exact .im _ m g _ a6 hi aq hk hv hd
    have a4:k<U.length:=(qk.1 hx).1;have T:=sW al.sim b (.it U seen) (.it U (seen++[k])) p ao (.mapIter (some m) l (sn++[(g.getD (σ k) default).born]).toArray l) hm zSp zSp hb (w':={ R with heap:=R.heap.setIfInBounds p (.mapIter (some m) l (sn++[(g.getD (σ k) default).born]).toArray l) }) zSp
     (Xb R p _ az) (fun j hj=>Xc R p j _ hj) rfl rfl rfl (.inl ⟨m,a1,σ,τ,g,l,b8,by rw[aa];exact a6,hi,C,fun i hi=>by
      rcases List.mem_append.1 hi with h|h
      .exact a2 i h
      .simp at h;subst h;exact a4,by rw[ze,au,List.map_singleton]⟩)
    have b0:(setObj p (.mapIter (some m) l (sn.toArray.push left[n].born) l)).run P R = .ok () { R with heap:=R.heap.setIfInBounds p (.mapIter (some m) l (sn++[(g.getD (σ k) default).born]).toArray l) }:=by
     simp[setObj,Sem.run,b7,b6]
    refine⟨_,_,h1 k x hx ak,.tuple #[.bool true,left[n].key,left[n].val],_,G,?_,al.trans s T,?_⟩
    .simp only[qS,b0,qW,zN]
    .have t:=al.trans s T
     exact tup3 (.sc _ rfl) (t.vrel s r1) (t.vrel s r2)
   have b9:∀(z:AV)(mu':Mu),True:=fun _ _=>trivial
   by_cases af:left.size<=1
   .obtain ⟨z,mu',a8,v,w',G',g1,g2,g3⟩:=key 0 w J rfl (Stp.refl s)
    refine⟨z,mu',a8,v,w',G',?_,g2,g3⟩;rw[<-g1];simp only[Instr.next,qS,a3,qW,ah,I,Bool.false_eq_true,if_false,r,ai,aj,ay];simp[Question.forced,af,ae 0 J]
   .obtain ⟨z,mu',a8,v,w',G',g1,g2,g3⟩:=key (w.tape w.drawn (.mapNext left.size) % left.size) w.drew (Nat.mod_lt _ J) rfl (Stp.drew s)
    refine⟨z,mu',a8,v,w',G',?_,g2,g3⟩;rw[<-g1];simp only[Instr.next,qS,a3,qW,ah,I,Bool.false_eq_true,if_false,r,ai,aj,ay];have b1:=Nat.mod_lt (w.tape w.drawn (.mapNext left.size)) J;simp[Question.forced,Question.cut,af,ae _ b1]
 .have a3:(getObj p).run P w = .ok (.mapIter none 0 #[] 0) w:=by simp[getObj,Sem.run,ho]
  refine⟨_,_,h2 (fun i hi=>by simp at hi),sY s (v := .tuple #[.bool false]) ?_ (tup1 (.sc _ rfl))⟩;simp[Instr.next,a3]
@[go_sem] def ZU(mu:Mu)(g:AV):Option AV:=
 match g with
 | .ptr b 0=>match mu[b]? with
  |some (.it U seen)=>match seen.getLast? with
   |some i=>(U[i]?).map fun e => .tup [e.1,e.2]
   |none=>none
  |_=>none
 |_=>none
theorem qh0(s:Sim G mu w.heap){J z vi}(ri:VRel G w.heap J vi)(h:ZU mu J=some z) :
  ∃ u,(Instr.entry vi).run P w = .ok u w/\VRel G w.heap z u:=by
 unfold ZU at h;split at h
 .rename_i b
  split at h
  .rename_i U seen hm
   split at h
   .rename_i i hi
    cases R:U[i]? with
    |none=>simp[R]at h
    |some x =>
     simp only[R,zq,qv]at h;subst h;cases ri with
     |ptr _ _ T a2 hb =>
     obtain⟨o,ho,r⟩:=s.obj b _ T a2 hm zSp hb;rcases r with ⟨m,a3,σ,τ,g,t,rm,a0,aa,a1,a4,rfl⟩|⟨rfl,rfl⟩
     .cases rm with
      |im _ _ ce clock p a5 a6 hk hv hd =>
      rw[a0]at p;obtain⟨rfl,rfl⟩:g=ce/\t=clock:=zUs p;have hn:g.size=U.length:=by rw[a6];exact a1.1
      obtain⟨q1,q2,q3,q4,q5⟩:=a1.2 i (qk.1 R).1;have C:a3[σ i]?=some x:=by rw[q5];exact R
      have l:(seen.map fun i=>(g.getD (σ i) default).born).toArray.back?=some ((g.getD (σ i) default).born):=zP1 hi;generalize (seen.map fun i=>(g.getD (σ i) default).born)=sn at ho l;generalize σ i=i at C l q1;have ab:(getObj T).run P w = .ok (.mapIter (some m) t sn.toArray t) w:=by simp[getObj,Sem.run,ho]
      have ad:=wv (P:=P) a0;have I:i<g.size:=zOm;have a7:g.getD i default=g[i]:=by simp[zc,I]
      rw[a7]at l;have a8:g.find? (fun e=>e.born == g[i].born)=some g[i]:=by
       rw[Array.find?_eq_some_iff_getElem];refine⟨zSp,i,I,rfl,fun j hj=>?_⟩;have a9:j<g.size:=zOm;have:g[j].born≠g[i].born:=fun h=>by
        have:=hd.2 j i _ _ (zP1 a9) (zP1 I) h;omega
       simp[this]
      have r1:=hk i x C;have r2:=hv i x C;simp_all[Instr.entry,tup2]
     .simp at R
   grind
  grind
 grind
end
end Go.Ev
namespace Go.Ev
open Go Go.RowKit
section
variable {mu:Mu}{w:qd}
theorem qh1{P G}(s:Sim G mu w.heap){x v ys sz}(r:VRel G w.heap x v)(h:qE mu x=some ys)(hz:zo sz ys)(n)(hn:n<=ys.length) :
  ∃(news:List qf),news.length=n*sz/\(∀ u∈news,u.oneCell'=true)/\(∀(k) y,(ys.take n).flatten[k]?=some y->VRel G w.heap y (news.getD k qU)) /\
   (Builtin.lenOf v).run P w = .ok ys.length w/\(Builtin.firstCells sz n v).run P w = .ok news.toArray w:=by
 have l:zo sz (ys.take n):=fun r hr=>hz r (jI hr)
 have a2:(ys.take n).flatten.length=n*sz:=by rw[yQ l.ok];simp[Nat.min_eq_left hn]
 have o:∀(k:Nat) y,(ys.take n).flatten[k]?=some y->ys.flatten[k]?=some y:=by
  grind [List.flatten_append,vO,qN,qk]
 have fin:∀(a:Addr)(cap:Nat)(rd:Nat->qf),(∀(k:Nat) y,ys.flatten[k]?=some y->w.cell? (a.add k)=some (rd k)/\VRel G w.heap y (rd k))->v = .slice (some a) ys.length cap ->
   ∃(news:List qf),news.length=n*sz/\(∀ u∈news,u.oneCell'=true)/\(∀(k:Nat) y,(ys.take n).flatten[k]?=some y->VRel G w.heap y (news.getD k qU)) /\
   (Builtin.lenOf v).run P w = .ok ys.length w/\(Builtin.firstCells sz n v).run P w = .ok news.toArray w:=by
  intro a cap rd R T;subst T;have p:∀ k,k<n*sz->∃ y,(ys.take n).flatten[k]?=some y:=fun k hk=>⟨(ys.take n).flatten[k]' zOm,zSp⟩
  refine⟨(qu (n*sz)).map rd,zSp,?_,?_,by simp[Builtin.lenOf],?_⟩
  .intro u hu
   obtain⟨k,hk,rfl⟩:=qn.1 hu;obtain⟨y,i⟩:=p k (zUs hk);exact(R k y (o k y i)).2.one (l.one y (zb i))
  .grind
  grind [Builtin.firstCells,run_loadCells]
 unfold qE at h;split at h
 .rename_i full J
  simp only[qv]at h;subst h;cases r with
  |nil =>
   simp_all[List.length_nil,Nat.le_zero,Builtin.lenOf,Builtin.firstCells]
  |emp _ a cap U=>simp_all
  |lst _ _ g a cap cs e fr rd hb hs hl U hi a4 hr T =>
   exact fin a cap rd (fun k y i=>⟨by grind [ZS],T k y i⟩) rfl
 .rename_i b g off len
  split at h
  .rename_i cells U
   split at h
   .rename_i a5
    simp only[qv]at h;cases r with
    |sl _ _ _ _ j a0 cap hb ht hl =>
    obtain⟨arr,e,h1,h2,h3,h4⟩:=s.arr b cells j a0 U hb;have t:ys.length=len:=by rw[<-h];simp
    subst t;by_cases h0:ys.length=0
    .simp_all
    .have C:g=sz:=by
      have I:0<ys.length:=zOm;have hm:(cells.drop (off+0*g)).take g∈ys:=by
       rw[<-h];exact qn.2 ⟨0,zUs I,rfl⟩
      have:=(hz _ hm).1;have a3:g<=ys.length*g:=Nat.le_mul_of_pos_left _ I;simp at this;omega
     subst C;have a1:ys.flatten=(cells.drop off).take (ys.length*g):=by
      grind [W5,List.drop_drop]
     refine fin ⟨j,off,none⟩ cap (fun k=>arr.getD (off+k) qU) (fun k y i=>?_) rfl;rw[a1,vu]at i;split at i
     .rw [uu]at i
      refine⟨?_,(h4 _ y i).2⟩;rw[ZS (a:=⟨j,off,none⟩) h1 rfl];have a6:off+k<cells.length:=(qk.1 i).1;have:off+k<arr.size:=zOm;simp[zc,this]
     grind
   grind
  grind
 grind
theorem sZ{G}(s:Sim G mu w.heap){b off g i cells xs arr e news}(t:mu[b]?=some (.arr cells))(C:G.blk[b]?=some (g,i))
  (I:w.heap[g]?=some (.cells arr e (0,0))) (T:arr.size=i) (U:cells.length<=i) (h4:∀(j) x,cells[j]?=some x->x.one=true/\VRel G w.heap x (arr.getD j qU))
  (l:off+xs.length<=cells.length) (hn:news.length=xs.length) (p:∀ x,x∈xs->x.one=true) (hx:∀(k) x,xs[k]?=some x->VRel G w.heap x (news.getD k qU)) :
  Stp G mu w G (mu.set b (.arr (putCells cells off xs))) (w.setRow g (arr.toList.take off++news++arr.toList.drop (off+news.length)).toArray):=by
 refine sW s b (.arr cells) _ g i (.cells (arr.toList.take off++news++arr.toList.drop (off+news.length)).toArray e (0,0)) t zSp zSp C zSp (setRow_heap w g arr _ e _ I)
  (fun k J=>setRow_other w g k _ J) rfl rfl rfl ?_
 refine⟨_,e,rfl,zSo,by grind [jg],?_⟩;intro j y r;rw[jg _ _ _ l,zB]at r;rw[W4,zS,zB];have P:(arr.toList.take off).length=off:=zSo;have R:(cells.take off).length=off:=zSo;by_cases o:j<off
 .rw [zGa,vu,if_pos o]at r
  rw[zGa,vu,if_pos o,Ym,<-zc]
  grind
 grind [zM,qN,zb,zc]
def delE(es:List (AV×AV)):Option Nat->List (AV×AV)
 |some i=>es.eraseIdx i
 |none=>es
inductive ExtB (P:qb) (mu:Mu):Builtin->Array qc->List AV->AV->Mu->Prop where
 |copy {t t' e:qc} {sz sz0 bt b off len:Nat} {cells:List AV} {ys:List (List AV)} {x:AV} (hs:qJ P t=some (e,sz,bt)) (hc:mu[b]?=some (.arr cells)) (hl:off+len*sz<=cells.length)
   (hr:qE mu x=some ys) (hw:zo sz ys) :
   ExtB P mu .copy #[t,t'] [.sl b sz0 off len,x] (.sc (.int .i64 ((min ys.length len:Nat):Int))) (mu.set b (.arr (putCells cells off (ys.take len).flatten)))
 |clear {t e:qc} {sz bt b off len:Nat} {cells:List AV} {zv:AV} (hs:qJ P t=some (e,sz,bt)) (hz:qB P e=some zv) (hz1:zv.cells.length=sz) (hz2:zv.cells.all AV.one=true) (hz0:sz≠0) (hc:mu[b]?=some (.arr cells)) (hl:off+len*sz<=cells.length) (hp:0<len) :
   ExtB P mu .clear #[t] [.sl b sz off len] (.tup []) (mu.set b (.arr (putCells cells off ((qu (len*sz)).map fun i=>zv.cells.getD (i % sz) .any))))
 |delete {t t' kt et:qc} {b:Nat} {es:List (AV×AV)} {k:AV} {r:Option Nat} (ht:mapT P t=some (kt,et)) (hc:mu[b]?=some (.mp es)) (hk:ju P kt k=true) (hf:zw P kt k es 0=some r) :
   ExtB P mu .delete #[t,t'] [.mp b,k] (.tup []) (mu.set b (.md (delE es r)))
theorem qh2{P G mu'}(s:Sim G mu w.heap){b a6 ty cs args j z}
  (hn:j.size=args.length) (hr:∀(k) x,args[k]?=some x->VRel G w.heap x (j.getD k qU)) (h:ExtB P mu b a6 args z mu') :
  ∃ u w',(builtin b a6 ty cs j).run P w = .ok (.value u) w'/\Stp G mu w G mu' w'/\VRel G w'.heap z u:=by
 cases h with
 | @copy t t' e g b0 bt b off len cells p x hs hc hl ah hw =>
  have r0:=hr 0 _ rfl;have r1:=hr 1 _ rfl;have C:j=#[j.getD 0 qU,j.getD 1 qU]:=by
   have h2:j.size=2:=zUs hn;apply Array.ext
   .simpa using h2
   .intro i hi ai
    have:i=0\/i=1:=zOm;rcases this with rfl|rfl<;>simp[zc,hi]
  generalize j.getD 0 qU=u0 at *
  generalize j.getD 1 qU=u1 at *
  subst C;obtain⟨aj,hu,a7,ak,al⟩:=ux hs;have b1:szOf P e=some g:=by grind [szOf]
  obtain⟨o,a8,a2,a9,av,aw⟩:=qh1 (P:=P) s r1 ah hw (min p.length len) (Nat.min_le_left _ _);have a3:p.take (min p.length len)=p.take len:=by
   rcases Nat.le_total p.length len with h|h
   .grind
   .rw [Nat.min_eq_right h]
  rw[a3]at a9;have aa:zo g (p.take len):=fun r hr=>hw r (jI hr)
  have ax:(p.take len).flatten.length=min p.length len*g:=by
   rw[yQ aa.ok,v8,Nat.min_comm]
  cases r0 with
  |sl _ _ _ _ I a0 cap hb ht an =>
   obtain⟨arr,el,h1,h2,h3,h4⟩:=s.arr b cells I a0 hc hb;have b2:min p.length len*g<=len*g:=Nat.mul_le_mul_right _ (Nat.min_le_right _ _);have T:=sZ s (off:=off) (xs:=(p.take len).flatten) (news:=o) hc hb h1 h2 h3 h4 zOm zOm aa.one a9;have R:=run_storeCells_at P I off el o 0 arr w h1 zOm a2;simp only[Nat.add_zero]at R;refine⟨_,_,?_,T,.sc _ rfl⟩;have ay:Nat.min p.length len=min p.length len:=rfl;simp only[builtin,Builtin.copy_,qS,zN,goInt];simp_all[wt,VT,v6,run_underlying,jK]
 | @clear t e g bt b off len cells zv hs hz ao b3 b4 hc hl hp =>
  have r0:=hr 0 _ rfl;have C:j=#[j.getD 0 qU]:=by
   have h2:j.size=1:=zUs hn;apply Array.ext
   .simpa using h2
   simp_all
  generalize j.getD 0 qU=u0 at *
  subst C;obtain⟨aj,hu,a7,ak,al⟩:=ux hs;obtain⟨z,b5,rfl⟩:=ZR hz w;have ab:∀ c,c∈(ofV z).cells->c.one=true:=fun c hc=>by grind
  obtain⟨c1,c2,c3⟩:=(VRel.ofV (G:=G) (h:=w.heap) z).cells ab;have aq:z.cells.size=g:=by rw[c1,ao]
  have a8:(y9 z.cells len).toList.length=len*g:=by simp[y9,aq]
  have az:∀ i:Nat,i % g<g:=fun i=>Nat.mod_lt i zOm
  have ad:∀ i,i<len*g->(y9 z.cells len).toList.getD i qU=z.cells.getD (i % g) qU:=by
   simp_all[y9,zS,zc,getElem!_pos,ZM]
  cases r0 with
  |sl _ _ _ _ I a0 cap hb ht an =>
   obtain⟨arr,el,h1,h2,h3,h4⟩:=s.arr b cells I a0 hc hb;have a2:∀ v,v∈(y9 z.cells len).toList->v.oneCell'=true:=by
    intro v hv;obtain⟨i,hi⟩:=List.mem_iff_getElem?.1 hv;have ar:i<len*g:=by grind
    have:=ad i ar;rw[zS,hi]at this;simp only[Option.getD_some]at this;simp_all
   have b6:∀(k:Nat) x,((qu (len*g)).map fun i=>(ofV z).cells.getD (i % g) .any)[k]?=some x->k<len*g/\(ofV z).cells[k % g]?=some x:=by
    grind
   have T:=sZ s (off:=off) (xs:=(qu (len*g)).map fun i=>(ofV z).cells.getD (i % g) .any) (news:=(y9 z.cells len).toList) hc hb h1 h2 h3 h4 (zUs hl) (by rw[a8];simp)
    (fun x hx=>by
     grind)
    (fun k x hx=>by
     grind)
   have R:=run_storeCells_at P I off el (y9 z.cells len).toList 0 arr w h1 zOm a2;simp only[Nat.add_zero]at R;refine⟨_,_,?_,T,.tup [] #[] rfl zSp⟩;obtain⟨l,rfl⟩:∃ l,len=l+1:=⟨len-1,zOm⟩;simp_all[builtin,Builtin.clear_,qS,wt,VT,run_underlying]
 | @delete t t' kt et b U k r ht hc ae hf =>
  have r0:=hr 0 _ rfl;have r1:=hr 1 _ rfl;have C:j=#[j.getD 0 qU,j.getD 1 qU]:=by
   have h2:j.size=2:=zUs hn;apply Array.ext
   .simpa using h2
   .intro i hi ai
    have:i=0\/i=1:=zOm;rcases this with rfl|rfl<;>simp[zc,hi]
  generalize j.getD 0 qU=u0 at *
  generalize j.getD 1 qU=u1 at *
  subst C;have hu:=ZT ht;obtain⟨mb,a0,ce,rfl,hb,hh,a4,a5⟩:=Uc s r0 hc;have af:(Instr.checkKey ce.isEmpty 10000 kt u1).run P w = .ok () w:=JO _ r1 ae;have hg:=wv (P:=P) hh;obtain⟨a1,au⟩:=Zn r1 ae a4 hf;have ag:vy ce ce.size := .of rfl a5;cases r with
  |none =>
   refine⟨_,_,?_,sQ s hc zSp hb hh a4 ag,.tup [] #[] rfl zSp⟩;simp only[Option.map_none]at a1;simp[builtin,Builtin.delete_,run_underlying hu,hg,af,a1,Qh hh]
  |some i =>
   refine⟨_,_,?_,sQ s hc zSp hb hh (qhU a4 (au i rfl)) (qhT ag i),.tup [] #[] rfl zSp⟩;simp only[zq]at a1;simp[builtin,Builtin.delete_,run_underlying hu,hg,af,a1,Qh hh]
end
end Go.Ev
namespace Go.Ev
open Go Go.RowKit
section
variable {P:qb}
theorem gQ{g k x}:∀{es i r},zw P g k es i=some r->(r.isSome=true->zw P g k (es++[x]) i=some r)/\(r=none->zw P g k (es++[x]) i=zw P g k [x] (i+es.length))
 | [],i,r,h=>by
  grind [zw]
 |e :: es,i,r,h=>by
  unfold zw at h;split at h
  .rename_i j
   simp only[qv]at h;subst h;refine⟨fun _=>?_,fun h=>absurd h zSp⟩;rw[yP,zw,j]
  .rename_i j
   obtain⟨o,p⟩:=gQ (x:=x) h;refine⟨fun l=>?_,fun l=>?_⟩
   .rw [yP,zw,j];exact o l
   .rw [yP,zw,j]
    simp only;rw[p l,zG];congr 1;omega
  .exact absurd h zSp
theorem gR{mu mu' t m k z l k' v}(h:Yu P mu t m k=some (z,mu'))(j:jC P mu t l k' false=some v):jC P mu' t l k' false=some v:=by
 unfold Yu at h;split at h
 .rename_i b kt et ht
  split at h
  .rename_i U hm
   split at h
   .rename_i I
    split at h
    ·
     rename_i i hf;obtain⟨_,e,T,J⟩:=JQ hf;simp only[Nat.sub_zero]at T;simp only[T,zq,qv,uM]at h;have e1:U.set i (k,e.2)=U:=by
      rw[J];apply jS
      grind
     rw[e1]at h;have e2:mu.set b (.mp U)=mu:=by
      apply jS
      grind
     grind
    .rename_i hf
     cases R:qB P et with
     |none=>simp[R]at h
     |some C =>
      simp only[R,zq,qv,uM]at h;obtain⟨_,rfl⟩:=h;have a0:b<mu.length:=(qk.1 hm).1;unfold jC at j⊢;rw[ht]at j⊢
      have key:ve (mu.set b (.mp (U++[(k,C)]))) l=ve mu l\/(ve mu l=some U/\ve (mu.set b (.mp (U++[(k,C)]))) l=some (U++[(k,C)])):=by
       unfold ve;split
       .exact .inl rfl
       .rename_i b'
        by_cases o:b=b'
        .grind
        grind
       .exact .inl rfl
       .exact .inl rfl
      rcases key with key|⟨k1,k2⟩
      .grind
      .rw [k1]at j
       rw[k2];simp only at j⊢;split at j
       .rename_i g
        rw[if_pos g];cases p:zw P kt k' U 0 with
        |none=>grind
        |some r =>
         rw[p]at j;obtain⟨a1,a2⟩:=gQ (x:=(k,C)) p;cases r with
         |some i =>
          rw[a1 rfl]
          grind
         |none =>
          rw[a2 rfl];simp only[R,zq]at j;obtain⟨bb,o⟩:=gK g I;rw[zw,o];cases bb with
          |true =>
           grind
          |false =>
           grind [zw]
       grind
    grind
   grind
  grind
 grind
theorem qh3{mu mu' t m k z i k' v}(h:Yu P mu t m k=some (z,mu'))(g:yB P mu t i k' false=some v):yB P mu' t i k' false=some v:=by
 cases i with
 |ims U =>
  simp only[yB]at g⊢;cases j:mapT P t with
  |none=>grind
  |some q =>
   rw[j]at g;simp only at g⊢;split at g
   .rename_i l
    rw[if_pos l];exact gR h g
   grind
 |_=>exact gR h g
end
end Go.Ev
namespace Go.Ev
open Go Go.RowKit
section
variable {x:AV}{K:AV->Prop}{h:Array Obj}{g:Array qf}{G:Gh}{xs:List (List AV)}{mu:Mu}{P:qb}{t:qc}{w:qd}
@[go_sem] def Qi(P:qb)(op:BinOp)(t:qc)(x y:AV):Option AV:=
 match x,y with
 | .agg J,.agg i=>match VY P t with
  |some n=>if J.length=n then (match op with
   | .eql=>(aEqs J i).map fun b => .sc (.bool b)
   | .neq=>(aEqs J i).map fun b => .sc (.bool !b)
   |_=>none) else none
  |none=>none
 |x,y=>aBin P op t x y
theorem qh4{n}(h:VY P t=some n):P.eqGuardType P.depth t=false/\((∃ e q,P.underlying t=some (.array n e)/\P.underlying e=some (.int q)/\szOf P e=some 1) \/
  ∃ fs,P.underlying t=some (.struct fs)/\Yn P fs.toList 0=true/\P.stoodInHeld t=false/\fs.size=n):=by
 unfold VY at h;split at h
 .grind
 .grind
 grind
theorem qh5{op y z ox oy u v}(o:VRel G w.heap x u)(p:VRel G w.heap y v)(h:Qi P op t x y=some z) :
    ∃ r,(do eqGuard op t ox oy u v;binOp op t u v:Sem qf).run P w = .ok r w/\VRel G w.heap z r:=by
  unfold Qi at h;split at h
  · rename_i J i
    split at h
    · rename_i n C
      obtain⟨hg,C⟩:=qh4 C;split at h
      · rename_i hl
        have g:=o;have j:=p;cases o with
        |agg _ I hn hv =>
        cases p with
        |agg _ R hm hw =>
        have T:(eqGuard op t ox oy (.agg I) (.agg R)).run P w = .ok () w:=run_eqGuard_agg w op t ox oy I R hg;simp only[qS,T,qW];have heq:∀ b,aEqs J i=some b->(Op.equal t (.agg I) (.agg R)).run P w = .ok b w:=fun b l=>by
          rcases C with ⟨e,q,U,he,hs⟩|⟨fs,U,hf,hp,a0⟩
          · exact gE (G:=G) 9998 U he hs hl g j l
          · exact qhE (G:=G) 9998 U hf hp zOm g j l
        cases op<;>simp only at h<;>first
          | (simp at h;done)
          | (cases l:aEqs J i with
             |none=>simp[l]at h
             |some b =>
               simp only[l,zq,qv]at h;subst h;refine⟨_,?_,.sc _ rfl⟩;simp_all[binOp])
      grind
    grind
  · exact qgP o p h
def wA:qg->Bool
 | .const (.slice none 0 0)=>true
 |_=>false
def vf(P:qb)(det:Bool)(op:BinOp)(t:qc)(x:AV)(K:AV->Prop):Prop:=
 (qJ P t).isSome=true/\(op = .eql\/op = .neq) /\
 match x with
 | .lst _ []=>det=false/\K (.sc (.bool true))/\K (.sc (.bool false))
 | .lst _ (_ :: _) | .sl .. => K (.sc (.bool (decide (op = .neq))))
 |_=>False
theorem qh6(d){t e}(g:P.underlying t=some (.slice e))(b len cap) :
  (Op.equalIn (d+1) t (.slice b len cap) (.slice none 0 0)).run P w = .ok b.isNone w:=by
 cases b<;>simp[Op.equalIn,run_underlying g]
theorem vf.sound{det op ox oy u}(C:VRel G w.heap x u)(h:vf P det op t x K) :
  ∃ z r,K z/\(do eqGuard op t ox oy u (.slice none 0 0);binOp op t u (.slice none 0 0):Sem qf).run P w = .ok r w/\VRel G w.heap z r:=by
 obtain⟨hs,I,h⟩:=h;obtain⟨e,R⟩:∃ e,P.underlying t=some (.slice e):=by
  grind [qJ,ux]
 have key:∀(b:Option Addr)(len cap:Nat),u = .slice b len cap->(do eqGuard op t ox oy u (.slice none 0 0);binOp op t u (.slice none 0 0):Sem qf).run P w = .ok (.bool (if op = .neq then b.isSome else b.isNone)) w:=by
  intro b len cap l;subst l;have T:(eqGuard op t ox oy (.slice b len cap) (.slice none 0 0)).run P w = .ok () w:=by
   simp_all[eqGuard]
  have U:(Op.equal t (.slice b len cap) (.slice none 0 0)).run P w = .ok b.isNone w:=qh6 9999 R b len cap;rcases I with rfl|rfl
  .simp [T,binOp,U]
  simp_all[binOp]
 have fin:∀(b:Bool),K (.sc (.bool b))->∀(c:Option Addr)(len cap:Nat),u = .slice c len cap->(if op = .neq then c.isSome else c.isNone)=b ->
   ∃ z r,K z/\(do eqGuard op t ox oy u (.slice none 0 0);binOp op t u (.slice none 0 0):Sem qf).run P w = .ok r w/\VRel G w.heap z r:=
  fun b hk c len cap l e2=>⟨_,_,hk,key c len cap l,by rw[e2];exact .sc _ rfl⟩
 cases C with
 |nil full =>
  obtain⟨_,o,p⟩:=h;by_cases j:op = .neq
  .grind
  grind
 |emp full a cap hc =>
  obtain⟨_,o,p⟩:=h;by_cases j:op = .neq
  .grind
  grind
 |lst full J g a cap cs e' fr rd hb a0 hl hc hi hz hr hv =>
  cases J with
  |nil =>
   obtain⟨_,o,p⟩:=h;by_cases j:op = .neq
   .grind
   grind
  |cons y i =>
   refine fin _ h (some a) _ cap rfl ?_;by_cases j:op = .neq
   .simp
   simp
 |sl b g off len a1 a2 cap hb ht hl =>
  refine fin _ h (some _) _ cap rfl ?_;by_cases j:op = .neq
  .simp
  simp
 |_=>exact h.elim
theorem vf.det{op}(h:vf P true op t x K):∃ z,K z/\∀ g,g z->vf P true op t x g:=by
 obtain⟨j,i,h⟩:=h;unfold vf;split at h
 .grind
 .grind
 .grind
 grind
theorem vf.mono{det op i}(h:vf P det op t x K)(j:∀ z,K z->i z):vf P det op t x i:=by
 obtain⟨l,g,h⟩:=h;unfold vf;refine⟨l,g,?_⟩;split at h
 .grind
 .exact j _ h
 .exact j _ h
 omega
theorem qh7{y}(h:wA y=true):y = .const (.slice none 0 0):=by
 grind [wA,absurd]
def WK(x y:AV):Prop:=∀(G:Gh)(h:Array Obj)(v:qf),VRel G h x v->VRel ⟨G.imm,[]⟩ h y v
theorem WK.hf(h:HF x):WK x x:=h
theorem VRel.ro{full v}(r:VRel G h (.lst full xs) v):VRel G h (.lst false xs) v:=by
 cases r with
 |nil=>exact .nil _
 |emp _ a cap i=>exact .emp _ a cap zSp
 |lst _ _ g a cap j e l rd o p t i C I J P=>exact .lst _ _ g a cap j e l rd o p t zSp C I J P
theorem WK.lst{full}(h:∀ r,r∈xs->∀ c,c∈r->HF c):WK (.lst full xs) (.lst false xs):=fun G g v r=>VRel.ro (HF.lst h G g v r)
theorem WK.agg{xs ys}(o:ys.length=xs.length)(h:∀(k:Nat) x y,xs[k]?=some x->ys[k]?=some y->WK x y):WK (.agg xs) (.agg ys):=fun G j v r=>by
 cases r with
 |agg _ p t l =>
  refine .agg _ _ zOm (fun k y g=>?_);have C:k<ys.length:=(qk.1 g).1;have i:xs[k]?=some (xs[k]' zOm):=by grind
  exact h k _ y i g G j _ (l k _ i)
def WKs:List AV->List AV->Prop
 | [],[]=>True
 |x :: J,y :: i=>WK x y/\WKs J i
 |_,_=>False
theorem WKs.get:∀{xs ys},WKs xs ys->ys.length=xs.length/\∀(k:Nat) x y,xs[k]?=some x->ys[k]?=some y->WK x y
 | [],[],_=>⟨rfl,zSp⟩
 |x :: xs,y :: ys,⟨h,t⟩=>by
  obtain⟨j,l⟩:=WKs.get t;refine⟨zP1 j,fun k a b g i=>?_⟩;cases k with
  |zero=>simp at g i;subst g;subst i;exact h
  |succ k=>exact l k a b (zUs g) (zUs i)
 | [],_ :: _,h=>h.elim
 |_ :: _,[],h=>h.elim
theorem WK.aggs{xs ys}(h:WKs xs ys):WK (.agg xs) (.agg ys) := .agg h.get.1 h.get.2
def Rds(mu:Mu):List AV->List AV->Prop
 | [],[]=>True
 |x :: J,y :: i=>Rd mu x y/\Rds mu J i
 |_,_=>False
theorem Rds.get:∀{xs ys},Rds mu xs ys->ys.length=xs.length/\∀(k:Nat) x y,xs[k]?=some x->ys[k]?=some y->Rd mu x y
 | [],[],_=>⟨rfl,zSp⟩
 |x :: xs,y :: ys,⟨h,t⟩=>by
  obtain⟨j,l⟩:=Rds.get t;refine⟨zP1 j,fun k a b g i=>?_⟩;cases k with
  |zero=>simp at g i;subst g;subst i;exact h
  |succ k=>exact l k a b (zUs g) (zUs i)
 | [],_ :: _,h=>h.elim
 |_ :: _,[],h=>h.elim
def MuLe(mu mu':Mu):Prop:=∀(b:Nat) c,mu[b]?=some c->mu'[b]?=some c
theorem MuLe.push(mu c):MuLe mu (mu++[c]):=fun b x h=>by grind
def JR(P:qb)(mu:Mu)(f:AV)(args:List AV)(v:AV):Prop:=
 (∃ g first j i,f = .fn (.func g) first j/\qi P g i v/\(WKs (first++args++j) i\/(Rds mu (first++args++j) i/\FL v))) \/
 ∃ g first j i,f = .fn (.func g) first j/\qg9 P g i v/\Rds mu (first++args++j) i
def Zo(P:qb)(i:Nat)(args:List AV)(mu:Mu)(R:Bool->Mu->Prop):Prop:=
 ∀(G:Gh)(w:qd)(r:Array qf),Sim G mu w.heap->ya G w.heap args r->∀(l p:Nat),G.blk[i]?=some (l,p) ->
  ∃ fn g assign o,(Instr.yield l r).run P w = .ok (.round l fn g assign o) w /\
   RoundIn Fence.wide 0 P l fn g assign o w fun e t=>∃ b C j,e = .returned (.bool b)/\Stp G mu w C j t/\R b j
def qh(P:qb)(det:Bool)(mu:Mu)(f:AV)(args:List AV)(K o:AV->Mu->Prop):Prop:=
 (∃ v,JR P mu f args v/\K v mu) \/
 (det=false/\((∃ g first l R,f = .fn (.func g) first l/\qD P g (first++args++l) mu R/\(∀ r j,R (.ret r) j->K r j)/\(∀ r j,R (.pan r) j->o r j)) \/
  ∃ i R,f = .yl i/\Zo P i args mu R/\∀ b j,R b j->K (.sc (.bool b)) j))
def OptK{I:Type}(o:Option I)(k:I->Prop):Prop:=∃ v,o=some v/\k v
@[go_sem] def lenA(P:qb)(mu:Mu)(t:qc):AV->Option AV
 | .lst _ J=>if (qJ P t).isSome then some (.sc (.int .i64 J.length)) else none
 | .sl _ _ _ len=>if (qJ P t).isSome then some (.sc (.int .i64 len)) else none
 | .sc (.string s)=>match P.underlying t with|some .string=>some (.sc (.int .i64 s.size))|_=>none
 | .im U=>match P.underlying t with|some (.map _ _)=>some (.sc (.int .i64 U.length))|_=>none
 | .ims U=>match P.underlying t with|some (.map _ _)=>some (.sc (.int .i64 U.length))|_=>none
 | .mp b=>match P.underlying t,mu[b]? with|some (.map _ _),some (.mp U)=>some (.sc (.int .i64 U.length))|_,_=>none
 |_=>none
@[go_sem] def minA:AV->AV->Option AV
 | .sc (.int k x),.sc (.int _ y)=>some (.sc (.int k (if y<x then y else x)))
 |_,_=>none
@[go_sem] def maxA:AV->AV->Option AV
 | .sc (.int k x),.sc (.int _ y)=>some (.sc (.int k (if y > x then y else x)))
 |_,_=>none
@[go_sem] def uO(P:qb)(mu:Mu)(b:Builtin)(g:Array qc)(args:List AV):Option AV:=
 match b,args,g[0]? with
 | .len,[x],some t=>lenA P mu t x
 | .cap,[.lst true J],some t=>if (qJ P t).isSome then some (.sc (.int .i64 J.length)) else none
 | .min,[x,y],_=>minA x y
 | .max,[x,y],_=>maxA x y
 |_,_,_=>none
theorem Xi(h:(qJ P t).isSome=true):∃ e,P.underlying t=some (.slice e):=by
 grind [qJ,ux]
theorem ya.one_inv(r:ya G h [x] g):∃ v,g=#[v]/\VRel G h x v:=by
 obtain⟨j,l⟩:=r;have:=l 0 x rfl;refine⟨g.getD 0 qU,?_,this⟩;have i:g.size=1:=zUs j;apply Array.ext
 .simpa using i
 simp_all
theorem ya.two_inv{y}(r:ya G h [x,y] g):∃ u v,g=#[u,v]/\VRel G h x u/\VRel G h y v:=by
 obtain⟨o,l⟩:=r;have a:=l 0 x rfl;have b:=l 1 y rfl;refine⟨g.getD 0 qU,g.getD 1 qU,?_,a,b⟩;have j:g.size=2:=zUs o;apply Array.ext
 .simpa using j
 .intro i p t
  have:i=0\/i=1:=zOm;rcases this with rfl|rfl<;>simp[zc,p]
theorem qh8(s:Sim G mu w.heap){t ty x z v}(r:VRel G w.heap x v)(h:lenA P mu t x=some z)(j)(o:j[0]?=some t) :
  ∃ u,(Builtin.len_ j ty #[v]).run P w = .ok u w/\VRel G w.heap z u:=by
 unfold lenA at h;split at h
 .split at h
  .rename_i p
   simp only[qv]at h;subst h;obtain⟨e,i⟩:=Xi p;obtain⟨a,cap,rfl,_⟩:=r.lst_inv;exact⟨_,by simp[Builtin.len_,o,run_underlying i,goInt],.sc _ rfl⟩
  grind
 .split at h
  .rename_i p
   simp only[qv]at h;subst h;obtain⟨e,i⟩:=Xi p;cases r;exact⟨_,by simp[Builtin.len_,o,run_underlying i,goInt],.sc _ rfl⟩
  grind
 .split at h
  .rename_i i
   simp only[qv]at h;subst h;cases r;exact⟨_,by simp[Builtin.len_,o,run_underlying i,goInt],.sc _ rfl⟩
  grind
 .split at h
  .rename_i i
   simp only[qv]at h;subst h;cases r with
   |im _ g ce clock l R J T hv hd =>
   have C:(getObj g).run P w = .ok (.map ce clock) w:=by simp[getObj,Sem.run,l]
   exact⟨_,by simp_all[Builtin.len_,run_underlying,goInt],.sc _ rfl⟩
  grind
 .split at h
  .rename_i i
   simp only[qv]at h;subst h;cases r with
   |ims _ a0 σ τ _ hp hd r =>
   cases r with
   |im _ g ce clock l R J T hv a1 =>
   have C:(getObj g).run P w = .ok (.map ce clock) w:=by simp[getObj,Sem.run,l]
   exact⟨_,by simp[Builtin.len_,o,run_underlying i,goInt,C,J,hp.1],.sc _ rfl⟩
  grind
 .split at h
  .rename_i U i hm
   simp only[qv]at h;subst h;cases r with
   |mp _ g I l =>
   obtain⟨ce,cl,h1,h2,_⟩:=s.mp _ U g I hm l;have C:(getObj g).run P w = .ok (.map ce cl) w:=by simp[getObj,Sem.run,h1]
   exact⟨_,by simp_all[Builtin.len_,run_underlying,goInt],.sc _ rfl⟩
  grind
 grind
theorem qh9(s:Sim G mu w.heap){b g ty cs args o z}(r:ya G w.heap args o)
  (h:uO P mu b g args=some z):∃ u,(builtin b g ty cs o).run P w = .ok (.value u) w/\VRel G w.heap z u:=by
 unfold uO at h;split at h
 .rename_i j
  obtain⟨v,rfl,i⟩:=r.one_inv;obtain⟨u,I,J⟩:=qh8 s i h g j (ty:=ty);simp_all[builtin]
 .rename_i j
  obtain⟨v,rfl,i⟩:=r.one_inv;split at h
  .rename_i p
   simp only[qv]at h;subst h;obtain⟨e,t⟩:=Xi p;obtain⟨a,cap,rfl,_,C,_⟩:=i.lst_inv;have:=C rfl;subst this;exact⟨_,by simp[builtin,Builtin.cap_,j,run_underlying t,goInt],.sc _ rfl⟩
  grind
 .obtain ⟨u,v,rfl,l,i⟩:=r.two_inv
  unfold minA at h;split at h
  .simp only[qv]at h;subst h
   cases l;cases i;exact⟨_,by simp[builtin,Builtin.min_,Builtin.min2],.sc _ rfl⟩
  grind
 .obtain ⟨u,v,rfl,l,i⟩:=r.two_inv
  unfold maxA at h;split at h
  .simp only[qv]at h;subst h
   cases l;cases i;exact⟨_,by simp[builtin,Builtin.max_,Builtin.max2],.sc _ rfl⟩
  grind
 grind
end
end Go.Ev
