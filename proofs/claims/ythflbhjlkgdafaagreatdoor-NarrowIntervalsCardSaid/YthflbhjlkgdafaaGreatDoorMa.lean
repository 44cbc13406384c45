/-
  Own library, part 1: an abstract reading of values and a calculus over it; contracts of functions; plain lemmas.
-/
import GoSem.Claim
import Derived.WalkKit
import Derived.Laws.AppendOwn
import Derived.Laws.CopyRow
import Derived.Below
import Derived.RangeFuncRecord
import Derived.Laws.BytesString
import Derived.IntWalk
import Derived.Lib.AppendZerosOnto
set_option linter.unusedVariables false
set_option linter.unusedSimpArgs false
set_option maxRecDepth 100000
open Go renaming Value->qf,World->qe,TypeId->qd,MapEntry->yc,undef->z6,Program->qc,Operand->qh,FuncId->zV
open List renaming getElem?_eq_some_iff->ql,mem_map->qp,range->qu,getElem?_eq_getElem->qy,mem_cons->qz,getElem?_append_left->qL,replicate->qM,all_eq_true->qY,mem_of_getElem?->q8,map_append->zi,length_append->zj,getElem?_map->zz,getD_eq_getElem?_getD->zH,append_assoc->zL,length_map->zT,getElem?_append_right->zZ,cons_append->yq,length_cons->yy,getElem?_take->vf,ext_getElem?->vg,getElem?_cons_succ->vW,mem_of_mem_take->vZ,length_take->ub,take_append_drop->uJ,getElem?_drop->uK,eq_nil_of_length_eq_zero->uM,flatten_cons->wm,getElem?_toArray->Qb,getElem?_cons_zero->Ye,mem_flatten->py
open Nat renaming le_refl->qn,le_trans->zQ
open Go.IntKind renaming i64->qo
open Option.some renaming injEq->qs
open Bool renaming and_eq_true->qD
open Go.Sem renaming run_bind->qQ,run_pure->zJ
open Go.Result renaming andThen_ok->qS
open Array renaming getD_eq_getD_getElem?->qU,getElem?_eq_some_iff->yI,getElem?_eq_getElem->Qc,getElem?_toList->Jz
open Option renaming map_some->zh,map_eq_some_iff->vX
open Go.Builtin renaming zeroCells->ja
open Prod.mk renaming injEq->wo
namespace Go
abbrev dC:=ByteArray
section
variable {a b p:Prop}
theorem zOm(h:p:=by omega):p:=h
theorem zSi(h:p:=by simp[go_sem]):p:=h
theorem zS1(x:a)(h:a->p:=by intro x;simp[go_sem,x]):p:=h x
theorem zS2(x:a)(y:b)(h:a->b->p:=by intro x y;simp[go_sem,x,y]):p:=h x y
theorem zS3{c:Prop}(x:a)(y:b)(z:c)(h:a->b->c->p:=by intro x y z;simp[go_sem,x,y,z]):p:=h x y z
theorem zKr(h:p:=by kernel_rfl):p:=h
theorem zSp(h:p:=by simp):p:=h
theorem zP1(x:a)(h:a->p:=by intro x;simp[x]):p:=h x
theorem zSo(h:p:=by simp;omega):p:=h
theorem zUs(x:a)(h:a->p:=by intro x;simpa using x):p:=h x
theorem zVs(x:a)(h:a->p:=by intro x;simpa[go_sem] using x):p:=h x
theorem zW1(x:a)(h:a->p:=by intro x;omega):p:=h x
theorem zW2(x:a)(y:b)(h:a->b->p:=by intro x y;omega):p:=h x y
theorem zDe(h:p:=by decide):p:=h
theorem zIn{c}[Decidable c]{C}{a b:C}(h:¬c:=by omega):(if c then a else b)=b:=if_neg h
theorem zGl{C}{l:List C}{i j a}(h:i≠j:=by omega):(l.set i a)[j]?=l[j]?:=List.getElem?_set_ne h
theorem zGa{C}{l m:List C}{i}(h:i<l.length:=by omega):(l++m)[i]?=l[i]?:=qL h
end
end Go
namespace Go.Ev
open Go
def tabs:List (Nat×List qf):=[(0,[.int .u64 1,.int .u64 10,.int .u64 100,.int .u64 1000,.int .u64 10000,.int .u64 100000,.int .u64 1000000,.int .u64 10000000,.int .u64 100000000,.int .u64 1000000000,.int .u64 10000000000,.int .u64 100000000000,.int .u64 1000000000000,.int .u64 10000000000000,.int .u64 100000000000000,.int .u64 1000000000000000,.int .u64 10000000000000000,.int .u64 100000000000000000,.int .u64 1000000000000000000,.int .u64 10000000000000000000])]
end Go.Ev
namespace Go.Ev
open Go
section
variable {C:Type}{h h':Array Obj}{w:qe}
inductive AV where
 |any
 |sc (v:qf)
 |lst (full:Bool) (xs:List (List AV))
 |sl (b sz off len:Nat)
 |agg (cs:List AV)
 |tup (vs:List AV)
 |ip (cs:List AV)
 |ptr (b off:Nat)
 |mp (b:Nat)
 |im (es:List (AV×AV))
 |ims (es:List (AV×AV))
 |fn (f:Fn) (first caps:List AV)
 |ifc (t:qd) (v:AV)
 |yl (b:Nat)
 deriving Inhabited
def pz:qf->Bool
 | .bool _ | .int _ _ | .float _ _ | .complex _ _ _ | .string _ | .pointer none | .map none | .chan none | .nilFunc | .nilIface=>true
 | .tuple ⟨[]⟩=>true
 |_=>false
def ofC:qf->AV
 | .slice none 0 0 => .lst true []
 | .func f ⟨[]⟩ ⟨[]⟩ => .fn f [] []
 |v=>if pz v then .sc v else .any
def ofV:qf->AV
 | .agg g => .agg (g.toList.map ofC)
 |v=>ofC v
def AV.cells:AV->List AV
 | .agg g=>g
 |v=>[v]
def AV.one:AV->Bool
 | .any | .agg _ | .tup _=>false
 | .sc v=>v.oneCell'
 |_=>true
structure Gh where
 imm:Nat->Prop
 blk:List (Nat×Nat)
variable {G G':Gh}
structure Gh.le (G G':Gh):Prop where
 imm:∀ b,G.imm b->G'.imm b
 blk:∀(i:Nat)(x:Nat×Nat),G.blk[i]?=some x->G'.blk[i]?=some x
theorem Gh.le.refl(G:Gh):G.le G:=⟨fun _ h=>h,fun _ _ h=>h⟩
theorem Gh.le.trans{A B C:Gh}(h:A.le B)(k:B.le C):A.le C:=⟨fun b x=>k.imm b (h.imm b x),fun i x y=>k.blk i x (h.blk i x y)⟩
structure Ext (G:Gh) (h h':Array Obj):Prop where
 size:h.size<=h'.size
 keep:∀ b,G.imm b->h'[b]?=h[b]?
theorem Ext.refl(G h):Ext G h h:=⟨qn _,fun _ _=>rfl⟩
def PIx(σ i:Nat->Nat)(es g:List C):Prop:=g.length=es.length/\∀ k,k<es.length->σ k<es.length/\i k<es.length/\i (σ k)=k/\σ (i k)=k/\g[σ k]?=es[k]?
theorem PIx.refl(es:List C):PIx id id es es:=⟨rfl,fun k h=>⟨h,h,rfl,rfl,rfl⟩⟩
theorem PIx.back{σ i}{es g:List C}(p:PIx σ i es g){j}(h:j<es.length):g[j]?=es[i j]?:=by
 obtain⟨o,l,t,I,J⟩:=p.2 j h;have:=(p.2 (i j) l).2.2.2.2
 grind
def vj(ce:Array yc)(clock:Nat):Prop:=(∀(k:Nat)(e:yc),ce[k]?=some e->e.born<clock)/\∀(j k:Nat)(e f:yc),ce[j]?=some e->ce[k]?=some f->e.born=f.born->j=k
theorem vj.of{ce clock}(p:clock=ce.size)(g:∀(k) (e:yc),ce[k]?=some e->e.born=k):vj ce clock:=
 ⟨fun k e h=>by grind,fun j k e f i l o=>by rw[<-g j e i,<-g k f l,o]⟩
inductive VRel (G:Gh) (h:Array Obj):AV->qf->Prop
 |any (v:qf):VRel G h .any v
 |sc (v:qf) (hv:pz v=true):VRel G h (.sc v) v
 |nil (full:Bool):VRel G h (.lst full []) (.slice none 0 0)
 |emp (full:Bool) (a:Addr) (cap:Nat) (hc:full=true->cap=0):VRel G h (.lst full []) (.slice (some a) 0 cap)
 |lst (full:Bool) (xs:List (List AV)) (sz:Nat) (a:Addr) (cap:Nat) (cs:Array qf) (e:qd) (fr:Nat×Nat) (rd:Nat->qf)
   (hb:h[a.block]?=some (.cells cs e fr)) (hs:a.spot=none) (hl:xs.length<=cap) (hc:full=true->cap=xs.length) (hi:G.imm a.block)
   (hz:∀ r,r∈xs->r.length=sz)
   (hr:∀(k:Nat) x,xs.flatten[k]?=some x->cs[a.off+k]?=some (rd k))
   (hv:∀(k:Nat) x,xs.flatten[k]?=some x->VRel G h x (rd k)):VRel G h (.lst full xs) (.slice (some a) xs.length cap)
 |sl (b sz off len blk tot cap:Nat) (hb:G.blk[b]?=some (blk,tot)) (ht:off+cap*sz<=tot) (hl:len<=cap) :
   VRel G h (.sl b sz off len) (.slice (some ⟨blk,off,none⟩) len cap)
 |agg (cs:List AV) (vs:Array qf) (hn:vs.size=cs.length) (hv:∀(k:Nat) x,cs[k]?=some x->VRel G h x (vs.getD k z6)):VRel G h (.agg cs) (.agg vs)
 |tup (cs:List AV) (vs:Array qf) (hn:vs.size=cs.length) (hv:∀(k:Nat) x,cs[k]?=some x->VRel G h x (vs.getD k z6)):VRel G h (.tup cs) (.tuple vs)
 |ip (cs:List AV) (a:Addr) (arr:Array qf) (e:qd) (fr:Nat×Nat) (rd:Nat->qf)
   (hb:h[a.block]?=some (.cells arr e fr)) (hs:a.spot=none) (hi:G.imm a.block)
   (hr:∀(k:Nat) x,cs[k]?=some x->arr[a.off+k]?=some (rd k))
   (hv:∀(k:Nat) x,cs[k]?=some x->VRel G h x (rd k)):VRel G h (.ip cs) (.pointer (some a))
 |ptr (b off blk tot:Nat) (hb:G.blk[b]?=some (blk,tot)):VRel G h (.ptr b off) (.pointer (some ⟨blk,off,none⟩))
 |mp (b blk tot:Nat) (hb:G.blk[b]?=some (blk,tot)):VRel G h (.mp b) (.map (some blk))
 |im (es:List (AV×AV)) (blk:Nat) (ce:Array yc) (clock:Nat) (hb:h[blk]?=some (.map ce clock)) (hi:G.imm blk) (hn:ce.size=es.length)
   (hk:∀(k:Nat) x,es[k]?=some x->VRel G h x.1 (ce.getD k default).key) (hv:∀(k:Nat) x,es[k]?=some x->VRel G h x.2 (ce.getD k default).val)
   (hd:vj ce clock):VRel G h (.im es) (.map (some blk))
 |ims (es es':List (AV×AV)) (σ τ:Nat->Nat) (v:qf) (hp:PIx σ τ es es') (hd:(es.map Prod.fst).Nodup) (r:VRel G h (.im es') v):VRel G h (.ims es) v
 |fn (f:Fn) (first caps:List AV) (vs ws:Array qf) (hn:vs.size=first.length) (hm:ws.size=caps.length)
   (hv:∀(k:Nat) x,first[k]?=some x->VRel G h x (vs.getD k z6)) (hw:∀(k:Nat) x,caps[k]?=some x->VRel G h x (ws.getD k z6)):VRel G h (.fn f first caps) (.func f vs ws)
 |ifc (t:qd) (x:AV) (v:qf) (hv:VRel G h x v):VRel G h (.ifc t x) (.iface t v)
 |yl (b blk tot:Nat) (hb:G.blk[b]?=some (blk,tot)):VRel G h (.yl b) (.func (.yield blk) #[] #[])
theorem VRel.mono(I:G.le G')(he:Ext G h h'){x v}(r:VRel G h x v):VRel G' h' x v:=by
 induction r with
 |any v=>exact .any v
 |sc v o=>exact .sc v o
 |nil full=>exact .nil full
 |emp full a cap hc=>exact .emp full a cap hc
 |lst full p sz a cap P e fr rd j hs hl hc C hz hr o l=>exact .lst full p sz a cap P e fr rd (by rw[he.keep _ C];exact j) hs hl hc (I.imm _ C) hz hr l
 |sl b sz off len g i cap j ht hl=>exact .sl b sz off len g i cap (I.blk _ _ j) ht hl
 |agg P U R o l=>exact .agg P U R l
 |tup P U R o l=>exact .tup P U R l
 |ip P a arr e fr rd j hs C hr o l=>exact .ip P a arr e fr rd (by rw[he.keep _ C];exact j) hs (I.imm _ C) hr l
 |ptr b off g i j=>exact .ptr b off g i (I.blk _ _ j)
 |mp b g i j=>exact .mp b g i (I.blk _ _ j)
 |im J g ce clock j C R hk o hd a1 T=>exact .im J g ce clock (by rw[he.keep _ C];exact j) (I.imm _ C) R a1 T hd
 |ims J a2 σ τ v hp hd r l=>exact .ims J a2 σ τ v hp hd l
 |fn f first a0 U ws R hm o hw T a3=>exact .fn f first a0 U ws R hm T a3
 |ifc t x v o l=>exact .ifc t x v l
 |yl b g i j=>exact .yl b g i (I.blk _ _ j)
theorem VRel.le(g:G.le G'){x v}(r:VRel G h x v):VRel G' h x v:=r.mono g (.refl _ _)
theorem VRel.ext{g}(i:Ext G h g){x v}(r:VRel G h x v):VRel G g x v:=r.mono (.refl _) i
theorem VRel.ofC(v):VRel G h (ofC v) v:=by
 unfold Ev.ofC;split
 .exact .nil true
 .exact .fn _ [] [] _ _ rfl rfl zSp zSp
 .split
  .rename_i g;exact .sc v g
  .exact .any v
theorem VRel.ofV(v):VRel G h (ofV v) v:=by
 unfold Ev.ofV;split
 .rename_i i
  refine .agg _ _ zSp ?_;intro k x g;simp only[zz,vX,Jz]at g;obtain⟨v,j,rfl⟩:=g;have:i.getD k z6=v:=by simp[qU,j]
  rw[this];exact .ofC v
 .exact .ofC v
theorem VRel.one{x v}(r:VRel G h x v)(g:x.one=true):v.oneCell'=true:=by
 cases r with
 |ims _ _ _ _ _ _ _ r=>cases r;rfl
 |_=>simp_all[AV.one,Value.oneCell']
theorem qf5{v:qf}(h:v.oneCell'=true):v.cells=#[v]:=by
 cases v<;>simp_all[Value.cells,Value.oneCell']
theorem VRel.cells{x v}(r:VRel G h x v)(o:∀ c,c∈x.cells->c.one=true) :
  v.cells.size=x.cells.length/\(∀(k) c,x.cells[k]?=some c->VRel G h c (v.cells.getD k z6))/\(∀ u,u∈v.cells.toList->u.oneCell'=true):=by
 by_cases C:∃ j,x = .agg j
 .obtain ⟨j,rfl⟩:=C
  cases r with
  |agg _ I J p =>
   refine⟨by simpa[Value.cells,AV.cells] using J,by simpa[Value.cells,AV.cells] using p,?_⟩;intro u t;simp only[Value.cells]at t;obtain⟨k,g⟩:=List.mem_iff_getElem?.1 t;rw[Jz]at g;have l:k<j.length:=by
    grind
   have i:=p k j[k] (zP1 l);have:I.getD k z6=u:=by simp[qU,g]
   rw[this]at i;exact i.one (o _ (by simp[AV.cells]))
 .have e:x.cells=[x]:=by cases x<;>simp_all[AV.cells]
  have i:=r.one (o x (zP1 e));rw[qf5 i,e];refine⟨rfl,?_,zP1 i⟩;intro k c g;cases k with
  |zero=>simp at g;subst g;simpa using r
  |succ k=>simp at g
inductive Cell where
 |arr (cells:List AV)
 |mp (es:List (AV×AV))
 |md (es:List (AV×AV))
 |it (es:List (AV×AV)) (seen:List Nat)
 |lp (r:Loop) (tm:Nat->AV)
 |dead
 deriving Inhabited
abbrev Mu:=List Cell
variable {mu:Mu}
def Live(G:Gh)(mu:Mu)(b:Nat):Prop:=∃(i:Nat) (c:Cell) (g:Nat),mu[i]?=some c/\c ≠ .dead/\G.blk[i]?=some (b,g)
def uB(G:Gh)(h:Array Obj)(l:Nat)(o:Obj):Cell->Prop
 | .arr cells=>∃ t e,o = .cells t e (0,0)/\t.size=l/\cells.length<=l/\∀(j:Nat) x,cells[j]?=some x->x.one=true/\VRel G h x (t.getD j z6)
 | .mp J=>∃ ce clock,o = .map ce clock/\ce.size=J.length/\(∀(k:Nat) x,J[k]?=some x->VRel G h x.1 (ce.getD k default).key)/\(∀(k:Nat) x,J[k]?=some x->VRel G h x.2 (ce.getD k default).val) /\
   clock=ce.size/\(∀(k:Nat)(e:yc),ce[k]?=some e->e.born=k)
 | .md J=>∃ ce clock,o = .map ce clock/\ce.size=J.length/\(∀(k:Nat) x,J[k]?=some x->VRel G h x.1 (ce.getD k default).key)/\(∀(k:Nat) x,J[k]?=some x->VRel G h x.2 (ce.getD k default).val)/\vj ce clock
 | .it J seen=>(∃ m p C I ce g,VRel G h (.im p) (.map (some m))/\h[m]?=some (.map ce g)/\G.imm m/\PIx C I J p/\(∀ i,i∈seen->i<J.length)/\o = .mapIter (some m) g (seen.map fun i=>(ce.getD (C i) default).born).toArray g)\/(J=[]/\o = .mapIter none 0 #[] 0)
 | .lp r P=>o = .loop r/\∀ i,VRel G h (P i) (r.tmps.getD i z6)
 | .dead=>True
theorem uB.mono(l:G.le G')(p:Ext G h h'){R o c}(r:uB G h R o c):uB G' h' R o c:=by
  cases c with
  |arr cells=>obtain⟨cs,e,I,P,t,C⟩:=r;exact⟨cs,e,I,P,t,fun j x g=>⟨(C j x g).1,(C j x g).2.mono l p⟩⟩
  |mp J=>obtain⟨ce,T,I,P,t,C,U⟩:=r;exact⟨ce,T,I,P,fun k x g=>(t k x g).mono l p,fun k x g=>(C k x g).mono l p,U⟩
  |md J=>obtain⟨ce,T,I,P,t,C,U⟩:=r;exact⟨ce,T,I,P,fun k x g=>(t k x g).mono l p,fun k x g=>(C k x g).mono l p,U⟩
  | it J seen =>
                  rcases r with ⟨m,a0,σ,τ,ce,a1,I,P,t,C⟩|r
                  · exact .inl ⟨m,a0,σ,τ,ce,a1,I.mono l p,by rw[p.keep _ t];exact P,l.imm _ t,C⟩
                  · exact .inr r
  |lp r1 tm=>exact⟨r.1,fun i=>(r.2 i).mono l p⟩
  |dead=>trivial
theorem uB.le(i:G.le G'){g o c}(r:uB G h g o c):uB G' h g o c:=r.mono i (.refl _ _)
def ZF(g:Nat->Prop)(h:Array Obj):Prop:=∀ x,x∈tabs->g x.1/\∃ e i,h[x.1]?=some (.cells x.2.toArray e i)
theorem ZF.mono{i g j}(t:ZF i h)(o:∀ b,i b->g b)(p:∀ b,i b->j[b]?=h[b]?):ZF g j:=fun x l=>by
 obtain⟨C,e,I,J⟩:=t x l
 grind
structure Sim (G:Gh) (mu:Mu) (h:Array Obj):Prop where
 len:G.blk.length=mu.length
 imm:∀ b,G.imm b->b<h.size
 obj:∀(i:Nat)(c:Cell) blk tot,mu[i]?=some c->c ≠ .dead->G.blk[i]?=some (blk,tot)->∃ o,h[blk]?=some o/\uB G h tot o c
 live:∀(i:Nat)(c:Cell) blk tot,mu[i]?=some c->c ≠ .dead->G.blk[i]?=some (blk,tot)->¬G.imm blk
 inj:∀(i j:Nat)(ci cj:Cell) b ti tj,mu[i]?=some ci->mu[j]?=some cj->ci ≠ .dead->cj ≠ .dead->G.blk[i]?=some (b,ti)->G.blk[j]?=some (b,tj)->i=j
 tab:ZF G.imm h
theorem Sim.bare(s:Sim G mu h):Sim ⟨G.imm,[]⟩ [] h:=
 ⟨rfl,s.imm,fun i c b t h=>by simp at h,fun i c b t h=>by simp at h,fun i j ci g b t l h=>by simp at h,s.tab⟩
theorem Sim.arr(s:Sim G mu h)(i:Nat)(cells l g)(p:mu[i]?=some (.arr cells))(t:G.blk[i]?=some (l,g)) :
  ∃ cs e,h[l]?=some (.cells cs e (0,0))/\cs.size=g/\cells.length<=g/\∀(j) x,cells[j]?=some x->x.one=true/\VRel G h x (cs.getD j z6):=by
 obtain⟨o,C,cs,e,rfl,h⟩:=s.obj i _ l g p zSp t;exact⟨cs,e,C,h⟩
theorem Sim.mp(s:Sim G mu h)(i:Nat)(es g j)(l:mu[i]?=some (.mp es))(p:G.blk[i]?=some (g,j)) :
  ∃ ce clock,h[g]?=some (.map ce clock)/\ce.size=es.length/\(∀(k) x,es[k]?=some x->VRel G h x.1 (ce.getD k default).key)/\(∀(k) x,es[k]?=some x->VRel G h x.2 (ce.getD k default).val) /\
   clock=ce.size/\(∀(k)(e:yc),ce[k]?=some e->e.born=k):=by
 obtain⟨o,t,ce,C,rfl,h⟩:=s.obj i _ g j l zSp p;exact⟨ce,C,t,h⟩
theorem Sim.md(s:Sim G mu h)(i:Nat)(es g j)(l:mu[i]?=some (.md es))(p:G.blk[i]?=some (g,j)) :
  ∃ ce clock,h[g]?=some (.map ce clock)/\ce.size=es.length/\(∀(k) x,es[k]?=some x->VRel G h x.1 (ce.getD k default).key)/\(∀(k) x,es[k]?=some x->VRel G h x.2 (ce.getD k default).val)/\vj ce clock:=by
 obtain⟨o,t,ce,C,rfl,h⟩:=s.obj i _ g j l zSp p;exact⟨ce,C,t,h⟩
theorem Sim.livesize(s:Sim G mu h){b}(l:Live G mu b):b<h.size:=by
 obtain⟨i,c,g,j,p,t⟩:=l;obtain⟨o,C,_⟩:=s.obj i c b g j p t
 grind
theorem Sim.all(s:Sim G mu h):Sim ⟨fun b=>G.imm b\/Live G mu b,[]⟩ [] h:=
 ⟨rfl,fun b h=>h.elim (s.imm b) (fun l=>s.livesize l),fun i c b t h=>by simp at h,fun i c b t h=>by simp at h,fun i j ci g b t o h=>by simp at h,s.tab.mono (fun b h => .inl h) (fun b h=>rfl)⟩
structure Stp (G:Gh) (mu:Mu) (w:qe) (G':Gh) (mu':Mu) (w':qe):Prop where
 le:G.le G'
 sim:Sim G' mu' w'.heap
 keep:∀ b,b<w.heap.size->¬Live G mu b->w'.heap[b]?=w.heap[b]?
 size:w.heap.size<=w'.heap.size
 live:∀ b,Live G' mu' b->Live G mu b\/w.heap.size<=b
 inew:∀ b,G'.imm b->G.imm b\/Live G mu b\/w.heap.size<=b
 tape:w'.tape=w.tape
 os:w'.os=w.os
 output:w'.output=w.output
 drawn:w.drawn<=w'.drawn
theorem Stp.ext{mu' w'}(s:Sim G mu w.heap)(t:Stp G mu w G' mu' w'):Ext G w.heap w'.heap:=
 ⟨t.size,fun b j=>t.keep b (s.imm b j) (fun⟨i,c,g,l,o,p⟩=>s.live i c b g l o p j)⟩
theorem Stp.vrel{mu' w'}(s:Sim G mu w.heap)(t:Stp G mu w G' mu' w'){x v}(r:VRel G w.heap x v):VRel G' w'.heap x v:=
 r.mono t.le (t.ext s)
theorem Stp.refl(s:Sim G mu w.heap):Stp G mu w G mu w:=
 ⟨.refl G,s,fun _ _ _=>rfl,qn _,fun _ h => .inl h,fun _ h => .inl h,rfl,rfl,rfl,qn _⟩
theorem Stp.trans{A B C a b c u v}(s:Sim A a u.heap)(h:Stp A a u B b v)(k:Stp B b v C c w):Stp A a u C c w:=by
 refine⟨h.le.trans k.le,k.sim,?_,zQ h.size k.size,?_,?_,k.tape.trans h.tape,k.os.trans h.os,k.output.trans h.output,zQ h.drawn k.drawn⟩
 .intro x i j
  rw[k.keep x (Nat.lt_of_lt_of_le i h.size) (fun l=>(h.live x l).elim j (fun g=>absurd i (Nat.not_lt.2 g))),h.keep x i j]
 .intro x i
  rcases k.live x i with l|l
  .exact h.live x l
  .exact .inr (zQ h.size l)
 .intro x i
  rcases k.inew x i with l|l|l
  .exact h.inew x l
  .exact .inr (h.live x l)
  .exact .inr (.inr (zQ h.size l))
theorem Stp.drew(s:Sim G mu w.heap):Stp G mu w G mu w.drew:=
 ⟨.refl G,s,fun _ _ _=>rfl,qn _,fun _ h => .inl h,fun _ h => .inl h,rfl,rfl,rfl,Nat.le_succ _⟩
end
end Go.Ev
namespace Go.Ev
open Go Go.RowKit
section
variable {G:Gh}{mu:Mu}{w:qe}
theorem yB{C:Type}{l}{a x:C}{i}(h:(l++[a])[i]?=some x):(i<l.length/\l[i]?=some x)\/(i=l.length/\x=a):=by
 rcases Nat.lt_trichotomy i l.length with g|g|g
 .grind
 .grind
 grind
theorem ZG(w:qe)(o b)(g:b<w.heap.size):(w.alloc o).heap[b]?=w.heap[b]?:=Below.heap_alloc w o b g
theorem VL(w:qe)(o):(w.alloc o).heap[w.heap.size]?=some o:=by
 show (w.heap.push o)[w.heap.size]?=some o;simp
theorem Wz(s:Sim G mu w.heap)(o):Ext G w.heap (w.alloc o).heap:=
 ⟨zSp,fun b g=>ZG w o b (s.imm b g)⟩
theorem sB(s:Sim G mu w.heap)(o) :
  Stp G mu w ⟨fun b=>G.imm b\/b=w.heap.size,G.blk⟩ mu (w.alloc o):=by
 have p:G.le ⟨fun b=>G.imm b\/b=w.heap.size,G.blk⟩:=⟨fun b h => .inl h,fun _ _ h=>h⟩;have P:=Wz s o;have key:∀ b,Live G mu b->(w.alloc o).heap[b]?=w.heap[b]?:=fun b l=>ZG w o b (s.livesize l)
 refine⟨p,⟨s.len,?_,?_,?_,s.inj,s.tab.mono p.imm P.keep⟩,fun b l _=>ZG w o b l,zSp,fun b h => .inl h,fun b h=>h.elim .inl (fun e => .inr (.inr zOm)),rfl,rfl,rfl,qn _⟩
 .intro b l
  rcases l with l|l
  .have:=s.imm b l;simp;omega
  .simp;omega
 .intro i c j g t C I
  obtain⟨R,T,U⟩:=s.obj i c j g t C I;exact⟨R,by rw[key j ⟨i,_,g,t,C,I⟩];exact T,U.mono p P⟩
 .intro i c j g t C I J
  rcases J with J|J
  .exact s.live i c j g t C I J
  .have:=s.livesize ⟨i,c,g,t,C,I⟩;omega
theorem sR(s:Sim G mu w.heap)(o c C)
  (ha:c ≠ .dead->uB G w.heap C o c) :
  Stp G mu w ⟨G.imm,G.blk++[(w.heap.size,C)]⟩ (mu++[c]) (w.alloc o):=by
 have I:G.le ⟨G.imm,G.blk++[(w.heap.size,C)]⟩:=⟨fun b h=>h,fun i x h=>by
  grind⟩
 have he:=Wz s o;have key:∀ b,Live G mu b->(w.alloc o).heap[b]?=w.heap[b]?:=fun b P=>ZG w o b (s.livesize P)
 have a8:=s.len;refine⟨I,⟨by simp[s.len],?_,?_,?_,?_,s.tab.mono I.imm he.keep⟩,fun b P _=>ZG w o b P,zSp,?_,fun b h => .inl h,rfl,rfl,rfl,qn _⟩
 .intro b P
  have:=s.imm b P;simp;omega
 .intro i c' t g hc R T
  rcases yB hc with ⟨U,p⟩|⟨U,p⟩
  .have l:G.blk[i]?=some (t,g):=by
    grind
   obtain⟨o',h1,h2⟩:=s.obj i c' t g p R l;exact⟨o',by rw[key t ⟨i,_,g,p,R,l⟩];exact h1,h2.mono I he⟩
  .have l:(t,g)=(w.heap.size,C):=by
    rcases yB T with ⟨h,_⟩|⟨_,h⟩
    .omega
    .exact h
   obtain⟨rfl,rfl⟩:=Prod.mk.inj l;subst p;exact⟨o,VL w _,(ha R).mono I he⟩
 .intro i c' t g hc R T J
  rcases yB hc with ⟨U,p⟩|⟨U,p⟩
  .have l:G.blk[i]?=some (t,g):=by
    rcases yB T with ⟨_,h⟩|⟨h,_⟩
    .exact h
    .omega
   exact s.live i c' t g p R l J
  .have l:(t,g)=(w.heap.size,C):=by
    rcases yB T with ⟨h,_⟩|⟨_,h⟩
    .omega
    .exact h
   have:=s.imm t J;obtain⟨rfl,_⟩:=Prod.mk.inj l;omega
 .intro i j ci cj b ti tj U hj a4 a5 a0 a1
  rcases yB U with ⟨a6,a2⟩|⟨a6,a2⟩<;>rcases yB hj with ⟨a7,a3⟩|⟨a7,a3⟩
  .have a:G.blk[i]?=some (b,ti):=by
    rcases yB a0 with ⟨_,h⟩|⟨h,_⟩
    .exact h
    .omega
   have c:G.blk[j]?=some (b,tj):=by
    rcases yB a1 with ⟨_,h⟩|⟨h,_⟩
    .exact h
    .omega
   exact s.inj i j ci cj b ti tj a2 a3 a4 a5 a c
  .have a:G.blk[i]?=some (b,ti):=by
    rcases yB a0 with ⟨_,h⟩|⟨h,_⟩
    .exact h
    .omega
   have c:(b,tj)=(w.heap.size,C):=by
    rcases yB a1 with ⟨h,_⟩|⟨_,h⟩
    .omega
    .exact h
   have:=s.livesize ⟨i,ci,ti,a2,a4,a⟩;have:=(Prod.mk.inj c).1;omega
  .have a:G.blk[j]?=some (b,tj):=by
    rcases yB a1 with ⟨_,h⟩|⟨h,_⟩
    .exact h
    .omega
   have c:(b,ti)=(w.heap.size,C):=by
    rcases yB a0 with ⟨h,_⟩|⟨_,h⟩
    .omega
    .exact h
   have:=s.livesize ⟨j,cj,tj,a3,a5,a⟩;have:=(Prod.mk.inj c).1;omega
  .omega
 .intro b P
  obtain⟨i,c',t',hc,R,T⟩:=P;rcases yB hc with ⟨U,p⟩|⟨U,p⟩
  .have l:G.blk[i]?=some (b,t'):=by
    rcases yB T with ⟨_,h⟩|⟨h,_⟩
    .exact h
    .omega
   exact .inl ⟨i,c',t',p,R,l⟩
  .have l:(b,t')=(w.heap.size,C):=by
    rcases yB T with ⟨h,_⟩|⟨_,h⟩
    .omega
    .exact h
   exact .inr (zW1 ((Prod.mk.inj l).1))
theorem ud{C:Type}{l:List C}{a x i j}(h:(l.set i a)[j]?=some x):(j=i/\x=a)\/(j≠i/\l[j]?=some x):=by
 rw[List.getElem?_set]at h;by_cases g:i=j
 .grind
 .rw [if_neg g]at h;grind
theorem sW{w'}(s:Sim G mu w.heap)(i c c' J P o)
  (U:mu[i]?=some c) (hd:c ≠ .dead) (a9:c' ≠ .dead) (hk:G.blk[i]?=some (J,P))
  (hw:w'.heap.size=w.heap.size) (ho:w'.heap[J]?=some o) (C:∀ b,b≠J->w'.heap[b]?=w.heap[b]?)
  (ht:w'.tape=w.tape) (a5:w'.os=w.os) (a2:w'.output=w.output)
  (ha:uB G w.heap P o c') (hdr:w.drawn<=w'.drawn:=by exact qn _) :
  Stp G mu w G (mu.set i c') w':=by
 have a6:Live G mu J:=⟨i,c,P,U,hd,hk⟩;have he:Ext G w.heap w'.heap:=⟨zOm,fun b hb=>C b (fun e=>by subst e;exact s.live i c b P U hd hk hb)⟩;have aa:∀(j:Nat)(T:Cell) b t,j≠i->mu[j]?=some T->T ≠ .dead->G.blk[j]?=some (b,t)->b≠J:=by
  intro j T b t hj l p g e;subst e;exact hj (s.inj j i T c b t P l U p hd g hk)
 refine⟨.refl G,⟨by simpa using s.len,?_,?_,?_,?_,s.tab.mono (fun _ h=>h) he.keep⟩,?_,zOm,?_,fun b h => .inl h,ht,a5,a2,hdr⟩
 .intro b hb;have:=s.imm b hb;omega
 .intro j T b t l p g
  rcases ud l with ⟨rfl,I⟩|⟨hj,I⟩
  .rw [hk]at g
   obtain⟨rfl,rfl⟩:=Prod.mk.inj (Option.some.inj g);subst I;exact⟨o,ho,ha.mono (.refl G) he⟩
  .obtain ⟨o',h1,h2⟩:=s.obj j T b t I p g
   exact⟨o',by grind,h2.mono (.refl G) he⟩
 .intro j T b t l p g
  rcases ud l with ⟨rfl,I⟩|⟨hj,I⟩
  .rw [hk]at g
   obtain⟨rfl,rfl⟩:=Prod.mk.inj (Option.some.inj g);exact s.live j c _ _ U hd hk
  .exact s.live j T b t I p g
 .intro a b ca cb R ta tb a7 a8 a3 a4 a0 a1
  rcases ud a7 with ⟨rfl,I⟩|⟨hj,I⟩<;>rcases ud a8 with ⟨rfl,hy⟩|⟨ab,hy⟩
  .rfl
  .exact s.inj a b c cb R ta tb U hy hd a4 a0 a1
  .exact s.inj a b ca c R ta tb I U a3 hd a0 a1
  .exact s.inj a b ca cb R ta tb I hy a3 a4 a0 a1
 .intro b hb hl
  exact C b (fun e=>hl (e ▸ a6))
 .intro b hb
  obtain⟨j,T,t,l,p,g⟩:=hb;rcases ud l with ⟨rfl,I⟩|⟨hj,I⟩
  .exact .inl ⟨j,c,t,U,hd,g⟩
  .exact .inl ⟨j,T,t,I,p,g⟩
theorem sX(s:Sim G mu w.heap)(i):Stp G mu w G (mu.set i .dead) w:=by
 refine⟨.refl G,⟨by simpa using s.len,s.imm,?_,?_,?_,s.tab⟩,fun _ _ _=>rfl,qn _,?_,fun b h => .inl h,rfl,rfl,rfl,qn _⟩
 .intro j C b t o g p
  rcases ud o with ⟨rfl,l⟩|⟨R,l⟩
  .exact absurd l g
  .exact s.obj j C b t l g p
 .intro j C b t o g p hi
  rcases ud o with ⟨rfl,l⟩|⟨R,l⟩
  .exact g l
  .exact s.live j C b t l g p hi
 .intro a b ca cb I ta tb T U J P a0 a1
  rcases ud T with ⟨rfl,l⟩|⟨R,l⟩
  .exact absurd l J
  .rcases ud U with ⟨rfl,hy⟩|⟨a2,hy⟩
   .exact absurd hy P
   .exact s.inj a b ca cb I ta tb l hy J P a0 a1
 .intro b hb
  obtain⟨j,C,t,o,g,p⟩:=hb;rcases ud o with ⟨rfl,l⟩|⟨R,l⟩
  .exact absurd l g
  .exact .inl ⟨j,C,t,l,g,p⟩
end
end Go.Ev
namespace Go.Ev
open Go Go.RowKit
section
variable {cs:Array qf}{mu:Mu}{P:qc}{t:qd}{w:qe}
def szOf(P:qc)(t:qd):Option Nat:=(P.info? t).map (·.size)
def zg(P:qc)(t:qd):Option Bool:=(P.underlying t).map fun | .struct _ | .array .. => true|_=>false
def qB(P:qc)(t:qd):Option AV:=((P.info? t).bind (·.zero)).map ofV
def qF(P:qc)(t:qd):Option (qd×Nat×Nat):=
 match P.underlying t with
 |some (.slice e)=>(P.info? e).map fun i=>(e,i.size,i.bytes)
 |_=>none
def qI(P:qc)(s f:Nat):Option (Nat×qd×Nat):=
 match P.underlying s with
 |some (.struct i)=>(i[f]?).bind fun g=>match szOf P g.type with|some (n+1)=>some (g.offset,g.type,n+1)|_=>none
 |_=>none
def ZH(P:qc)(t:qd):Option (Nat×qd×Nat):=
 match P.underlying t with
 |some (.array n e)=>(szOf P e).map fun k=>(n,e,k)
 |_=>none
theorem VM{b}(h:zg P t=some b)(w):(isAgg t).run P w = .ok b w:=by
 unfold zg at h;cases g:P.underlying t with
 |none=>simp[g]at h
 |some d =>
  simp only[g,zh,qs]at h;subst h;simp only[isAgg,qQ,run_underlying g,Result.andThen];cases d<;>rfl
theorem jz{n}(h:szOf P t=some n)(w):(sizeOf t).run P w = .ok n w:=by
 unfold szOf at h;cases g:P.info? t with
 |none=>simp[g]at h
 |some d =>
  simp_all[zh,qs,sizeOf,typeInfo]
theorem ZI{x}(h:qB P t=some x)(w):∃ v,(zeroValue t).run P w = .ok v w/\x=ofV v:=by
 unfold qB at h;cases g:P.info? t with
 |none=>simp[g]at h
 |some d =>
  simp only[g,Option.bind_some,vX]at h;obtain⟨v,i,rfl⟩:=h;exact⟨v,by simp[zeroValue,typeInfo,g,i],rfl⟩
theorem ZJ{a:Addr}{e g}(i:w.heap[a.block]?=some (.cells cs e g))(j:a.spot=none)(k) :
  w.cell? (a.add k)=cs[a.off+k]?:=by
 grind [Addr.add,World.cell?]
@[go_sem] def ue(mu:Mu):AV->Nat->Option (List AV)
 | .ip g,n=>if n<=g.length then some (g.take n) else none
 | .ptr b off,n=>match mu[b]? with
  |some (.arr cells)=>if off+n<=cells.length then some ((cells.drop off).take n) else none
  |_=>none
 |_,_=>none
theorem pA{G}(s:Sim G mu w.heap){p v}(r:VRel G w.heap p v){n cs}(h:ue mu p n=some cs) :
  ∃(a:Addr) (rd:Nat->qf),v = .pointer (some a)/\cs.length=n/\∀(k) x,cs[k]?=some x->w.cell? (a.add k)=some (rd k)/\VRel G w.heap x (rd k):=by
 cases r with
 |ip o a arr e T rd l U hi hr hv =>
  simp only[ue]at h;split at h
  .rename_i t
   simp only[qs]at h;subst h;refine⟨a,rd,rfl,zSo,fun k x C=>?_⟩
   grind [absurd,ZJ]
  grind
 |ptr b off g j l =>
  simp only[ue]at h;split at h
  .rename_i cells I
   obtain⟨arr,e,J,h2,h3,P⟩:=s.arr b cells g j I l;split at h
   .rename_i t
    simp only[qs]at h;subst h;refine⟨⟨g,off,none⟩,fun k=>arr.getD (off+k) z6,rfl,zSo,fun k x C=>?_⟩;have i:cells[off+k]?=some x:=by
     grind
    refine⟨?_,(P _ _ i).2⟩;rw[ZJ (a:=⟨g,off,none⟩) J rfl];have R:off+k<cells.length:=(ql.1 i).1;have:off+k<arr.size:=zOm;simp[qU,this]
   grind
  grind
 |_=>grind [absurd,ue]
@[go_sem] def Qd(P:qc)(mu:Mu)(t:qd)(p:AV):Option AV:=
 match zg P t,szOf P t with
 |some true,some n=>(ue mu p n).map .agg
 |some false,some _=>(ue mu p 1).bind fun | [x]=>some x|_=>none
 |_,_=>none
theorem pB{G}(s:Sim G mu w.heap){t p v}(r:VRel G w.heap p v){x}(h:Qd P mu t p=some x) :
  ∃ a u,v = .pointer (some a)/\(loadVar t a).run P w = .ok u w/\VRel G w.heap x u:=by
 unfold Qd at h;split at h
 .rename_i n J T
  cases g:ue mu p n with
  |none=>simp[g]at h
  |some i =>
   simp only[g,zh,qs]at h;subst h;obtain⟨a,rd,rfl,l,o⟩:=pA s r g;have R:=run_loadCells (P:=P) w a n rd (fun j U=>(o j i[j] (by simp[l,U])).1);refine⟨a,.agg ((qu n).map rd).toArray,rfl,?_,?_⟩
   .simp_all [loadVar,VM,jz]
   .refine .agg _ _ (zP1 l) (fun k x hx=>?_)
    have C:k<n:=by grind
    have:(((qu n).map rd).toArray).getD k z6=rd k:=by simp[qU,C]
    grind
 .rename_i n J T
  cases g:ue mu p 1 with
  |none=>simp[g]at h
  |some i =>
   simp only[g,Option.bind_some]at h
   match i,g,h with
   | [y],g,h =>
    simp only[qs]at h;subst h;obtain⟨a,rd,rfl,l,o⟩:=pA s r g;have I:=o 0 y rfl;rw[show a.add 0=a by simp[Addr.add]]at I;exact⟨a,rd 0,rfl,by simp[loadVar,VM J,I.1],I.2⟩
 grind
def putCells(cells:List AV)(off:Nat)(xs:List AV):List AV:=
 match xs with
 | [x]=>cells.set off x
 |xs=>cells.take off++xs++cells.drop (off+xs.length)
@[go_sem] theorem qtR(z o x):putCells z o [x]=z.set o x:=rfl
@[go_sem] theorem qtS(z o x y l):putCells z o (x :: y :: l)=z.take o++(x :: y :: l)++z.drop (o+(x :: y :: l).length):=rfl
@[go_sem] theorem qtT(z o):putCells z o []=z.take o++[]++z.drop (o+0):=rfl
theorem jm(cells off xs)(h:off+xs.length<=cells.length):putCells cells off xs=cells.take off++xs++cells.drop (off+xs.length):=by
 unfold putCells;split
 .rename_i x
  simp at h;rw[List.set_eq_take_append_cons_drop,if_pos zOm];simp
 .rfl
@[go_sem] def VN(P:qc)(mu:Mu)(t:qd)(p x:AV):Option Mu:=
 match p,szOf P t with
 | .ptr b off,some n=>match mu[b]? with
  |some (.arr cells)=>if x.cells.length=n/\off+n<=cells.length/\x.cells.all AV.one=true then some (mu.set b (.arr (putCells cells off x.cells))) else none
  |_=>none
 |_,_=>none
theorem qf6{k v}(h:cs[k]?=some v):cs.getD k z6=v:=by simp[qU,h]
theorem qf7{G mu'}(s:Sim G mu w.heap){t p x v u}(r:VRel G w.heap p v)(rx:VRel G w.heap x u)(h:VN P mu t p x=some mu') :
  ∃ a w',v = .pointer (some a)/\(storeVar t a u).run P w = .ok () w'/\Stp G mu w G mu' w':=by
 unfold VN at h;split at h
 .rename_i b off n hn
  split at h
  .rename_i cells hc
   split at h
   .rename_i o
    obtain⟨J,a2,a3⟩:=o;simp only[qs]at h;subst h;cases r with
    |ptr _ _ g R hb =>
     obtain⟨arr,e,h1,h2,h3,h4⟩:=s.arr b cells g R hc hb;obtain⟨C,i,I⟩:=rx.cells (fun c a4=>by grind);have T:=run_storeCells_at P g off e u.cells.toList 0 arr w h1 (by simp[C];omega) I;simp only[Nat.add_zero]at T;refine⟨⟨g,off,none⟩,w.setRow g (arr.toList.take off++u.cells.toList++arr.toList.drop (off+u.cells.toList.length)).toArray,rfl,?_,?_⟩
     .simp_all [storeVar,qQ,jz,qS,if_neg]
     .refine sW s b (.arr cells) _ g R (.cells (arr.toList.take off++u.cells.toList++arr.toList.drop (off+u.cells.toList.length)).toArray e (0,0)) hc zSp zSp hb zSp (setRow_heap w g arr _ e _ h1)
       (fun k hk=>setRow_other w g k _ hk) rfl rfl rfl ?_
      have a5:u.cells.toList.length=n:=by simp[C,J]
      refine⟨_,e,rfl,by simp[C];omega,by grind [jm],?_⟩;intro j y l;rw[jm _ _ _ zOm]at l;rw[zL]at l;by_cases U:j<off
      .rw [qL zSo,vf,if_pos U]at l
       have:=h4 j y l;refine⟨this.1,?_⟩;have e1:(((arr.toList.take off++u.cells.toList++arr.toList.drop (off+u.cells.toList.length)).toArray).getD j z6)=arr.getD j z6:=by
        simp only[qU,Qb,zL];rw[qL zSo,vf,if_pos U,Jz]
       rw[e1];exact this.2
      .rw [zZ zSo]at l
       have a0:(cells.take off).length=off:=zSo;rw[a0]at l;by_cases a6:j-off<n
       .rw [zGa]at l
        refine⟨by grind,?_⟩;have:=i (j-off) y l;have e1:(((arr.toList.take off++u.cells.toList++arr.toList.drop (off+u.cells.toList.length)).toArray).getD j z6)=u.cells.getD (j-off) z6:=by
         simp only[qU,Qb,zL]
         grind
        rw[e1];exact this
       .rw [zZ zOm,uK,J]at l
        have a1:cells[j]?=some y:=by grind
        have:=h4 j y a1;refine⟨this.1,?_⟩;have e1:(((arr.toList.take off++u.cells.toList++arr.toList.drop (off+u.cells.toList.length)).toArray).getD j z6)=arr.getD j z6:=by
         simp only[qU,Qb,zL]
         grind
        rw[e1];exact this.2
   grind
  grind
 grind
end
end Go.Ev
namespace Go.Ev
open Go Go.RowKit
section
variable {x z:AV}{h:Array Obj}{G:Gh}{xs:List (List AV)}{P:qc}{t:qd}{u:qf}{w:qe}
def Good(P:qc)(G:Gh)(mu:Mu)(w:qe)(s:Sem qf)(x:AV)(mu':Mu):Prop:=
 ∃ v g i,s.run P w = .ok v g/\Stp G mu w i mu' g/\VRel i g.heap x v
theorem sY{mu}(s:Sim G mu w.heap){c x v}(h:c.run P w = .ok v w)(r:VRel G w.heap x v):Good P G mu w c x mu:=
 ⟨v,w,G,h,.refl s,r⟩
theorem WA{sz}:(∀ r,r∈xs->r.length=sz)->∀{i k r x},xs[i]?=some r->r[k]?=some x->xs.flatten[i*sz+k]?=some x:=by
 induction xs with
 |nil=>intro _ i k r x h;simp at h
 |cons y j l =>
  intro g i k r x h o;have p:=g y zSp;cases i with
  |zero =>
   grind
  |succ i =>
   grind
theorem yK{sz}(h:∀ r,r∈xs->r.length=sz):xs.flatten.length=xs.length*sz:=by
 induction xs with
 |nil=>simp
 |cons y j g =>
  grind
@[go_sem] def aInt(op:BinOp)(k:IntKind)(a b:Int):Option AV:=
 match op with
 | .add=>some (.sc (.int k (k.wrap (a+b))))
 | .sub=>some (.sc (.int k (k.wrap (a-b))))
 | .mul=>some (.sc (.int k (k.wrap (a*b))))
 | .quo=>if b=0 then none else some (.sc (.int k (k.wrap (a.tdiv b))))
 | .rem=>if b=0 then none else some (.sc (.int k (a.tmod b)))
 | .eql=>some (.sc (.bool (a == b)))
 | .neq=>some (.sc (.bool (a != b)))
 | .lss=>some (.sc (.bool (decide (a<b))))
 | .leq=>some (.sc (.bool (decide (a<=b))))
 | .gtr=>some (.sc (.bool (decide (a > b))))
 | .geq=>some (.sc (.bool (decide (a>=b))))
 |_=>none
@[go_sem] def aStr(op:BinOp)(x y:dC):Option AV:=
 match op with
 | .eql=>some (.sc (.bool (x.toList == y.toList)))
 | .neq=>some (.sc (.bool (!(x.toList == y.toList))))
 | .lss=>some (.sc (.bool (Op.bytesLess x.toList y.toList)))
 | .add=>if x.size+y.size<=9223372036854775807 then some (.sc (.string (x++y))) else none
 |_=>none
@[go_sem] def aEqs:List AV->List AV->Option Bool
 | [],[]=>some true
 | .sc (.int k a) :: p,.sc (.int g b) :: j=>if k=g then (if a == b then aEqs p j else some false) else none
 |_,_=>none
def WB(P:qc)(t:qd):Bool:=match P.underlying t with|some .bool=>true|_=>false
def pC(P:qc)(t:qd):Bool:=match P.underlying t with|some (.int _)=>true|_=>false
def Yh(P:qc):List Field->Nat->Bool
  | [],_=>true
  | f :: g, i => f.offset == i && f.name != "_" && pC P f.type && Yh P g (i + 1)
def WC(P:qc)(t:qd):Option Nat:=
 match P.underlying t with
 |some (.struct g)=>if Yh P g.toList 0=true/\P.stoodInHeld t=false/\P.eqGuardType P.depth t=false then some g.size else none
 |some (.array n e)=>match P.underlying e,szOf P e with
  |some (.int _),some 1=>if P.eqGuardType P.depth t=false then some n else none
  |_,_=>none
 |_=>none
def WD(P:qc)(t:qd):Bool:=match P.underlying t with|some (.interface _)=>true|_=>false
def WE(P:qc)(t:qd):Bool:=match P.underlying t with|some (.interface g)=>g.isEmpty|_=>false
def ZK(P:qc)(t:qd):Bool:=match P.underlying t with|some (.pointer _)=>true|_=>false
@[go_sem] def pD(op:BinOp)(k:IntKind)(a b:Int):Option AV:=
 if b<0 then none else match op with
  | .shl=>some (.sc (.int k (k.wrap (a*2 ^ (min b.toNat k.bits)))))
  | .shr=>some (.sc (.int k (a.fdiv (2 ^ (min b.toNat k.bits)))))
  |_=>none
@[go_sem] def aBin(P:qc)(op:BinOp)(t:qd)(x y:AV):Option AV:=
 match x,y with
 | .sc (.int k a),.sc (.int g b)=>if op = .shl\/op = .shr then pD op k a b else if k=g then aInt op k a b else none
 | .sc (.bool a),.sc (.bool b)=>if WB P t=true then (match op with | .eql=>some (.sc (.bool (a == b))) | .neq=>some (.sc (.bool (!(a == b))))|_=>none) else none
 | .sc (.string a),.sc (.string b)=>aStr op a b
 | .ifc _ _,.sc .nilIface=>if WD P t=true then (match op with | .eql=>some (.sc (.bool false)) | .neq=>some (.sc (.bool true))|_=>none) else none
 | .sc .nilIface,.sc .nilIface=>if WE P t=true then (match op with | .eql=>some (.sc (.bool true)) | .neq=>some (.sc (.bool false))|_=>none) else none
 | .sc (.pointer none),.sc (.pointer none)=>if ZK P t=true then (match op with | .eql=>some (.sc (.bool true)) | .neq=>some (.sc (.bool false))|_=>none) else none
 | .ip _,.sc (.pointer none)=>if ZK P t=true then (match op with | .eql=>some (.sc (.bool false)) | .neq=>some (.sc (.bool true))|_=>none) else none
 | .ptr _ _,.sc (.pointer none)=>if ZK P t=true then (match op with | .eql=>some (.sc (.bool false)) | .neq=>some (.sc (.bool true))|_=>none) else none
 |_,_=>none
theorem qf8{k a b}(g:¬b=0):(Op.intDiv .quo k a b).run P w=(Pure.pure (.int k (k.wrap (a.tdiv b))):Sem qf).run P w:=by
 unfold Op.intDiv;rw[if_neg g]
theorem qf9{k a b}(g:¬b=0):(Op.intDiv .rem k a b).run P w=(Pure.pure (.int k (a.tmod b)):Sem qf).run P w:=by
 unfold Op.intDiv;rw[if_neg g]
theorem qgA(d){t u x g}(i:P.underlying t=some (.interface g)) :
  (Op.equalIn (d+1) t (.iface u x) .nilIface).run P w = .ok false w:=by
 simp[Op.equalIn,run_underlying i]
theorem qgB(d){t g}(i:P.underlying t=some (.interface g)) :
  (Op.equalIn (d+1) t .nilIface .nilIface).run P w = .ok true w:=by
 simp[Op.equalIn,run_underlying i]
theorem qgC(d){t g}(i:P.underlying t=some (.interface g))(j:g.isEmpty=true) :
  (Op.eqGuardIn (d+1) t .nilIface .nilIface).run P w = .ok false w:=by
 simp[Op.eqGuardIn,run_underlying i,j]
theorem qgD(d){t e a}(g:P.underlying t=some (.pointer e)) :
  (Op.equalIn (d+1) t (.pointer a) (.pointer none)).run P w = .ok a.isNone w:=by
 cases a<;>simp[Op.equalIn,run_underlying g]
theorem qgE(h:ZK P t=true):∃ e,P.underlying t=some (.pointer e):=by
 grind [ZK,absurd]
theorem WG{op ox oy a b c}(g:ZK P t=true)(i:a.isNone=b)(j:(!b)=c){z G}
  (h:(match op with | .eql=>some (AV.sc (.bool b)) | .neq=>some (AV.sc (.bool c))|_=>none)=some z):∃ r,(do eqGuard op t ox oy (.pointer a) (.pointer none);binOp op t (.pointer a) (.pointer none):Sem qf).run P w = .ok r w/\VRel G w.heap z r:=by
 obtain⟨e,l⟩:=qgE g;have o:(eqGuard op t ox oy (.pointer a) (.pointer none)).run P w = .ok () w:=by
  unfold eqGuard;cases op<;>rfl
 simp only[qQ,o,qS];have p:(Op.equal t (.pointer a) (.pointer none)).run P w = .ok a.isNone w:=qgD 9999 l;subst i;subst j;cases op<;>simp only[qs]at h<;>first
  | (simp at h;done)
  | (subst h;refine⟨_,?_,.sc _ rfl⟩;simp[binOp,p];done)
theorem qgF{op y ox oy v}(l:VRel G w.heap x u)(o:VRel G w.heap y v)(h:aBin P op t x y=some z) :
    ∃ r,(do eqGuard op t ox oy u v;binOp op t u v:Sem qf).run P w = .ok r w/\VRel G w.heap z r:=by
  unfold aBin at h;split at h
  ·
    rename_i k a U b;cases l;cases o;split at h
    · unfold pD at h
      split at h
      · cases h
      · rename_i g
        have i:(eqGuard op t ox oy (.int k a) (.int U b)).run P w = .ok () w:=by
          unfold eqGuard;cases op<;>rfl
        simp only[qQ,i,qS];cases op<;>simp only[qs]at h<;>first
          | (cases h;done)
          | (subst h;refine⟨_,?_,.sc _ rfl⟩;simp[binOp,Op.shift,g];done)
    · rename_i hs
      split at h
      · rename_i hk;subst hk
        have i:(eqGuard op t ox oy (.int k a) (.int k b)).run P w = .ok () w:=by
          unfold eqGuard;cases op<;>rfl
        simp only[qQ,i,qS];unfold aInt at h;cases op<;>simp only[qs]at h<;>first
          | (simp at h;done)
          | (subst h;refine⟨_,?_,.sc _ rfl⟩;simp[binOp,Op.intArith,Op.intCmp];done)
          | (split at h
             · exact absurd h zSp
             · rename_i g
               simp only[qs]at h;subst h;refine⟨_,?_,.sc _ rfl⟩;simp[binOp,qf8 g,qf9 g];done)
          | (exfalso;simp at hs)
      grind
  · rename_i a b
    cases l;cases o;split at h
    · rename_i g
      have j:P.underlying t=some .bool:=by
        grind [WB,absurd]
      have i:(eqGuard op t ox oy (.bool a) (.bool b)).run P w = .ok () w:=by
        unfold eqGuard;cases op<;>rfl
      simp only[qQ,i,qS];cases op<;>simp only[qs]at h<;>first
        | (simp at h;done)
        | (subst h;refine⟨_,?_,.sc _ rfl⟩;simp[binOp,Op.equal,Op.maxDepth,run_equalIn_bool' w 9999 t a b j];done)
    grind
  · rename_i a b
    cases l;cases o;have i:(eqGuard op t ox oy (.string a) (.string b)).run P w = .ok () w:=by
      unfold eqGuard;cases op<;>rfl
    simp only[qQ,i,qS];unfold aStr at h;cases op<;>simp only[qs]at h<;>first
      | (simp at h;done)
      | (subst h;refine⟨_,?_,.sc _ rfl⟩;simp[binOp,Op.stringOp];done)
      | (split at h
         · rename_i g
           simp only[qs]at h;subst h;refine⟨_,?_,.sc _ rfl⟩;have:¬(((a.size+b.size:Nat):Int) > qo.max):=by simp[IntKind.max,IntKind.signed,IntKind.bits];omega
           simp only[binOp,Op.stringOp,if_neg this,zJ]
         · exact absurd h zSp)
  · rename_i R vv
    cases o;cases l with
    |ifc _ _ T hv =>
    split at h
    · rename_i g
      have j:∃ p,P.underlying t=some (.interface p):=by
        unfold WD at g;split at g
        · exact⟨_,by assumption⟩
        · exact absurd g zSp
      obtain⟨p,j⟩:=j;have i:(eqGuard op t ox oy (.iface R T) .nilIface).run P w = .ok () w:=by
        unfold eqGuard;cases op<;>rfl
      simp only[qQ,i,qS];have C:(Op.equal t (.iface R T) .nilIface).run P w = .ok false w:=qgA 9999 j;cases op<;>simp only[qs]at h<;>first
        | (simp at h;done)
        | (subst h;refine⟨_,?_,.sc _ rfl⟩;simp[binOp,C];done)
    · exact absurd h zSp
  · cases l
    cases o;split at h
    · rename_i g
      have j:∃ p,P.underlying t=some (.interface p)/\p.isEmpty=true:=by
        unfold WE at g;split at g
        · exact⟨_,by assumption,g⟩
        · exact absurd g zSp
      obtain⟨p,j,I⟩:=j;have i:(eqGuard op t ox oy .nilIface .nilIface).run P w = .ok () w:=by
        have J:(Op.eqGuardIn Op.maxDepth t .nilIface .nilIface).run P w = .ok false w:=qgC 9999 j I;unfold eqGuard;cases op<;>first|rfl | (simp only[qQ,Sem.run_ite,J,qS];simp)
      simp only[qQ,i,qS];have C:(Op.equal t .nilIface .nilIface).run P w = .ok true w:=qgB 9999 j;cases op<;>simp only[qs]at h<;>first
        | (simp at h;done)
        | (subst h;refine⟨_,?_,.sc _ rfl⟩;simp[binOp,C];done)
    · exact absurd h zSp
  · cases l
    cases o;split at h
    · rename_i g;exact WG g rfl rfl h
    · exact absurd h zSp
  · cases o
    cases l;split at h
    · rename_i g;exact WG g rfl rfl h
    · exact absurd h zSp
  · cases o
    cases l;split at h
    · rename_i g;exact WG g rfl rfl h
    · exact absurd h zSp
  grind
@[go_sem] def aUn(op:UnOp):AV->Option AV
 | .sc (.bool b)=>match op with | .not=>some (.sc (.bool !b))|_=>none
 | .sc (.int k n)=>match op with | .neg=>some (.sc (.int k (k.wrap (0-n))))|_=>none
 |_=>none
theorem qgG{op}(g:VRel G w.heap x u)(h:aUn op x=some z) :
  ∃ r,(Op.unary op u).run P w = .ok r w/\VRel G w.heap z r:=by
 unfold aUn at h;split at h
 .cases g
  split at h
  .simp only[qs]at h;subst h
   exact⟨_,rfl,.sc _ rfl⟩
  grind
 .cases g
  split at h
  .simp only[qs]at h;subst h
   exact⟨_,rfl,.sc _ rfl⟩
  grind
 grind
@[go_sem] def VO(P:qc)(src g:qd):AV->Option AV
 | .sc (.int _ n)=>match P.underlying g with|some (.int k)=>some (.sc (.int k (k.wrap n)))|_=>none
 | .lst _ [[.sc (.int .u8 n)]]=>match P.underlying src with
  |some (.slice e)=>match P.underlying e,P.underlying g with
   |some (.int .u8),some .string=>some (.sc (.string (ByteArray.empty.push (UInt8.ofNat n.toNat))))
   |_,_=>none
  |_=>none
 |_=>none
theorem qgH{src g}(I:VRel G w.heap x u)(o:∃ d,P.underlying src=some d)(h:VO P src g x=some z) :
  ∃ r,(convert src g u).run P w = .ok r w/\VRel G w.heap z r:=by
 unfold VO at h;obtain⟨d,o⟩:=o;split at h
 .cases I
  split at h
  .rename_i k T
   simp only[qs]at h;subst h;refine⟨_,?_,.sc _ rfl⟩;simp only[convert,qQ,run_underlying o,run_underlying T,qS];simp[Conv.intToInt]
  grind
 .rename_i f n
  split at h
  .rename_i e i
   split at h
   .rename_i U p
    simp only[qs]at h;subst h;cases I with
    |lst _ _ sz a cap cs e' fr rd hb t hl hc hi hz hr hv =>
     have J:VRel G w.heap (.sc (.int .u8 n)) (rd 0):=hv 0 _ rfl;have R:cs[a.off+0]?=some (rd 0):=hr 0 _ rfl;generalize rd 0=q at J R;cases J;refine⟨_,?_,.sc _ rfl⟩;rw[run_convert_bytes_string w src g e (some a) _ cap i U p];have C:=run_loadCells_list (P:=P) w a [.int .u8 n] (fun j v l=>by
      match j,l with
      | 0,l =>
       simp only[Ye,qs]at l;subst l;rw[ZJ hb t];exact R)
     exact run_bytesToString (P:=P) w a 1 cap [n] C
   grind
  grind
 grind
theorem sH{cs a}(r:VRel G h (.ip cs) (.pointer (some a)))(n):VRel G h (.ip (cs.drop n)) (.pointer (some (a.add n))):=by
 cases r with
 |ip _ _ arr e i rd j l o t C =>
  have g:(a.add n).block=a.block:=by unfold Addr.add;split<;>rfl
  have p:(a.add n).spot=none:=by unfold Addr.add;split<;>simp[l]
  have I:(a.add n).off=a.off+n:=by unfold Addr.add;split<;>simp_all
  refine .ip _ _ arr e i (fun k=>rd (n+k)) (by rw[g];exact j) p (by rw[g];exact o) ?_ ?_
  .grind
  grind
theorem sU{b o a}(r:VRel G h (.ptr b o) (.pointer (some a)))(n):VRel G h (.ptr b (o+n)) (.pointer (some (a.add n))):=by
 cases r with
 |ptr _ _ g i j =>
  have:(⟨g,o,none⟩:Addr).add n=⟨g,o+n,none⟩:=by unfold Addr.add;split<;>simp_all
  rw[this];exact .ptr b (o+n) g i j
@[go_sem] def addA(p:AV)(n:Nat):Option AV:=
 match p with
 | .ip g=>some (.ip (g.drop n))
 | .ptr b o=>some (.ptr b (o+n))
 |_=>none
theorem pE{p v n}(r:VRel G h p v)(e:addA p n=some z):∃ a,v = .pointer (some a)/\VRel G h z (.pointer (some (a.add n))):=by
 unfold addA at e;split at e
 .simp only[qs]at e;subst e
  cases r with
  |ip _ a arr el l rd g o t C I=>exact⟨a,rfl,sH (.ip _ a arr el l rd g o t C I) n⟩
 .simp only[qs]at e;subst e
  cases r with
  |ptr _ _ i j g=>exact⟨_,rfl,sU (.ptr _ _ i j g) n⟩
 grind
@[go_sem] def VP(P:qc)(s f:Nat)(p:AV):Option AV:=(qI P s f).bind fun (off,_,_)=>addA p off
theorem pF{s f off n}(h:qI P s f=some (off,t,n)) :
  ∃(fs:Array Field) (g:Field),P.underlying s=some (.struct fs)/\fs[f]?=some g/\g.offset=off/\g.type=t/\szOf P t=some n/\n≠0:=by
 unfold qI at h;split at h
 .grind
 grind
theorem qgI{s f p v}(r:VRel G w.heap p v)(e:VP P s f p=some z) :
  ∃ u,(Instr.fieldAt s v f).run P w = .ok u w/\VRel G w.heap z u:=by
 unfold VP at e;cases hf:qI P s f with
 |none=>simp[hf]at e
 |some x =>
  obtain⟨off,t,n⟩:=x;simp only[hf,Option.bind_some]at e;obtain⟨a,rfl,j⟩:=pE r e;obtain⟨C,I,l,g,rfl,rfl,i,o⟩:=pF hf;refine⟨_,?_,j⟩;simp[Instr.fieldAt,run_underlying l,g,Instr.sureAddr,fieldPlace,jz i,o]
@[go_sem] def VQ(P:qc)(t:qd)(x l:AV):Option AV:=
 match l with
 | .sc (.int _ i) =>
  match x,qF P t,ZH P t with
  | .lst _ j,some (_,sz,_),_=>if 0<=i/\i<j.length then (match j[i.toNat]? with|some r=>if r.length=sz/\sz≠0 then some (.ip r) else none|none=>none) else none
  | .sl b g off len,some (_,sz,_),_=>if 0<=i/\i<len/\(g=sz\/g=0) then some (.ptr b (off+i.toNat*sz)) else none
  |p,none,some (n,_,sz)=>if 0<=i/\i<n then addA p (i.toNat*sz) else none
  |_,_,_=>none
 |_=>none
theorem uC{e sz bt}(h:qF P t=some (e,sz,bt)):∃ i,P.underlying t=some (.slice e)/\P.info? e=some i/\i.size=sz/\i.bytes=bt:=by
 unfold qF at h;split at h
 .rename_i g l
  cases j:P.info? g with
  |none=>simp[j]at h
  |some i =>
   grind
 grind
theorem pG{e n sz}(h:ZH P t=some (n,e,sz)):P.underlying t=some (.array n e)/\szOf P e=some sz:=by
 unfold ZH at h;split at h
 .rename_i l g o
  cases j:szOf P g with
  |none=>simp[j]at h
  |some i =>
   grind
 grind
theorem qgJ{ix v}(r:VRel G w.heap x v)(ri:VRel G w.heap ix u)(e:VQ P t x ix=some z) :
  ∃ y,(Instr.indexAt t v u).run P w = .ok y w/\VRel G w.heap z y:=by
 unfold VQ at e;split at e
 .rename_i k i
  cases ri;split at e
  .rename_i full p e' sz bt hs
   split at e
   .rename_i I
    split at e
    .rename_i row j
     split at e
     .rename_i hz
      simp only[qs]at e;subst e;obtain⟨a0,J,l,C,a1⟩:=uC hs;have o:szOf P e'=some sz:=by simp[szOf,l,C]
      cases r with
      |nil=>simp at j
      |emp=>simp at j
      |lst _ _ g a cap cs el fr rd hb a2 hl hc R a3 hr hv =>
       have T:g=sz:=by grind
       subst T;refine⟨.pointer (some (a.add (i.toNat*g))),?_,?_⟩
       .simp [Instr.indexAt,asIntOf,run_underlying J,I,jz o]
       .have h1:(a.add (i.toNat*g)).block=a.block:=by unfold Addr.add;split<;>rfl
        have h2:(a.add (i.toNat*g)).spot=none:=by unfold Addr.add;split<;>simp[a2]
        have h3:(a.add (i.toNat*g)).off=a.off+i.toNat*g:=by unfold Addr.add;split<;>simp_all
        refine .ip _ _ cs el fr (fun k=>rd (i.toNat*g+k)) (by rw[h1];exact hb) h2 (by rw[h1];exact R) ?_ ?_
        .intro k x hx
         rw[h3,Nat.add_assoc];exact hr _ x (WA a3 j hx)
        grind [WA]
     grind
    grind
   grind
  .rename_i b g off len e' sz bt hs
   split at e
   .rename_i I
    obtain⟨a4,a5,_⟩:=I;simp only[qs]at e;subst e;obtain⟨a0,J,l,C,a1⟩:=uC hs;have o:szOf P e'=some sz:=by simp[szOf,l,C]
    cases r with
    |sl _ _ _ _ U a6 cap hb ht hl =>
     refine⟨.pointer (some ((⟨U,off,none⟩:Addr).add (i.toNat*sz))),?_,sU (.ptr b off U a6 hb) _⟩;simp[Instr.indexAt,asIntOf,run_underlying J,a4,a5,jz o]
   grind
  .rename_i n e' sz ha
   split at e
   .rename_i I
    obtain⟨J,o⟩:=pG ha;obtain⟨a,rfl,hz⟩:=pE r e;refine⟨_,?_,hz⟩;simp[Instr.indexAt,asIntOf,run_underlying J,Instr.sureAddr,I,jz o]
   .exact absurd e zSp
  grind
 grind
end
end Go.Ev
namespace Go.Ev
open Go Go.RowKit
section
variable {z:AV}{h:Array Obj}{G:Gh}{xs:List (List AV)}{g:Option Int}{vhi vlo vmx:Option qf}{P:qc}{t:qd}{w:qe}
@[go_sem] def VR(P:qc)(t:qd)(cs:List AV)(off:Nat):Option AV:=
 match zg P t,szOf P t with
 |some true,some n=>if off+n<=cs.length then some (.agg ((cs.drop off).take n)) else none
 |some false,_=>cs[off]?
 |_,_=>none
theorem pH{cs g off}
  (I:g.size=cs.length) (j:∀(k) x,cs[k]?=some x->VRel G w.heap x (g.getD k z6)) (h:VR P t cs off=some z) :
  ∃ u,(part t g off).run P w = .ok u w/\VRel G w.heap z u:=by
 unfold VR at h;split at h
 .rename_i n l o
  split at h
  .rename_i p
   simp only[qs]at h;subst h;refine⟨.agg (g.extract off (off+n)),by simp[part,VM l,jz o],.agg _ _ zSo ?_⟩;intro k x i;rw[vf]at i;split at i
   .rename_i J
    rw[uK]at i;have:=j _ x i;have e:(g.extract off (off+n)).getD k z6=g.getD (off+k) z6:=by
     simp only[qU]
     grind
    rw[e];exact this
   grind
  grind
 .rename_i l
  have:=j off z h;have C:off<cs.length:=(ql.1 h).1;simp_all[z6,part,VM,qU]
 grind
@[go_sem] def VS(P:qc)(s f:Nat)(x:AV):Option AV:=
 match x with
 | .agg g=>(qI P s f).bind fun (off,t,_)=>VR P t g off
 |_=>none
theorem qgK{s f x v}(r:VRel G w.heap x v)(e:VS P s f x=some z) :
  ∃ u,(Instr.field s v f).run P w = .ok u w/\VRel G w.heap z u:=by
 unfold VS at e;split at e
 .rename_i p
  cases r with
  |agg _ C g i =>
  cases hf:qI P s f with
  |none=>simp[hf]at e
  |some y =>
   obtain⟨off,t,n⟩:=y;simp only[hf,Option.bind_some]at e;obtain⟨I,J,R,j,rfl,rfl,l,o⟩:=pF hf;obtain⟨u,T,U⟩:=pH g i e;simp_all[Instr.field,run_underlying,asAgg]
 grind
@[go_sem] def VT(P:qc)(t:qd)(x g:AV):Option AV:=
 match g with
 | .sc (.int _ i) =>
  match x with
  | .agg j=>match ZH P t with
   |some (n,e,sz)=>if 0<=i/\i<n then VR P e j (i.toNat*sz) else none
   |none=>none
  | .sc (.string s)=>match P.underlying t with
   |some .string=>if 0<=i then (match s.data[i.toNat]? with|some b=>some (.sc (.int .u8 b.toNat))|none=>none) else none
   |_=>none
  |_=>none
 |_=>none
theorem qgL{x o v u}(r:VRel G w.heap x v)(R:VRel G w.heap o u)(e:VT P t x o=some z) :
  ∃ y,(Instr.index t v u).run P w = .ok y w/\VRel G w.heap z y:=by
 unfold VT at e;split at e
 .rename_i k i
  cases R;split at e
  .rename_i cs
   cases r with
   |agg _ vs T U =>
   split at e
   .rename_i n el sz ha
    split at e
    .rename_i p
     obtain⟨C,a0⟩:=pG ha;obtain⟨y,h1,I⟩:=pH T U e;simp_all[Instr.index,asIntOf,run_underlying,jz]
    grind
   grind
  .rename_i s
   cases r;split at e
   .rename_i C
    split at e
    .rename_i p
     split at e
     .rename_i b J
      simp only[qs]at e;subst e;refine⟨.int .u8 b.toNat,?_,.sc _ rfl⟩;have j:i.toNat<s.data.size:=(yI.1 J).1;have l:s[i.toNat]?=some b:=by
       have I:s.data[i.toNat]=b:=(yI.1 J).2;have g:i.toNat<s.size:=j;rw[getElem?_pos s i.toNat g];exact congrArg some I
      simp[Instr.index,asIntOf,run_underlying C,p,l]
     grind
    grind
   grind
  grind
 grind
@[go_sem] def optI:Option AV->Option (Option Int)
 |none=>some none
 |some (.sc (.int _ n))=>some (some n)
 |_=>none
@[go_sem] def VU(P:qc)(t:qd)(x:AV)(lo g mx:Option AV):Option AV:=
 match optI lo,optI g,optI mx with
 |some lo,some g,some mx =>
  match x,P.underlying t with
  | .lst full p,some (.slice _) =>
   let n:Int:=p.length
   let h:=g.getD n
   let l:=lo.getD 0
   match mx with
   |none=>if 0<=l/\l<=h/\h<=n then some (.lst (full&&decide (h=n)) ((p.take h.toNat).drop l.toNat)) else none
   |some m=>if 0<=l/\l<=h/\h<=m/\m<=n/\g.isSome then some (.lst (decide (m=h)) ((p.take h.toNat).drop l.toNat)) else none
  | .sl b sz off len,some (.slice e) =>
   let h:=g.getD len
   let l:=lo.getD 0
   match mx with
   |none=>if 0<=l/\l<=h/\h<=len/\(l=0\/l<len)/\szOf P e=some sz then some (.sl b sz (off+l.toNat*sz) (h-l).toNat) else none
   |some _=>none
  | .ip i,some (.array n e) =>
   let h:=g.getD n
   let l:=lo.getD 0
   match mx with
   |none=>if 0<=l/\l<=h/\h<=n/\(l=0\/l<n)/\szOf P e=some 1/\i.length=n then some (.lst (decide (h=n)) (((i.take h.toNat).drop l.toNat).map fun c=>[c])) else none
   |some _=>none
  | .ptr b off,some (.array n e) =>
   match mx with
   |none=>if off=0/\lo.getD 0=0/\0<=g.getD n/\g.getD n<=n/\(szOf P e).isSome=true then some (.sl b 0 0 (g.getD n).toNat) else none
   |some _=>none
  | .sc (.string s),some .string =>
   let n:Int:=s.size
   let h:=g.getD n
   let l:=lo.getD 0
   match mx with
   |none=>if 0<=l/\l<=h/\h<=n then some (.sc (.string (s.extract l.toNat h.toNat))) else none
   |some _=>none
  |_,_=>none
 |_,_,_=>none
theorem Qe{k}{i:Int}{y:Nat}{c}(g:0<=i)(j:i<=y):(Instr.sliceBound (.int k i) y c).run P w = .ok i.toNat w:=by
 simp[Instr.sliceBound,asIntOf,g,j]
theorem WH{o}(e:optI o=some g) :
  ∀{v},(∀ x,o=some x->∃ u,v=some u/\VRel G h x u)->(o=none->v=none)->(g=none/\v=none)\/∃ k n,g=some n/\v=some (.int k n):=by
 intro v i j;unfold optI at e;split at e
 .grind
 .rename_i k n
  simp only[qs]at e;obtain⟨u,l,r⟩:=i _ rfl;cases r
  grind
 grind
theorem Yi{isSlice}{len cap:Nat}{lo mx}
  (j:(lo=none/\vlo=none)\/∃ k n,lo=some n/\vlo=some (.int k n)) (o:(g=none/\vhi=none)\/∃ k n,g=some n/\vhi=some (.int k n))
  (p:(mx=none/\vmx=none)\/∃ k n,mx=some n/\vmx=some (.int k n)) (t:mx.isSome=true->g.isSome=true)
  (h0:0<=lo.getD 0) (h1:lo.getD 0<=g.getD len) (h2:g.getD len<=mx.getD cap) (h3:mx.getD cap<=cap) (U:len<=cap) :
  (Instr.sliceBounds isSlice len cap vlo vhi vmx).run P w = .ok ((lo.getD 0).toNat,(g.getD len).toNat,(mx.getD cap).toNat) w:=by
 rcases j with ⟨rfl,rfl⟩|⟨T,l,rfl,rfl⟩<;>rcases o with ⟨rfl,rfl⟩|⟨C,h,rfl,rfl⟩<;>rcases p with ⟨rfl,rfl⟩|⟨I,m,rfl,rfl⟩<;>simp only[Option.getD_none,Option.getD_some]at * <;>
  simp only[Option.isSome_none,Option.isSome_some,reduceCtorEq,imp_false,not_true_eq_false]at t
 .simp [Instr.sliceBounds]
 .grind [Instr.sliceBound,Qe,Instr.sliceBounds,qQ,zJ,qS]
 .have J:(Instr.sliceBound (.int I m) cap (if isSlice then .slice3Acap else .slice3Alen)).run P w = .ok m.toNat w:=Qe zOm zOm
  have i:(Instr.sliceBound (.int C h) m.toNat .slice3B).run P w = .ok h.toNat w:=Qe zOm zOm;simp only[Instr.sliceBounds,qQ,zJ,qS,i,J];simp
 .grind [Instr.sliceBound,Qe,Instr.sliceBounds,qQ,zJ,qS]
 .have i:(Instr.sliceBound (.int C h) cap (if isSlice then .sliceAcap else .sliceAlen)).run P w = .ok h.toNat w:=Qe zOm zOm
  have R:(Instr.sliceBound (.int T l) h.toNat (if (none:Option qf).isSome then .slice3C else .sliceB)).run P w = .ok l.toNat w:=Qe zOm zOm;simp only[Instr.sliceBounds,qQ,zJ,qS,R,i];simp
 .have J:(Instr.sliceBound (.int I m) cap (if isSlice then .slice3Acap else .slice3Alen)).run P w = .ok m.toNat w:=Qe zOm zOm
  have i:(Instr.sliceBound (.int C h) m.toNat .slice3B).run P w = .ok h.toNat w:=Qe zOm zOm;have R:(Instr.sliceBound (.int T l) h.toNat (if (some (Value.int I m)).isSome then .slice3C else .sliceB)).run P w = .ok l.toNat w:=Qe zOm zOm;simp only[Instr.sliceBounds,qQ,zJ,qS,R,i,J]
theorem pI{sz}:(∀ r,r∈xs->r.length=sz)->∀ l,(xs.drop l).flatten=xs.flatten.drop (l*sz):=by
 induction xs with
 |nil=>intro _ l;simp
 |cons y j g =>
  intro i l;cases l with
  |zero=>simp
  |succ l =>
   simp only[List.drop_succ_cons,wm];rw[g (fun r o=>i r (zP1 o)),Nat.succ_mul,Nat.add_comm,<-List.drop_drop]
   grind
theorem sV{full sz a cap l i m}
  (r:VRel G h (.lst full xs) (.slice a xs.length cap)) (J:∀ x,x∈xs->x.length=sz) (h1:l<=i) (P:i<=xs.length) (h3:i<=m) (hm:m<=cap) (j) (hf:j=true->m=i) :
  VRel G h (.lst j ((xs.take i).drop l)) (.slice (if m=l then a else a.map (·.add (l*sz))) (i-l) (m-l)):=by
 have a2:((xs.take i).drop l).length=i-l:=zSo;by_cases he:i=l
 .subst he
  have o:(xs.take i).drop i=[]:=uM zOm;rw[o,Nat.sub_self];cases a with
  |none =>
   have:xs=[]/\cap=0:=by cases r;exact⟨rfl,rfl⟩
   have R:m=0:=zOm;subst R;simp;exact .nil j
  |some a =>
   have:(if m=i then some a else (some a).map (·.add (i*sz)))=some (if m=i then a else a.add (i*sz)):=by split<;>rfl
   rw[this];exact .emp j _ _ (fun h=>zW1 (hf h))
 .have T:m≠l:=by omega
  rw[if_neg T];generalize a3:xs.length=n at r;cases r with
  |nil=>simp at P;omega
  |emp=>simp at P;omega
  |lst _ _ g a cap cs e fr rd hb hs hl hc U hz C hv =>
   have a0:xs≠[]:=by intro e;subst e;simp at P;omega
   obtain⟨y,hy⟩:∃ y,y∈xs:=List.exists_mem_of_ne_nil xs a0;have p:g=sz:=by rw[<-hz y hy,J y hy]
   subst p;have t:(a.add (l*g)).block=a.block:=by unfold Addr.add;split<;>rfl
   have a1:(a.add (l*g)).spot=none:=by unfold Addr.add;split<;>simp[hs]
   have a4:(a.add (l*g)).off=a.off+l*g:=by unfold Addr.add;split<;>simp_all
   have key:∀(k:Nat) x,((xs.take i).drop l).flatten[k]?=some x->xs.flatten[l*g+k]?=some x:=by
    intro k x I;rw[pI (fun r C=>hz r (vZ C)),uK]at I
    grind [List.flatten_append,uJ,qL,ql]
   have:=VRel.lst (G:=G) (h:=h) j ((xs.take i).drop l) g (a.add (l*g)) (m-l) cs e fr (fun k=>rd (l*g+k)) (by rw[t];exact hb) a1 zOm (fun h=>zW1 (hf h)) (by rw[t];exact U)
    (fun r C=>hz r (vZ (List.mem_of_mem_drop C))) (fun k x I=>by grind) (fun k x I=>hv _ x (key k x I))
   grind
theorem VRel.lst_inv{full v}(r:VRel G h (.lst full xs) v) :
  ∃ a cap,v = .slice a xs.length cap/\xs.length<=cap/\(full=true->cap=xs.length)/\(∃ sz,∀ x,x∈xs->x.length=sz):=by
 cases r with
 |nil=>exact⟨none,0,rfl,qn _,fun _=>rfl,0,zSp⟩
 |emp _ a cap g=>exact⟨some a,cap,rfl,Nat.zero_le _,g,0,zSp⟩
 |lst _ _ sz a cap l e o rd p t i g C j I J=>exact⟨some a,cap,rfl,i,g,sz,j⟩
def jn(sz:Nat)(xs:List (List AV)):Prop:=∀ r,r∈xs->r.length=sz
theorem qgM{x lo hi mx v}(r:VRel G w.heap x v)
  (a6:∀ y,lo=some y->∃ u,vlo=some u/\VRel G w.heap y u) (a0:lo=none->vlo=none) (a7:∀ y,hi=some y->∃ u,vhi=some u/\VRel G w.heap y u) (a1:hi=none->vhi=none)
  (a8:∀ y,mx=some y->∃ u,vmx=some u/\VRel G w.heap y u) (a2:mx=none->vmx=none)
  (a9:∀ full xs,x = .lst full xs->∃ e sz bt,qF P t=some (e,sz,bt)/\jn sz xs)
  (e:VU P t x lo hi mx=some z):∃ y,(Instr.sliceAt t v vlo vhi vmx).run P w = .ok y w/\VRel G w.heap z y:=by
 unfold VU at e;split at e
 .rename_i g o ar aa ad ae
  have J:=WH (G:=G) (h:=w.heap) aa a6 a0;have R:=WH (G:=G) (h:=w.heap) ad a7 a1;have T:=WH (G:=G) (h:=w.heap) ae a8 a2;clear aa ad ae a6 a0 a7 a1 a8 a2;split at e
  .rename_i full xs el U
   obtain⟨a,cap,rfl,af,ak,_⟩:=r.lst_inv;obtain⟨e',sz,bt,hs,ag⟩:=a9 full xs rfl;obtain⟨au,ah,ai,al,av⟩:=uC hs;have an:e'=el:=by rw[U]at ah;simpa using ah.symm
   subst an;have C:szOf P e'=some sz:=by simp[szOf,ai,al]
   simp only at e;split at e
   .split at e
    .rename_i hc
     obtain⟨c1,c2,c3⟩:=hc;simp only[qs]at e;subst e;have i:=Yi (P:=P) (w:=w) (isSlice:=true) (len:=xs.length) (cap:=cap) J R T zSp c1 c2 zSo zSp af;refine⟨_,by simp only[Instr.sliceAt,Instr.slice,qQ,run_underlying U,qS,i,jz C,zJ];rfl,?_⟩;have hl:(g.getD 0).toNat<=(o.getD xs.length).toNat:=zOm;simp only[Option.getD_none,Int.toNat_natCast];exact sV r ag hl zOm zOm (qn _) _ (fun hf=>by
      simp only[qD,decide_eq_true_eq]at hf;have:=ak hf.1;omega)
    .exact absurd e zSp
   .rename_i m
    split at e
    .rename_i hc
     obtain⟨c1,c2,c3,c4,c5⟩:=hc;simp only[qs]at e;subst e;have i:=Yi (P:=P) (w:=w) (isSlice:=true) (len:=xs.length) (cap:=cap) J R T (fun _=>c5) c1 c2 (by simpa using c3) zSo af;refine⟨_,by simp only[Instr.sliceAt,Instr.slice,qQ,run_underlying U,qS,i,jz C,zJ];rfl,?_⟩;have hl:(g.getD 0).toNat<=(o.getD xs.length).toNat:=zOm;simp only[Option.getD_some];exact sV r ag hl zOm zOm zOm _ (fun hf=>by
      simp only[decide_eq_true_eq]at hf;omega)
    .exact absurd e zSp
  .rename_i b sz off len el U
   simp only at e;split at e
   .split at e
    .rename_i hc
     obtain⟨c1,c2,c3,c4,C⟩:=hc;simp only[qs]at e;subst e;cases r with
     |sl _ _ _ _ p a4 cap hb ht hl =>
     have i:=Yi (P:=P) (w:=w) (isSlice:=true) (len:=len) (cap:=cap) J R T zSp c1 c2 zSo zSp hl;refine⟨_,by simp only[Instr.sliceAt,Instr.slice,qQ,run_underlying U,qS,i,jz C,zJ];rfl,?_⟩;simp only[Option.getD_none,Int.toNat_natCast];have e1:(if cap=(g.getD 0).toNat then some (⟨p,off,none⟩:Addr) else (some (⟨p,off,none⟩:Addr)).map (·.add ((g.getD 0).toNat*sz)))=some ⟨p,off+(g.getD 0).toNat*sz,none⟩:=by
      split
      .rename_i aj
       have:(g.getD 0).toNat=0:=zOm;simp[this]
      .simp only[zh,Addr.add]
       split<;>simp_all
     rw[e1,show (o.getD (len:Int)).toNat-(g.getD 0).toNat=(o.getD (len:Int)-g.getD 0).toNat by omega];refine .sl b sz _ _ p a4 _ hb ?_ zOm;have aw:(g.getD 0).toNat<=cap:=zOm;refine zQ (Nat.le_of_eq ?_) ht;rw[Nat.add_assoc,<-Nat.add_mul];congr 2;omega
    .exact absurd e zSp
   .exact absurd e zSp
  .rename_i cs n el U
   simp only at e;split at e
   .split at e
    .rename_i hc
     obtain⟨c1,c2,c3,c4,C,ax⟩:=hc;simp only[qs]at e;subst e;cases r with
     |ip _ a arr e' fr rd hb hs hi hr hv =>
     obtain⟨ab,ao,ay⟩:=a;simp only at hb hs hi hr;subst hs;have i:=Yi (P:=P) (w:=w) (isSlice:=false) (len:=n) (cap:=n) J R T zSp c1 c2 zSo zSp (qn n);refine⟨_,by simp only[Instr.sliceAt,Instr.sureAddr,qQ,run_underlying U,qS,i,jz C,zJ];rfl,?_⟩;simp only[Option.getD_none,Int.toNat_natCast,Nat.mul_one];have e1:(some (if n=(g.getD 0).toNat then (⟨ab,ao,none⟩:Addr) else (⟨ab,ao,none⟩:Addr).add (g.getD 0).toNat))=some ⟨ab,ao+(g.getD 0).toNat,none⟩:=by
      split
      .rename_i aj
       have:(g.getD 0).toNat=0:=zOm;simp[this]
      .simp only[Addr.add]
       split<;>simp_all
     rw[e1];have I:(((cs.take (o.getD (n:Int)).toNat).drop (g.getD 0).toNat).map fun c=>[c]).length=(o.getD (n:Int)).toNat-(g.getD 0).toNat:=by
      simp only[zT,List.length_drop,ub];omega
     have a5:∀ l:List AV,(l.map fun c=>[c]).flatten=l:=by
      intro l;induction l with
      |nil=>rfl
      |cons x l ih=>simp[ih]
     by_cases h0:(o.getD (n:Int)).toNat-(g.getD 0).toNat=0
     .rw [h0]
      have:(((cs.take (o.getD (n:Int)).toNat).drop (g.getD 0).toNat).map fun c=>[c])=[]:=uM (by rw[I,h0]);rw[this];exact .emp _ _ _ (fun h=>by rw[decide_eq_true_eq]at h;omega)
     .rw [<-I]
      have a3:∀(k:Nat) x,(((cs.take (o.getD (n:Int)).toNat).drop (g.getD 0).toNat).map fun c=>[c]).flatten[k]?=some x->cs[(g.getD 0).toNat+k]?=some x:=by
       intro k x hx;rw[a5,uK,vf]at hx;split at hx
       .exact hx
       .exact absurd hx zSp
      refine .lst _ _ 1 ⟨ab,ao+(g.getD 0).toNat,none⟩ _ arr e' fr (fun k=>rd ((g.getD 0).toNat+k)) hb rfl (by rw[I];omega) (fun h=>by rw[decide_eq_true_eq]at h;rw[I];omega) hi ?_ ?_ ?_
      .intro r aq
       obtain⟨c,_,rfl⟩:=qp.1 aq;rfl
      .intro k x hx
       have:=hr _ x (a3 k x hx);simpa[Nat.add_assoc] using this
      .intro k x hx
       exact hv _ x (a3 k x hx)
    .exact absurd e zSp
   .exact absurd e zSp
  .rename_i b off n el U
   split at e
   .split at e
    .rename_i hc
     obtain⟨rfl,c1,c2,c3,c4⟩:=hc;obtain⟨sz,C⟩:=Option.isSome_iff_exists.1 c4;simp only[qs]at e;subst e;cases r with
     |ptr _ _ p a4 hb =>
     have i:=Yi (P:=P) (w:=w) (isSlice:=false) (len:=n) (cap:=n) J R T zSp zOm zOm zSo zSp (qn n);refine⟨_,by simp only[Instr.sliceAt,Instr.sureAddr,qQ,run_underlying U,qS,i,jz C,zJ];rfl,?_⟩;simp only[Option.getD_none,Int.toNat_natCast,c1,Int.toNat_zero,Nat.zero_mul,Nat.sub_zero];have e1:(some (if n=0 then (⟨p,0,none⟩:Addr) else (⟨p,0,none⟩:Addr).add 0))=some ⟨p,0,none⟩:=by
      split
      .rfl
      .simp only[Addr.add]
       split<;>simp_all
     rw[e1];exact .sl b 0 0 _ p a4 n hb zSp zOm
    .exact absurd e zSp
   .exact absurd e zSp
  .rename_i s U
   cases r;simp only at e;split at e
   .split at e
    .rename_i hc
     obtain⟨c1,c2,c3⟩:=hc;simp only[qs]at e;subst e;rcases T with ⟨_,rfl⟩|⟨_,_,h,_⟩
     .have i:=Yi (P:=P) (w:=w) (isSlice:=false) (len:=s.size) (cap:=s.size) J R (mx:=none) (vmx:=none) (.inl ⟨rfl,rfl⟩) zSp c1 c2 (by simp<;>omega) zSp (qn _)
      exact⟨_,by simp only[Instr.sliceAt,Instr.slice,qQ,run_underlying U,qS,i,zJ,Option.isSome_none,Bool.false_eq_true,if_false],.sc _ rfl⟩
     .exact absurd h zSp
    .exact absurd e zSp
   .exact absurd e zSp
  .exact absurd e zSp
 .exact absurd e zSp
end
end Go.Ev
namespace Go.Ev
open Go Go.RowKit
theorem qgN(off):∀(l:List qf)(s cs),((l.zipIdx s).foldl (fun (cs:Array qf) (x:qf×Nat)=>cs.setIfInBounds (off+x.2) x.1) cs).size=cs.size:=by
 intro l;induction l with
 |nil=>intro s cs;rfl
 |cons y j g=>simp_all
theorem qgO(off):∀(l:List qf)(s cs k),off+s+l.length<=cs.size ->
  ((l.zipIdx s).foldl (fun (cs:Array qf) (x:qf×Nat)=>cs.setIfInBounds (off+x.2) x.1) cs).getD k z6 =
   if off+s<=k/\k<off+s+l.length then l.getD (k-(off+s)) z6 else cs.getD k z6:=by
 intro l;induction l with
 |nil=>simp_all[if_neg,List.length_nil]
 |cons y j i =>
  intro s cs k h;simp only[yy]at h;simp only[List.zipIdx_cons,List.foldl_cons];rw[i (s+1) _ k zSo];by_cases g:off+(s+1)<=k/\k<off+(s+1)+j.length
  .rw [if_pos g,if_pos (by grind)]
   rw[show k-(off+s)=(k-(off+(s+1)))+1 by omega];simp
  .rw [if_neg g]
   by_cases o:k=off+s
   .subst o
    rw[if_pos zSp];simp[qU,show off+s<cs.size by omega]
   .rw [if_neg (by grind)]
    simp only[qU]
    grind
@[go_sem] def Zb(place:Nat->Option (Nat×Nat))(cells:List AV):List (Nat×AV)->Option (List AV)
 | []=>some cells
 | (i,v) :: g =>
  match place i with
  |none=>none
  |some (off,size)=>if v.cells.length=size/\off+size<=cells.length/\v.cells.all AV.one=true then Zb place (putCells cells off v.cells) g else none
theorem pJ(cells off xs)(h:off+xs.length<=cells.length):(putCells cells off xs).length=cells.length:=by
 grind [jm]
theorem qgP(cells off xs)(h:off+xs.length<=cells.length)(k) :
  (putCells cells off xs)[k]?=if off<=k/\k<off+xs.length then xs[k-off]? else cells[k]?:=by
 rw[jm _ _ _ h,zL];by_cases g:k<off
 .rw [zIn,qL zSo,vf,if_pos g]
 .have i:(cells.take off).length=off:=by simp;omega
  rw[zZ zOm,i];by_cases j:k<off+xs.length
  .rw [if_pos zOm,zGa]
  .rw [zIn,zZ zOm,uK]
   congr 1;omega
def JB(G:Gh)(h:Array Obj):List (Nat×AV)->List (Nat×qf)->Prop
 | [],[]=>True
 | (i,x) :: p,(j,v) :: g=>i=j/\VRel G h x v/\JB G h p g
 |_,_=>False
theorem pK{G h place}:∀ ps g cells arr z,JB G h ps g ->
  arr.size=cells.length->(∀(k) x,cells[k]?=some x->VRel G h x (arr.getD k z6))->Zb place cells ps=some z ->
  ∃ r,Instr.fill place arr g=some r/\r.size=z.length/\z.length=cells.length/\∀(k) x,z[k]?=some x->VRel G h x (r.getD k z6):=by
 intro ps;induction ps with
 |nil =>
  intro g cells arr z o C J h;cases g with
  |nil =>
   simp only[Zb,qs]at h;subst h;exact⟨arr,rfl,C,rfl,J⟩
  |cons=>exact o.elim
 |cons p ps P =>
  intro g cells arr z o C J h;obtain⟨i,x⟩:=p;cases g with
  |nil=>exact o.elim
  |cons q g =>
   obtain⟨j,v⟩:=q;obtain⟨rfl,R,o⟩:=o;simp only[Zb]at h;split at h
   .grind
   .rename_i off size T
    split at h
    .rename_i l
     obtain⟨c1,c2,c3⟩:=l;obtain⟨U,t,I⟩:=R.cells (fun c a0=>by grind);have hl:v.cells.toList.length=size:=zSo;obtain⟨r,h1,h2,h3,h4⟩:=P g (putCells cells off x.cells) (v.cells.zipIdx.foldl (fun cs (x:qf×Nat)=>cs.setIfInBounds (off+x.2) x.1) arr) z o
      (by rw[pJ _ _ _ zOm,<-Array.foldl_toList,Array.toList_zipIdx,qgN,C])
      (by
       intro k y hk;rw[qgP _ _ _ zOm]at hk;rw[<-Array.foldl_toList,Array.toList_zipIdx,qgO off _ 0 arr k zOm];by_cases a1:off<=k/\k<off+x.cells.length
       .simp_all
       grind) h
     simp_all[pJ,Instr.fill,if_neg]
    grind
def ym(P:qc)(t:qd):Option (Nat->Option (Nat×Nat)):=
 match P.underlying t with
 |some (.array _ e)=>(szOf P e).map fun s=>fun i=>some (i*s,s)
 |some (.struct j)=>(j.toList.mapM (fun f=>(P.info? f.type).map fun i=>(f.offset,i.size))).map fun g=>fun i=>g.toArray[i]?
 |_=>none
@[go_sem] def VV(P:qc)(t:qd)(ps:List (Nat×AV)):Option AV:=
 match qB P t,ym P t with
 |some z,some place=>(Zb place z.cells ps).map .agg
 |_,_=>none
theorem JC{G h}(v)(g:∀ c,c∈(ofV v).cells->c.one=true) :
  v.cells.size=(ofV v).cells.length/\∀(k) x,(ofV v).cells[k]?=some x->VRel G h x (v.cells.getD k z6):=
 let ⟨i,j,_⟩:=(VRel.ofV (G:=G) (h:=h) v).cells g
 ⟨i,j⟩
theorem qgQ{P G w t ps o z}(J:JB G w.heap ps o.toList)
  (R:∀ y,qB P t=some y->y.cells.all AV.one=true) (e:VV P t ps=some z):∃ u,(Instr.build t o).run P w = .ok u w/\VRel G w.heap z u:=by
 unfold VV at e;split at e
 .rename_i C place g j
  cases hf:Zb place C.cells ps with
  |none=>simp[hf]at e
  |some r =>
   simp only[hf,zh,qs]at e;subst e;have T:=R C g;unfold qB at g;cases l:P.info? t with
   |none=>simp[l]at g
   |some it =>
    simp only[l,Option.bind_some,vX]at g;obtain⟨v,hv,rfl⟩:=g;obtain⟨g1,U⟩:=JC (G:=G) (h:=w.heap) v (fun c hc=>by grind);obtain⟨I,h1,h2,h3,h4⟩:=pK ps o.toList _ v.cells r J g1 U hf;refine⟨.agg I,?_,.agg _ _ h2 h4⟩;refine run_build w t o I ?_;unfold ym at j;unfold Program.built;split at j
    .rename_i n el hu
     cases a0:P.info? el with
     |none=>grind [szOf]
     |some ie =>
      grind [szOf,qs]
    .rename_i fs hu
     cases hm:fs.toList.mapM (fun f=>(P.info? f.type).map fun i=>(f.offset,i.size)) with
     |none=>simp[hm]at j
     |some p =>
      grind
    grind
 grind
end Go.Ev
namespace Go.Ev
open Go Go.RowKit
section
variable {G:Gh}{xs:List (List AV)}{mu:Mu}{P:qc}{w:qe}
def qV(sz:Nat)(xs:List (List AV)):Prop:=∀ r,r∈xs->r.length=sz/\r.all AV.one=true
theorem qV.ok{sz}(h:qV sz xs):jn sz xs:=fun r g=>(h r g).1
theorem qV.one{sz}(h:qV sz xs):∀ c,c∈xs.flatten->c.one=true:=by
 intro c i;obtain⟨r,j,g⟩:=py.1 i;exact by simpa using qY.1 (h r j).2 c g
theorem WI(l:List qf)(k):l.toArray.getD k z6=l.getD k z6:=by
 simp[qU,zH]
theorem pL(s:Sim G mu w.heap){x v}(t)(r:VRel G w.heap x v)(o:x.cells.all AV.one=true) :
  ∃ G',(newVar t v).run P w = .ok ⟨w.heap.size,0,none⟩ (w.alloc (.cells v.cells t))/\Stp G mu w G' (mu++[.arr x.cells]) (w.alloc (.cells v.cells t)) /\
   VRel G' (w.alloc (.cells v.cells t)).heap (.ptr mu.length 0) (.pointer (some ⟨w.heap.size,0,none⟩)):=by
 obtain⟨i,g,_⟩:=r.cells (fun c p=>by grind);refine⟨_,rfl,sR s (.cells v.cells t) (.arr x.cells) v.cells.size ?_,.ptr _ 0 w.heap.size v.cells.size ?_⟩
 .intro _
  refine⟨v.cells,t,rfl,rfl,zOm,fun j y l=>⟨by grind,g j y l⟩⟩
 .show (G.blk++[_])[mu.length]?=_
  rw[<-s.len];simp
theorem qgR(s:Sim G mu w.heap){x v}(t)(r:VRel G w.heap x v)(l:x.cells.all AV.one=true) :
  ∃ G',(newVar t v).run P w = .ok ⟨w.heap.size,0,none⟩ (w.alloc (.cells v.cells t))/\Stp G mu w G' mu (w.alloc (.cells v.cells t)) /\
   VRel G' (w.alloc (.cells v.cells t)).heap (.ip x.cells) (.pointer (some ⟨w.heap.size,0,none⟩)):=by
 obtain⟨i,g,_⟩:=r.cells (fun c o=>by grind);have U:=sB s (.cells v.cells t);refine⟨_,rfl,U,.ip _ _ v.cells t (0,0) (fun k=>v.cells.getD k z6) (VL w _) rfl (.inr rfl) ?_ ?_⟩
 .simp_all [ql,qU]
 .intro k y j
  exact U.vrel s (g k y j)
theorem pM(z n){k}{x:AV}(h:((qM n z).flatten)[k]?=some x):z[k % z.length]?=some x:=by
 induction n generalizing k with
 |zero=>simp at h
 |succ n g =>
  grind [wm,qL,Nat.mod_eq_of_lt,zZ,Nat.mod_eq_sub_mod]
theorem pN(z:List AV)(n):((qM n z).flatten).length=n*z.length:=by simp
@[go_sem] def Yj(sz:Nat):List (List AV)->List (Nat×AV)->Option (List (List AV))
 |rows,[]=>some rows
 |rows,(i,v) :: g=>if v.cells.length=sz/\i<rows.length/\v.cells.all AV.one=true then Yj sz (rows.set i v.cells) g else none
theorem VW{sz}:∀ rows i r,jn sz rows->r.length=sz->i<rows.length->(rows.set i r).flatten=putCells rows.flatten (i*sz) r:=by
 intro rows;induction rows with
 |nil=>grind
 |cons y j I =>
  intro i r l t J;have P:y.length=sz:=l y zSp;have R:(y :: j).flatten.length=(j.length+1)*sz:=yK (xs:=y :: j) l;cases i with
  |zero =>
   grind [jm,Nat.succ_mul]
  |succ i =>
   simp only[List.set_cons_succ,wm];have o:i<j.length:=zUs J;have g:jn sz j:=fun r t=>l r (zP1 t)
   rw[I i r g t o];have C:i*sz+r.length<=j.flatten.length:=by
    rw[yK g,t];have:(i+1)*sz<=j.length*sz:=Nat.mul_le_mul_right _ o;rw[Nat.succ_mul]at this;exact this
   rw[jm _ _ _ C,jm _ _ _ (by simp only[zj,P,Nat.succ_mul];omega)];simp_all[Nat.succ_mul,Nat.add_comm,List.take_append,List.drop_append,List.take,List.take_of_length_le,List.drop]
theorem qgS{sz}:∀ ps rows g,jn sz rows->Yj sz rows ps=some g ->
  Zb (fun i=>some (i*sz,sz)) rows.flatten ps=some g.flatten/\jn sz g/\g.length=rows.length:=by
 intro ps;induction ps with
 |nil =>
  intro rows g j h;simp only[Yj,qs]at h;subst h;exact⟨rfl,j,rfl⟩
 |cons p ps t =>
  intro rows g j h;obtain⟨i,v⟩:=p;simp only[Yj]at h;split at h
  .rename_i C
   obtain⟨c1,c2,c3⟩:=C;have l:jn sz (rows.set i v.cells):=by
    intro r I;rcases List.mem_or_eq_of_mem_set I with h|h
    .exact j r h
    grind
   obtain⟨J,P,R⟩:=t _ g l h;refine⟨?_,P,by rw[R];simp⟩;simp only[Zb];have o:i*sz+sz<=rows.flatten.length:=by
    rw[yK j];have:(i+1)*sz<=rows.length*sz:=Nat.mul_le_mul_right _ c2
    grind
   rw[if_pos ⟨c1,o,c3⟩,<-VW rows i v.cells j c1 c2];exact J
  grind
@[go_sem] def VX(P:qc)(t:qd)(len:Nat)(ps:List (Nat×AV)):Option AV:=
 match qF P t with
 |some (e,sz,_) =>
  match qB P e with
  |some z=>if len*sz<=16777216/\z.cells.length=sz/\z.cells.all AV.one=true then (Yj sz (qM len z.cells) ps).map (.lst true) else none
  |none=>none
 |none=>none
theorem VY{t z}(h:qB P t=some z):∃ i v,P.info? t=some i/\i.zero=some v/\z=ofV v:=by
 unfold qB at h;cases g:P.info? t with
 |none=>simp[g]at h
 |some it =>
  simp only[g,Option.bind_some,vX]at h;obtain⟨v,j,rfl⟩:=h
  grind
theorem sJ{h sz b cap cs e g}(full)(i:h[b]?=some (.cells cs e g))(j:xs.length<=cap)(l:full=true->cap=xs.length)
  (o:G.imm b) (p:jn sz xs) (C:xs.flatten.length<=cs.size) (t:∀(k) x,xs.flatten[k]?=some x->VRel G h x (cs.getD k z6)):VRel G h (.lst full xs) (.slice (some ⟨b,0,none⟩) xs.length cap):=by
 refine .lst full xs sz ⟨b,0,none⟩ cap cs e g (fun k=>cs.getD k z6) i rfl j l o p ?_ t;intro k x I;have:k<cs.size:=by grind
 simp[qU,this]
theorem pO{z:Array qf}{n k}(g:k<n)(i:0<z.size):(((Array.range n).map (z[· % z.size]!)).getD k z6)=z.getD (k % z.size) z6:=by
 simp_all[Nat.mod_lt,qU,getElem!_pos]
theorem qgT(s:Sim G mu w.heap){t len ps J x}(hp:JB G w.heap ps J.toList)
  (e:VX P t len ps=some x):Good P G mu w (Instr.buildSlice t len J) x mu:=by
 unfold VX at e;split at e
 .rename_i el sz bt hs
  split at e
  .rename_i z hz
   split at e
   .rename_i hc
    obtain⟨c1,c2,c3⟩:=hc;cases o:Yj sz (qM len z.cells) ps with
    |none=>simp[o]at e
    |some rows =>
     simp only[o,zh,qs]at e;subst e;obtain⟨a5,hu,a4,a6,a7⟩:=uC hs;have R:szOf P el=some sz:=by grind [szOf]
     obtain⟨it,j,T,a0,rfl⟩:=VY hz;have C:jn sz (qM len (ofV j).cells):=by
      intro r o;rw[List.eq_of_mem_replicate o];exact c2
     obtain⟨f1,f2,f3⟩:=qgS ps _ rows C o;have g:=JC (G:=G) (h:=w.heap) j (fun c hc=>by grind);have l:((qM len (ofV j).cells).flatten).length=len*sz:=by rw[pN,c2]
     obtain⟨arr,k1,k2,k3,k4⟩:=pK (G:=G) (h:=w.heap) ps J.toList _ ((Array.range (len*sz)).map ((if len*sz=0 then #[] else j.cells)[· % (if len*sz=0 then #[] else j.cells).size]!)) _ hp (by simp[l])
      (by
       intro k y hk;have a1:k<len*sz:=by grind
       have a2:¬len*sz=0:=zOm;have:=pM _ _ hk;rw[c2]at this;simp only[if_neg a2];have I:j.cells.size=sz:=by rw[g.1,c2]
       rw[pO a1 (by grind),I]
       grind) f1
     have U:=sB s (.cells arr el);have i:rows.length=len:=by rw[f3];simp
     refine⟨.slice (some ⟨w.heap.size,0,none⟩) len len,_,_,?_,U,?_⟩
     .have a8:(zeroValue el).run P w = .ok j w:=by simp[zeroValue,typeInfo,T,a0]
      have a3:¬(len*sz > 2 ^ 24):=zOm;simp only[Instr.buildSlice,qQ,run_underlying hu,qS,jz R,if_neg a3];by_cases h0:len*sz=0
      .simp_all [if_pos,qQ,qS,zJ,newRow,run_newObj]
      simp_all[if_neg,qQ,qS,zJ,newRow,run_newObj]
     .have:=sJ (G:=⟨fun b=>G.imm b\/b=w.heap.size,G.blk⟩) (h:=(w.alloc (.cells arr el)).heap) (xs:=rows) (sz:=sz) (b:=w.heap.size) (cap:=len) true (VL w _) zOm (fun _=>i.symm) (.inr rfl) f2 zOm
       (fun k y hk=>U.vrel s (k4 k y hk))
      rw[i]at this;exact this
   grind
  grind
 grind
end
end Go.Ev
namespace Go.Ev
open Go Go.RowKit
theorem Stp.move{G mu w}(s:Sim G mu w.heap)(i c p o)(hc:mu[i]?=some c)(hd:c ≠ .dead)(hk:G.blk[i]?=some (p,o)) :
  Stp G mu w ⟨G.imm,G.blk++[(p,o)]⟩ (mu.set i .dead++[c]) w:=by
 have R:G.le ⟨G.imm,G.blk++[(p,o)]⟩:=⟨fun b h=>h,fun j x h=>by
  grind⟩
 have a4:=s.len;have a1:(mu.set i Cell.dead).length=mu.length:=zSp
 have C:∀(j:Nat)(l:Cell) b t,(mu.set i Cell.dead++[c])[j]?=some l->l ≠ .dead->(G.blk++[(p,o)])[j]?=some (b,t) ->
   (j<mu.length/\j≠i/\mu[j]?=some l/\G.blk[j]?=some (b,t))\/(j=mu.length/\l=c/\b=p/\t=o):=by
  intro j l b t P g T;rcases yB P with ⟨J,I⟩|⟨J,I⟩
  .grind
  .rcases yB T with ⟨h',_⟩|⟨_,h'⟩
   .omega
   .obtain ⟨rfl,rfl⟩:=Prod.mk.inj h'
    exact .inr ⟨zOm,I,rfl,rfl⟩
 refine⟨R,⟨by simp[s.len],s.imm,?_,?_,?_,s.tab⟩,fun _ _ _=>rfl,qn _,?_,fun b h => .inl h,rfl,rfl,rfl,qn _⟩
 .intro j l b t P g T
  rcases C j _ b t P g T with ⟨_,_,J,I⟩|⟨_,rfl,rfl,rfl⟩
  .obtain ⟨o',g1,g2⟩:=s.obj j l b t J g I
   exact⟨o',g1,g2.le R⟩
  .obtain ⟨o',g1,g2⟩:=s.obj i l b t hc hd hk
   exact⟨o',g1,g2.le R⟩
 .intro j l b t P g T
  rcases C j _ b t P g T with ⟨_,_,J,I⟩|⟨_,rfl,rfl,rfl⟩
  .exact s.live j l b t J g I
  .exact s.live i l b t hc hd hk
 .intro j k l ck b t t' P a2 g U a0 a3
  rcases C j _ b t P g a0 with ⟨l1,n1,J,I⟩|⟨l1,e1,e2,e3⟩<;>rcases C k _ b t' a2 U a3 with ⟨l2,n2,h3,h4⟩|⟨l2,e4,e5,e6⟩
  .exact s.inj j k l ck b t t' J h3 g U I h4
  .subst e5
   exact absurd (s.inj j i l c b t o J hc g hd I hk) n1
  .subst e2
   exact absurd (s.inj k i ck c b t' o h3 hc U hd h4 hk) n2
  .omega
 .intro b T
  obtain⟨j,l,t,P,g,a0⟩:=T;rcases C j _ b t P g a0 with ⟨_,_,J,I⟩|⟨_,rfl,rfl,rfl⟩
  .exact .inl ⟨j,l,t,J,g,I⟩
  .exact .inl ⟨i,l,t,hc,hd,hk⟩
@[go_sem] def JD(n:Nat)(z:List AV):List AV:=
 match z with
 | [x]=>qM n x
 |z=>(qM n z).flatten
theorem pP(n z):JD n z=(qM n z).flatten:=by
 unfold JD;split
 .simp
 .rfl
@[go_sem] def JE(P:qc)(mu:Mu)(t:qd)(len cap:AV):Option (AV×Mu):=
 match len,cap,qF P t with
 | .sc (.int .i64 l),.sc (.int .i64 c),some (e,sz,g) =>
  match qB P e with
  |some z=>if 0<=l/\l<=c/\c<=4294967296/\g<=16384/\z.cells.length=sz/\z.cells.all AV.one=true/\sz≠0 then
    some (.sl mu.length sz 0 l.toNat,mu++[.arr (JD l.toNat z.cells)]) else none
  |none=>none
 |_,_,_=>none
theorem yh{n}(g : -9223372036854775808<=n)(i:n<=9223372036854775807):qo.wrap n=n:=IntWalk.i64_in n ⟨g,i⟩
theorem zWr{x}(g:-9223372036854775808<=x:=by omega)(i:x<=9223372036854775807:=by omega):qo.wrap x=x:=yh g i
theorem zWk(k:Nat)(g:-9223372036854775808<=(k:Int)+1:=by omega)(i:(k:Int)+1<=9223372036854775807:=by omega):qo.wrap ((k:Int)+1)=(k:Int)+1:=yh g i
theorem qgU{P G mu mu' w}(s:Sim G mu w.heap){t len cap x vl vc}(rl:VRel G w.heap len vl)(rc:VRel G w.heap cap vc)
  (e:JE P mu t len cap=some (x,mu')):Good P G mu w (Instr.makeSlice t vl vc) x mu':=by
 unfold JE at e;split at e
 .rename_i l c el sz bt hs
  cases rl;cases rc;split at e
  .rename_i z hz
   split at e
   .rename_i hc
    obtain⟨c1,c2,c3,c4,c5,c6,c7⟩:=hc;simp only[qs,wo]at e;obtain⟨rfl,rfl⟩:=e;obtain⟨i,hu,C,a8,T⟩:=uC hs;have a0:szOf P el=some sz:=by grind [szOf]
    obtain⟨it,o,a1,a2,rfl⟩:=VY hz;have g:=JC (G:=G) (h:=w.heap) o (fun c hc=>by grind);have a3:(zeroValue el).run P w = .ok o w:=by simp[zeroValue,typeInfo,a1,a2]
    have a4:qo.wrap l=l:=zWr;have a5:qo.wrap c=c:=zWr;have a9:((i.bytes:Nat):Int)*c<=2 ^ 48:=by
     rw[T];have h1:(bt:Int)*c<=16384*4294967296:=Int.mul_le_mul zOm zOm zOm zOm;omega
    have I:o.cells.size=sz:=by rw[g.1,c5]
    let arr:Array qf:=(Array.range (c.toNat*sz)).map ((if c.toNat*sz=0 then #[] else o.cells)[· % (if c.toNat*sz=0 then #[] else o.cells).size]!)
    have J:arr.size=c.toNat*sz:=by simp[arr]
    have aa:l.toNat*sz<=c.toNat*sz:=Nat.mul_le_mul_right _ zOm;have ab:(JD l.toNat (ofV o).cells).length=l.toNat*sz:=by rw[pP,pN,c5]
    have U:=sR s (.cells arr el) (.arr (JD l.toNat (ofV o).cells)) (c.toNat*sz) (by
     intro _;refine⟨arr,el,rfl,J,zOm,fun j y hj=>?_⟩;have ad:j<l.toNat*sz:=by grind
     have a6:¬c.toNat*sz=0:=zOm;rw[pP]at hj;have hy:=pM _ _ hj;refine⟨by grind,?_⟩;have:=g.2 _ y hy;simp only[arr,if_neg a6];rw[pO zOm zOm,I,<-c5];exact this)
    refine⟨.slice (some ⟨w.heap.size,0,none⟩) l.toNat c.toNat,_,_,?_,U,?_⟩
    .have a7:(typeInfo el).run P w = .ok i w:=by simp[typeInfo,C]
     have n1:¬(((i.bytes:Nat):Int)*c > 2 ^ 48):=zOm;have p:((decide (c<0)||decide (((i.bytes:Nat):Int)*c > 2 ^ 48))||decide (l<0)||decide (l > c))=false:=by
      grind
     simp only[Instr.makeSlice,qQ,run_underlying hu,qS,asInt,asIntOf,zJ,a7,a4,a5,p,Bool.false_eq_true,if_false,run_askRoom,jz a0];by_cases R:c.toNat*sz=0
     .simp only[if_pos R,qQ,zJ,qS,newRow,run_newObj]
      simp only[arr,if_pos R];rfl
     .simp only[if_neg R,qQ,a3,zJ,qS,newRow,run_newObj]
      simp only[arr,if_neg R];rfl
    .refine .sl _ sz 0 _ w.heap.size (c.toNat*sz) c.toNat ?_ zOm zOm
     show (G.blk++[_])[mu.length]?=_;rw[<-s.len];simp
   grind
  grind
 grind
end Go.Ev
namespace Go.Ev
open Go Go.RowKit
section
variable {P:qc}{w:qe}
def qA(mu:Mu):AV->Option (List (List AV))
 | .lst _ p=>some p
 | .sl b sz off len=>match mu[b]? with
  |some (.arr cells)=>if off+len*sz<=cells.length then some ((qu len).map fun i=>(cells.drop (off+i*sz)).take sz) else none
  |_=>none
 |_=>none
theorem WJ(sz):∀(len)(cells:List AV),len*sz<=cells.length->((qu len).map fun i=>(cells.drop (i*sz)).take sz).flatten=cells.take (len*sz):=by
 intro len;induction len with
 |zero=>intro cells _;simp
 |succ n g =>
  intro cells h;rw[List.range_succ,zi,List.flatten_append,g cells (by rw[Nat.succ_mul]at h;omega)];simp only[List.map_cons,List.map_nil,wm,List.flatten_nil,List.append_nil,Nat.succ_mul];rw[List.take_add]
theorem VZ{G mu}(s:Sim G mu w.heap){x v ys sz}(r:VRel G w.heap x v)(h:qA mu x=some ys)(R:qV sz ys) :
  ∃(a:Option Addr) (cap:Nat) (news:List qf),v = .slice a ys.length cap/\news.length=ys.length*sz/\(∀ u∈news,u.oneCell'=true) /\
   (∀(k) y,ys.flatten[k]?=some y->VRel G w.heap y (news.getD k z6))/\(Builtin.firstCells sz ys.length v).run P w = .ok news.toArray w/\(Builtin.firstCells sz ys.length v).run P w.drew = .ok news.toArray w.drew:=by
 have fin:∀(a:Addr)(cap:Nat)(rd:Nat->qf),(∀(k:Nat) y,ys.flatten[k]?=some y->w.cell? (a.add k)=some (rd k)/\VRel G w.heap y (rd k))->v = .slice (some a) ys.length cap ->
   ∃(a:Option Addr) (cap:Nat) (news:List qf),v = .slice a ys.length cap/\news.length=ys.length*sz/\(∀ u∈news,u.oneCell'=true) /\
   (∀(k:Nat) y,ys.flatten[k]?=some y->VRel G w.heap y (news.getD k z6))/\(Builtin.firstCells sz ys.length v).run P w = .ok news.toArray w/\(Builtin.firstCells sz ys.length v).run P w.drew = .ok news.toArray w.drew:=by
  intro a cap rd T U;subst U;have l:=yK R.ok;have t:∀ k,k<ys.length*sz->∃ y,ys.flatten[k]?=some y:=fun k hk=>⟨ys.flatten[k]' zOm,by simp[l,hk]⟩
  refine⟨some a,cap,(qu (ys.length*sz)).map rd,rfl,zSp,?_,?_,?_,?_⟩
  .intro u hu
   obtain⟨k,hk,rfl⟩:=qp.1 hu;obtain⟨y,i⟩:=t k (zUs hk);exact(T k y i).2.one (R.one y (q8 i))
  .grind
  .grind [Builtin.firstCells,run_loadCells]
  .simp only[Builtin.firstCells]
   exact run_loadCells w.drew a _ rd (fun j hj=>by simp_all)
 unfold qA at h;split at h
 .rename_i full p
  simp only[qs]at h;subst h;cases r with
  |nil=>exact⟨none,0,[],rfl,zSp,zSp,zSp,by simp[Builtin.firstCells],by simp[Builtin.firstCells]⟩
  |emp _ a cap hc=>simp_all
  |lst _ _ g a cap cs e fr rd hb hs hl hc hi a2 hr U =>
   exact fin a cap rd (fun k y i=>⟨by rw[ZJ hb hs];exact hr k y i,U k y i⟩) rfl
 .rename_i b g off len
  split at h
  .rename_i cells hc
   split at h
   .rename_i a3
    simp only[qs]at h;cases r with
    |sl _ _ _ _ o a0 cap hb ht hl =>
    obtain⟨arr,e,h1,h2,h3,h4⟩:=s.arr b cells o a0 hc hb;have C:ys.length=len:=by rw[<-h];simp
    subst C;by_cases h0:ys.length=0
    .simp_all
    .have I:g=sz:=by
      have J:0<ys.length:=zOm;have hm:(cells.drop (off+0*g)).take g∈ys:=by
       rw[<-h];exact qp.2 ⟨0,zUs J,rfl⟩
      have:=(R _ hm).1;have a1:g<=ys.length*g:=Nat.le_mul_of_pos_left _ J;simp at this;omega
     subst I;have l:ys.flatten=(cells.drop off).take (ys.length*g):=by
      rw[<-h];have:=WJ g ys.length (cells.drop off) zSo;simp only[List.drop_drop]at this;simpa using this
     refine fin ⟨o,off,none⟩ cap (fun k=>arr.getD (off+k) z6) (fun k y i=>?_) rfl;rw[l,vf]at i;split at i
     .rw [uK]at i
      refine⟨?_,(h4 _ y i).2⟩;rw[ZJ (a:=⟨o,off,none⟩) h1 rfl];have a4:off+k<cells.length:=(ql.1 i).1;have:off+k<arr.size:=zOm;simp[qU,this]
     grind
   grind
  grind
 grind
def jV(P:qc)(mu:Mu)(g:Array qd)(s x:AV)(K:AV->Mu->Prop):Prop:=
  ∃ t l e sz o j,g=#[t,l]/\qF P t=some (e,sz,o)/\(qF P l).isSome=true/\(∃ i,qB P e=some i/\i.cells.length=sz/\i.cells.all AV.one=true)/\sz≠0/\o<=16384/\qA mu x=some j/\qV sz j /\
    ((∃ p,s = .lst true p/\qV sz p/\p.length+j.length<=4294967296/\(j=[]->K s mu)/\(j≠[]->K (.sl mu.length sz 0 (p.length+j.length)) (mu++[.arr (p++j).flatten]))) \/
     (∃ b len cells,s = .sl b sz 0 len/\mu[b]?=some (.arr cells)/\len*sz<=cells.length/\len+j.length<=4294967296 /\
        K (.sl mu.length sz 0 (len+j.length)) (mu.set b .dead++[.arr (cells.take (len*sz)++j.flatten)])))
theorem pQ{t I ty e i d}(J:P.underlying t=some (.slice e))(o:P.underlying I=some (.slice d))(R:P.info? e=some i)
  {base} {g j n cap} {a} {news} {w'}
  (hf:(Builtin.firstCells i.size n (.slice a n cap)).run P w = .ok news.toArray w) (l:g+n<=j)
  (p:∀ b,base=some b->(storeCells (b.add (g*i.size)) news).run P w = .ok () w') (C:base=none->w'=w) :
  (Builtin.append_ #[t,I] ty #[.slice base g j,.slice a n cap]).run P w = .ok (.slice base (g+n) j) w':=by
 cases base with
 |none =>
  have:=C rfl;subst this;simp[Builtin.append_,run_underlying J,run_underlying o,sizeOf,typeInfo,R,Builtin.lenOf,l,hf]
 |some b =>
  have:=p b rfl;simp[Builtin.append_,run_underlying J,run_underlying o,sizeOf,typeInfo,R,Builtin.lenOf,l,hf,this]
theorem qgV{t J ty e i z d}(T:P.underlying t=some (.slice e))(C:P.underlying J=some (.slice d))(U:P.info? e=some i)(hz:i.zero=some z)
  {base a} {g j n cap} {l news}
  (I:(Builtin.firstCells i.size g (.slice base g j)).run P w.drew = .ok l.toArray w.drew) (hf:(Builtin.firstCells i.size n (.slice a n cap)).run P w.drew = .ok news.toArray w.drew)
  (hg:j<g+n) (a0:((g+n:Nat):Int)<=9223372036854775807) (R:Builtin.nextslicecap (g+n) j*i.bytes<=281474976710656) :
  (Builtin.append_ #[t,J] ty #[.slice base g j,.slice a n cap]).run P w =
   .ok (.slice (some ⟨w.heap.size,0,none⟩) (g+n) (grownCap w (g+n) j e))
    (w.drew.alloc (.cells (l++(news++(ja z.cells (grownCap w (g+n) j e-(g+n))).toList)).toArray e)):=by
 have hn:¬(g+n<=j):=zOm;have o:¬(9223372036854775807<((g:Int)+(n:Int))):=zOm;have p:¬(281474976710656<Builtin.nextslicecap (g+n) j*i.bytes):=zOm;simp[Builtin.append_,run_underlying T,run_underlying C,sizeOf,typeInfo,zeroValue,U,hz,Builtin.lenOf,hn,o,p,Question.forced,hf,I,newRow,grownCap];congr 2;apply Array.ext';simp
theorem pR(w g i e):g<=grownCap w g i e:=by
 simp only[grownCap,Question.cut];omega
theorem pS{g cap bt}(h:cap<g)(i:g<=4294967296)(j:bt<=16384):Builtin.nextslicecap g cap*bt<=281474976710656:=by
 refine growslice_fits h ?_;have:g*bt<=4294967296*16384:=Nat.mul_le_mul i j;omega
theorem pT{G mu}(s:Sim G mu w.heap){I ty sv xv vs vx}(rs:VRel G w.heap sv vs)(rx:VRel G w.heap xv vx){K}
  (h:jV P mu I sv xv K):∃ z mu',K z mu'/\Good P G mu w (Builtin.append_ I ty #[vs,vx]) z mu':=by
 obtain⟨t,t',e,sz,bt,ys,rfl,av,bk,⟨zv,aw,ax,ay⟩,bl,az,b0,a9,h⟩:=h;obtain⟨i,hu,hi,rfl,rfl⟩:=uC av;obtain⟨d,ag⟩:∃ d,P.underlying t'=some (.slice d):=by
  grind [qF,uC]
 obtain⟨i',z,b1,hz,rfl⟩:=VY aw;obtain rfl:i=i':=Option.some.inj (hi.symm.trans b1);have ak:z.cells.size=i.size:=by rw[(JC (G:=G) (h:=w.heap) z (fun c hc=>by simpa using qY.1 ay c hc)).1,ax]
 obtain⟨a,cap,l,rfl,ah,al,a5,hf,b2⟩:=VZ (P:=P) s rx b0 a9;have b3:=yK a9.ok
 have grow:∀(base:Option Addr)(g J:Nat)(o:List qf)(oc:List AV)(b4:Mu)(G1:Gh),g*i.size=oc.length->o.length=oc.length->(∀(k:Nat) y,oc[k]?=some y->y.one=true/\VRel G w.heap y (o.getD k z6)) ->
   (Builtin.firstCells i.size g (.slice base g J)).run P w.drew = .ok o.toArray w.drew->J<g+ys.length->g+ys.length<=4294967296 ->
   Good P G mu w (Builtin.append_ #[t,t'] ty #[.slice base g J,.slice a ys.length cap]) (.sl mu.length i.size 0 (g+ys.length)) (mu++[.arr (oc++ys.flatten)]):=by
  intro base g J o oc b4 G1 b5 a2 R aa hg a6;have T:=qgV (ty:=ty) hu ag hi hz aa b2 hg zOm (pS hg a6 az);have b6:=pR w (g+ys.length) J e;generalize grownCap w (g+ys.length) J e=gc at T b6;have b7:(ja z.cells (gc-(g+ys.length))).toList.length=(gc-(g+ys.length))*z.cells.size:=by simp[size_zeroCells]
  have sd:Sim G mu w.drew.heap:=s;have U:=sR sd (.cells (o++(l++(ja z.cells (gc-(g+ys.length))).toList)).toArray e) (.arr (oc++ys.flatten)) ((o++(l++(ja z.cells (gc-(g+ys.length))).toList)).length) (by
   intro _;refine⟨_,e,rfl,zSp,by simp only[zj];omega,fun j y hj=>?_⟩;rw[WI,zH];by_cases ab:j<oc.length
   .rw [qL ab]at hj
    rw[zGa,<-zH];exact R j y hj
   .rw [zZ zOm]at hj
    rw[zZ zOm,a2];have:j-oc.length<ys.flatten.length:=(ql.1 hj).1;rw[zGa,<-zH];exact⟨a9.one y (q8 hj),a5 _ y hj⟩)
  have an:(o++(l++(ja z.cells (gc-(g+ys.length))).toList)).length=gc*i.size:=by
   simp only[zj,b7,ak,a2,<-b5,ah,<-Nat.add_mul];congr 1;omega
  rw[an]at U;refine⟨_,_,_,T,(Stp.drew s).trans s U,?_⟩;refine .sl _ i.size 0 _ w.heap.size (gc*i.size) gc ?_ zOm zOm;show (G.blk++[_])[mu.length]?=_;rw[<-s.len];simp
 rcases h with ⟨p,rfl,ai,a6,b8,b9⟩|⟨b,len,cells,rfl,hc,ao,a6,hk⟩
 .obtain ⟨a0,ae,o,rfl,a2,_,R,aa,a4⟩:=VZ (P:=P) s rs (ys:=p) rfl ai
  have aq:ae=p.length:=by
   obtain⟨a1,c1,h1,_,h2,_⟩:=rs.lst_inv;cases h1;exact h2 rfl
  subst aq;by_cases hy:ys=[]
  .subst hy
   refine⟨_,_,b8 rfl,_,_,_,?_,Stp.refl s,rs⟩;have hn:l=[]:=uM (zUs ah);subst hn;exact pQ (ty:=ty) hu ag hi hf zSp (fun b hb=>rfl) (fun _=>rfl)
  .have bm:0<ys.length:=List.length_pos_iff.2 hy
   have ar:=yK ai.ok;have:=grow a0 p.length p.length o p.flatten mu G ar.symm (by rw[a2,ar]) (fun k y hk=>⟨ai.one y (q8 hk),R k y hk⟩) a4 zOm a6;rw[<-List.flatten_append]at this;exact⟨_,_,b9 hy,this⟩
 .refine ⟨_,_,hk,?_⟩
  have aj:qA mu (.sl b i.size 0 len)=some ((qu len).map fun j=>(cells.drop (j*i.size)).take i.size):=by
   simp only[qA,hc,Nat.zero_add];rw[if_pos ao]
  have bb:=rs;cases rs with
  |sl _ _ _ _ C ad a7 hb ht hl =>
  obtain⟨arr,e',h1,h2,h3,h4⟩:=s.arr b cells C ad hc hb;have au:qV i.size ((qu len).map fun j=>(cells.drop (j*i.size)).take i.size):=by
   intro r hr;obtain⟨j,hj,rfl⟩:=qp.1 hr;have bc:j<len:=zUs hj;have:(j+1)*i.size<=len*i.size:=Nat.mul_le_mul_right _ bc;rw[Nat.succ_mul]at this;refine⟨zSo,?_⟩;rw[qY];intro c be;obtain⟨k,hk⟩:=List.mem_iff_getElem?.1 (List.mem_of_mem_drop (vZ be));exact(h4 k c hk).1
  have bg:=WJ i.size len cells ao;obtain⟨a0,ae,o,hv,a2,_,R,aa,a4⟩:=VZ (P:=P) s bb aj au;rw[bg]at R;simp only[zT,List.length_range]at hv a2 aa a4;by_cases a3:len+ys.length<=a7
  ·
   have bn:len*i.size+l.length<=arr.size:=by
    have h5:=Nat.mul_le_mul_right i.size a3;rw[Nat.add_mul]at h5;rw[ah,h2];omega
   have T:=run_storeCells_at P C (len*i.size) e' l 0 arr w h1 zOm al;simp only[Nat.add_zero]at T;have bh:=pQ (ty:=ty) (w':=w.setRow C (arr.toList.take (len*i.size)++l++arr.toList.drop (len*i.size+l.length)).toArray) hu ag hi hf a3 (base:=some ⟨C,0,none⟩)
    (fun b' bi=>by
     cases bi;have:(⟨C,0,none⟩:Addr).add (len*i.size)=⟨C,len*i.size,none⟩:=by unfold Addr.add;split<;>simp_all
     rw[this];exact T) zSp
   have st1:=sW (w':=w.setRow C (arr.toList.take (len*i.size)++l++arr.toList.drop (len*i.size+l.length)).toArray) s b (.arr cells) (.arr (cells.take (len*i.size)++ys.flatten)) C ad
    (.cells (arr.toList.take (len*i.size)++l++arr.toList.drop (len*i.size+l.length)).toArray e' (0,0)) hc zSp zSp hb zSp (setRow_heap w C arr _ e' _ h1) (fun k hk=>setRow_other w C k _ hk) rfl rfl rfl
    (by
     have af:(cells.take (len*i.size)).length=len*i.size:=zSo;have bj:(arr.toList.take (len*i.size)).length=len*i.size:=zSo;refine⟨_,e',rfl,zSo,by simp only[zj,af,b3];omega,fun j y hj=>?_⟩;rw[WI,zH,zL];by_cases ab:j<len*i.size
     .rw [zGa,vf,if_pos ab]at hj
      rw[zGa,vf,if_pos ab,Jz,<-qU];exact h4 j y hj
     .rw [zZ zOm,af]at hj
      rw[zZ zOm,bj];have:j-len*i.size<ys.flatten.length:=(ql.1 hj).1;rw[zGa,<-zH];exact⟨a9.one y (q8 hj),a5 _ y hj⟩)
   have a8:b<mu.length:=(ql.1 hc).1;have st2:=Stp.move st1.sim b (.arr (cells.take (len*i.size)++ys.flatten)) C ad (zP1 a8) zSp hb;rw[List.set_set]at st2;refine⟨_,_,_,bh,st1.trans s st2,?_⟩;refine .sl _ i.size 0 _ C ad a7 ?_ ht a3;show (G.blk++[_])[mu.length]?=_;rw[<-s.len];simp
  .obtain ⟨v,w',G',k1,k2,k3⟩:=grow (some ⟨C,0,none⟩) len a7 o (cells.take (len*i.size)) mu G zSo (by rw[a2];simp;omega) (fun k y hk=>by
    refine⟨?_,R k y hk⟩;rw[vf]at hk;split at hk
    .exact (h4 k y hk).1
    .exact absurd hk zSp) a4 zOm a6
   have st2:=sX k2.sim b;have a8:b<mu.length:=(ql.1 hc).1;rw[List.set_append_left _ _ a8]at st2;exact⟨v,w',G',k1,k2.trans s st2,k3⟩
end
end Go.Ev
namespace Go.Ev
open Go Go.RowKit
section
variable {es:List (AV×AV)}{xs:List (List AV)}{cs:List AV}
structure St where
 tm:Nat->AV
 mu:Mu
def St.put(st:St)(d:Option Tmp)(v:AV)(m:Mu):St:=
 ⟨match d with|some d=>fun i=>if i=d then v else st.tm i|none=>st.tm,m⟩
def St.ev(st:St):qh->AV
 | .tmp t=>st.tm t
 | .const v=>ofV v
 | .global _ => .any
 | .func f => .fn (.func f) [] []
structure Pol where
 mt:List Nat:=[]
inductive AEnd where
 |ret (v:AV)
 |pan (v:AV)
def zX(G:Gh)(h:Array Obj)(args:List AV)(g:Array qf):Prop:=
 g.size=args.length/\∀(k:Nat) x,args[k]?=some x->VRel G h x (g.getD k z6)
def yT(P:qc)(f:zV):Prop:=∀(args:Array qf)(w:qe),(callFunc f args).run P w = .ok (.enter f args) w
def qC(P:qc)(f:zV)(args:List AV)(mu:Mu)(R:AEnd->Mu->Prop):Prop:=yT P f /\
 ∀(G:Gh)(w:qe)(o:Array qf),Sim G mu w.heap->zX G w.heap args o ->
  Calls P f o w fun e j=>∃ l g,Stp G mu w l g j /\
   ((∃ r v,R (.ret r) g/\e = .returned v/\VRel l j.heap r v)\/(∃ r v,R (.pan r) g/\e = .panicked [{ v,recovered:=false }]/\VRel l j.heap r v))
structure ZL (B:Nat) (w w':qe):Prop extends Below B w w' where
 drawn:w.drawn<=w'.drawn
def qj(P:qc)(f:zV)(args:List AV)(r:AV):Prop:=yT P f /\
 ∀(i:Nat->Prop)(w:qe)(l:Array qf),Sim ⟨i,[]⟩ [] w.heap->zX ⟨i,[]⟩ w.heap args l ->
  Calls P f l w fun e j=>∃ g v,e = .returned v/\(∀ b,i b->g b)/\(∀ b,g b->b<j.heap.size/\(i b\/w.heap.size<=b))/\ZL w.heap.size w j/\VRel ⟨g,[]⟩ j.heap r v
def wu(P:qc)(f:zV)(args:List AV)(r:AV):Prop:=yT P f /\
 ∀(g:Nat->Prop)(w:qe)(j:Array qf),Sim ⟨g,[]⟩ [] w.heap->zX ⟨g,[]⟩ w.heap args j ->
  Calls P f j w fun e i=>∃ l v,e = .returned v/\(∀ b,l b->w.heap.size<=b/\b<i.heap.size)/\ZL w.heap.size w i/\VRel ⟨l,[]⟩ i.heap r v
def HF(x:AV):Prop:=∀(G:Gh)(h:Array Obj)(v:qf),VRel G h x v->VRel ⟨G.imm,[]⟩ h x v
def FL(x:AV):Prop:=∀(G g:Gh)(h i:Array Obj)(v:qf),VRel G h x v->VRel g i x v
theorem HF.sc(v):HF (.sc v):=fun _ _ u r=>by cases r with|sc _ g=>exact .sc _ g
theorem HF.agg(h:∀ c,c∈cs->HF c):HF (.agg cs):=fun G i u r=>by
 cases r with
 |agg _ o j l=>exact .agg _ _ j (fun k x g=>h x (q8 g) G i _ (l k x g))
theorem HF.tup(h:∀ c,c∈cs->HF c):HF (.tup cs):=fun G i u r=>by
 cases r with
 |tup _ o j l=>exact .tup _ _ j (fun k x g=>h x (q8 g) G i _ (l k x g))
theorem HF.ip(h:∀ c,c∈cs->HF c):HF (.ip cs):=fun G i u r=>by
 cases r with
 |ip _ a arr e j rd l o p t C=>exact .ip _ a arr e j rd l o p t (fun k x g=>h x (q8 g) G i _ (C k x g))
theorem HF.ifc{t x}(h:HF x):HF (.ifc t x):=fun G g u r=>by
 cases r with
 |ifc _ _ v i=>exact .ifc _ _ _ (h G g v i)
theorem HF.lst{full}(h:∀ r,r∈xs->∀ c,c∈r->HF c):HF (.lst full xs):=fun G j u r=>by
 cases r with
 |nil=>exact .nil _
 |emp _ a cap g=>exact .emp _ a cap g
 |lst _ _ sz a cap l e o rd p t C g I J P R =>
  refine .lst _ _ sz a cap l e o rd p t C g I J P (fun k x i=>?_);obtain⟨row,T,U⟩:=py.1 (q8 i);exact h row T x U G j _ (R k x i)
theorem HF.fn{f first caps}(j:∀ c,c∈first->HF c)(l:∀ c,c∈caps->HF c):HF (.fn f first caps):=fun G i u r=>by
 cases r with
 |fn _ _ _ o p t C I J=>exact .fn _ _ _ o p t C (fun k x g=>j x (q8 g) G i _ (I k x g)) (fun k x g=>l x (q8 g) G i _ (J k x g))
theorem HF.im(h:∀ p,p∈es->HF p.1/\HF p.2):HF (.im es):=fun G j u r=>by
 cases r with
 |im _ i ce clock l o t C I J=>exact .im _ i ce clock l o t (fun k x g=>(h x (q8 g)).1 G j _ (C k x g)) (fun k x g=>(h x (q8 g)).2 G j _ (I k x g)) J
theorem HF.ims(h:∀ p,p∈es->HF p.1/\HF p.2):HF (.ims es):=fun G C u r=>by
 cases r with
 |ims _ i I J _ g P r =>
  refine .ims _ i I J _ g P (HF.im (fun p l=>?_) G C _ r);obtain⟨j,o⟩:=List.mem_iff_getElem?.1 l;have t:j<es.length:=by rw[<-g.1];exact(ql.1 o).1
  rw[g.back t]at o;exact h p (q8 o)
theorem FL.sc(v):FL (.sc v):=fun _ _ _ _ u r=>by cases r with|sc _ g=>exact .sc _ g
theorem FL.agg(h:∀ c,c∈cs->FL c):FL (.agg cs):=fun G j l g u r=>by
 cases r with
 |agg _ t o p=>exact .agg _ _ o (fun k x i=>h x (q8 i) G j l g _ (p k x i))
theorem FL.tup(h:∀ c,c∈cs->FL c):FL (.tup cs):=fun G j l g u r=>by
 cases r with
 |tup _ t o p=>exact .tup _ _ o (fun k x i=>h x (q8 i) G j l g _ (p k x i))
theorem FL.ifc{t x}(h:FL x):FL (.ifc t x):=fun G i j g u r=>by
 cases r with
 |ifc _ _ v l=>exact .ifc _ _ _ (h G i j g v l)
inductive Rd (mu:Mu):AV->AV->Prop
 |hf (x:AV) (h:HF x):Rd mu x x
 |sl (b sz off len:Nat) (cells:List AV) (ys:List (List AV)) (hc:mu[b]?=some (.arr cells)) (hl:off+len*sz<=cells.length) (hn:ys.length=len) (hz:jn sz ys)
   (h:∀(k:Nat) x y,cells[off+k]?=some x->ys.flatten[k]?=some y->Rd mu x y):Rd mu (.sl b sz off len) (.lst false ys)
 |ptr (b off:Nat) (cells ys:List AV) (hc:mu[b]?=some (.arr cells)) (hn:off+ys.length<=cells.length) (h:∀(k:Nat) x y,cells[off+k]?=some x->ys[k]?=some y->Rd mu x y):Rd mu (.ptr b off) (.ip ys)
 |mp (b:Nat) (es fs:List (AV×AV)) (hc:mu[b]?=some (.mp es)) (hn:fs.length=es.length) (hk:∀(k:Nat) x y,es[k]?=some x->fs[k]?=some y->Rd mu x.1 y.1) (hv:∀(k:Nat) x y,es[k]?=some x->fs[k]?=some y->Rd mu x.2 y.2):Rd mu (.mp b) (.im fs)
 |md (b:Nat) (es fs:List (AV×AV)) (hc:mu[b]?=some (.md es)) (hn:fs.length=es.length) (hk:∀(k:Nat) x y,es[k]?=some x->fs[k]?=some y->Rd mu x.1 y.1) (hv:∀(k:Nat) x y,es[k]?=some x->fs[k]?=some y->Rd mu x.2 y.2):Rd mu (.mp b) (.im fs)
 |agg (xs ys:List AV) (hn:ys.length=xs.length) (h:∀(k:Nat) x y,xs[k]?=some x->ys[k]?=some y->Rd mu x y):Rd mu (.agg xs) (.agg ys)
 |tup (xs ys:List AV) (hn:ys.length=xs.length) (h:∀(k:Nat) x y,xs[k]?=some x->ys[k]?=some y->Rd mu x y):Rd mu (.tup xs) (.tup ys)
 |lst (full:Bool) (xs ys:List (List AV)) (hn:ys.length=xs.length) (hz:∀(k:Nat) x y,xs[k]?=some x->ys[k]?=some y->x.length=y.length) (h:∀(k:Nat) x y,xs.flatten[k]?=some x->ys.flatten[k]?=some y->Rd mu x y):Rd mu (.lst full xs) (.lst full ys)
 |fn (f:Fn) (first first' caps caps':List AV) (hn:first'.length=first.length) (hm:caps'.length=caps.length) (h:∀(k:Nat) x y,first[k]?=some x->first'[k]?=some y->Rd mu x y) (h':∀(k:Nat) x y,caps[k]?=some x->caps'[k]?=some y->Rd mu x y) :
   Rd mu (.fn f first caps) (.fn f first' caps')
 |ifc (t:qd) (x y:AV) (h:Rd mu x y):Rd mu (.ifc t x) (.ifc t y)
 |wk (x:AV) (full:Bool) (ys:List (List AV)) (h:Rd mu x (.lst full ys)):Rd mu x (.lst false ys)
 |ims (x:AV) (es es':List (AV×AV)) (σ τ:Nat->Nat) (hp:PIx σ τ es es') (hd:(es.map Prod.fst).Nodup) (h:Rd mu x (.im es')):Rd mu x (.ims es)
theorem Rd.zsc{mu}(v):Rd mu (.sc v) (.sc v):=.hf _ (HF.sc _)
theorem pU{ys:List (List AV)}(g:ys.length=xs.length)(i:∀(k:Nat) x y,xs[k]?=some x->ys[k]?=some y->x.length=y.length):xs.flatten.length=ys.flatten.length:=by
 induction xs generalizing ys with
 |nil=>grind
 |cons x xs j =>
  cases ys with
  |nil=>simp at g
  |cons y ys =>
   have p:=i 0 x y rfl rfl;have:=j (ys:=ys) (zUs g) (fun k a b l o=>i (k+1) a b (zUs l) (zUs o))
   grind
theorem Rd.sound{G mu h}(s:Sim G mu h){x y}(r:Rd mu x y):∀{v},VRel G h x v->VRel ⟨fun b=>G.imm b\/Live G mu b,[]⟩ h y v:=by
 have a4:Gh.le ⟨G.imm,[]⟩ ⟨fun b=>G.imm b\/Live G mu b,[]⟩:=⟨fun b h => .inl h,fun _ _ h=>h⟩;induction r with
 |hf x P=>intro v r;exact(P G h v r).le a4
 |sl b sz off len cells j C hl T hz g U =>
  intro v r;subst T;cases r with
  |sl _ _ _ _ i l cap I ht a3 =>
  obtain⟨arr,e,h1,h2,h3,h4⟩:=s.arr b cells i l C I;by_cases h0:j=[]
  .subst h0;exact .emp false _ cap zSp
  .have a5:=yK hz
   have o:∀(k:Nat) y,j.flatten[k]?=some y->∃ x,cells[off+k]?=some x:=by
    grind
   refine .lst false j sz ⟨i,off,none⟩ cap arr e (0,0) (fun k=>arr.getD (off+k) z6) h1 rfl a3 zSp (.inr ⟨b,_,l,C,zSp,I⟩) hz ?_ ?_
   .intro k y R
    obtain⟨x,P⟩:=o k y R;have:off+k<arr.size:=by grind
    simp[qU,this]
   grind
 |ptr b off cells j C T g U =>
  intro v r;cases r with
  |ptr _ _ i l I =>
  obtain⟨arr,e,h1,h2,h3,h4⟩:=s.arr b cells i l C I;have o:∀(k:Nat) y,j[k]?=some y->∃ x,cells[off+k]?=some x:=by
   grind
  refine .ip j ⟨i,off,none⟩ arr e (0,0) (fun k=>arr.getD (off+k) z6) h1 rfl (.inr ⟨b,_,l,C,zSp,I⟩) ?_ ?_
  .intro k y R
   obtain⟨x,P⟩:=o k y R;have:off+k<arr.size:=by grind
   simp[qU,this]
  grind
 |mp b J fs C T hk hv a6 a7 =>
  intro v r;cases r with
  |mp _ i l I =>
  obtain⟨ce,cl,h1,h2,h3,h4,h5,h6⟩:=s.mp b J i l C I;have o:∀(k:Nat) y,fs[k]?=some y->∃ x,J[k]?=some x:=by
   grind
  refine .im fs i ce cl h1 (.inr ⟨b,_,l,C,zSp,I⟩) zOm ?_ ?_ (.of h5 h6)
  .grind
  grind
 |md b J fs C T hk hv a6 a7 =>
  intro v r;cases r with
  |mp _ i l I =>
  obtain⟨ce,cl,h1,h2,h3,h4,h5⟩:=s.md b J i l C I;have o:∀(k:Nat) y,fs[k]?=some y->∃ x,J[k]?=some x:=by
   grind
  refine .im fs i ce cl h1 (.inr ⟨b,_,l,C,zSp,I⟩) zOm ?_ ?_ h5
  .grind
  grind
 |agg p j T g U =>
  intro v r;cases r with
  |agg _ vs hm hv =>
  refine .agg _ _ zOm (fun k y R=>?_);have hk:k<j.length:=(ql.1 R).1;have P:p[k]?=some (p[k]' zOm):=by grind
  grind
 |tup p j T g U =>
  intro v r;cases r with
  |tup _ vs hm hv =>
  refine .tup _ _ zOm (fun k y R=>?_);have hk:k<j.length:=(ql.1 R).1;have P:p[k]?=some (p[k]' zOm):=by grind
  grind
 |lst full p j T hz g U =>
  intro v r;have a5:=pU T hz;cases r with
  |nil=>cases j with
   |nil=>exact .nil _
   |cons=>simp at T
  |emp _ a cap C=>cases j with
   |nil=>exact .emp _ a cap C
   |cons=>simp at T
  |lst _ _ sz a cap cs e fr rd I hs hl C hi a8 hr hv =>
   rw[<-T];have o:∀(k:Nat) y,j.flatten[k]?=some y->∃ x,p.flatten[k]?=some x:=by
    grind
   refine .lst full j sz a cap cs e fr rd I hs zOm (by rw[T];exact C) (.inl hi) ?_ ?_ ?_
   .intro r a9
    obtain⟨k,hk⟩:=List.mem_iff_getElem?.1 a9;have ae:k<j.length:=(ql.1 hk).1;have P:p[k]?=some (p[k]' zOm):=by simp[show k<p.length by omega]
    rw[<-hz k _ r P hk];exact a8 _ (q8 P)
   .intro k y R
    obtain⟨x,P⟩:=o k y R;exact hr k x P
   grind
 |fn f first a1 a0 a2 T hm g aa U ab =>
  intro v r;cases r with
  |fn _ _ _ vs ws af ag hv hw =>
  refine .fn f _ _ vs ws zOm zOm (fun k y R=>?_) (fun k y R=>?_)
  .have hk:k<a1.length:=(ql.1 R).1
   have P:first[k]?=some (first[k]' zOm):=by simp[show k<first.length by omega]
   grind
  .have hk:k<a2.length:=(ql.1 R).1
   have P:a0[k]?=some (a0[k]' zOm):=by simp[show k<a0.length by omega]
   exact ab k _ y P R (hw k _ P)
 |ifc t x y g U =>
  intro v r;cases r with
  |ifc _ _ v hv=>exact .ifc t y v (U hv)
 |wk x full j g U =>
  intro v r;have:=U r;cases this with
  |nil=>exact .nil _
  |emp _ a cap C=>exact .emp _ a cap zSp
  |lst _ _ sz a cap cs e fr rd I hs hl C hi hz hr hv=>exact .lst _ _ sz a cap cs e fr rd I hs hl zSp hi hz hr hv
 |ims x J ad σ τ hp hd g U =>
  intro v r;exact .ims J ad σ τ v hp hd (U r)
end
end Go.Ev
namespace Go.Ev
open Go Go.RowKit
section
variable {s x:AV}{K:AV->Mu->Prop}{h:Array Obj}{g:Array qd}{G:Gh}{mu:Mu}{P:qc}{w:qe}
def cutM(keep:Nat->Bool):Mu->Nat->Mu
 | [],_=>[]
 |c :: l,i=>(if keep i=true then c else .dead) :: cutM keep l (i+1)
theorem jA(keep):∀ mu i k,(cutM keep mu k)[i]?=(mu[i]?).map fun c=>if keep (k+i)=true then c else .dead
 | [],i,k=>by simp[cutM]
 |c :: l,0,k=>by simp[cutM]
 |c :: l,i+1,k=>by
  rw[cutM,vW,vW,jA keep l i (k+1)];have:k+1+i=k+(i+1):=zOm;rw[this]
theorem uN(keep):∀ mu k,(cutM keep mu k).length=mu.length
 | [],_=>rfl
 |c :: l,k=>by simp[cutM,uN keep l (k+1)]
theorem vo{keep i c}(h:(cutM keep mu 0)[i]?=some c)(j:c ≠ .dead):mu[i]?=some c/\keep i=true:=by
 rw[jA]at h;cases g:mu[i]? with
 |none=>grind
 |some l =>
  rw[g]at h;simp only[zh,Nat.zero_add,qs]at h;by_cases o:keep i=true
  .grind
  grind
theorem Live.cut{keep b}(h:Live G (cutM keep mu 0) b):Live G mu b:=by
 obtain⟨i,c,g,l,j,o⟩:=h;exact⟨i,c,g,(vo l j).1,j,o⟩
theorem Sim.cut(s:Sim G mu h)(keep):Sim G (cutM keep mu 0) h:=by
 refine⟨by rw[uN];exact s.len,s.imm,fun i c g l t o p=>s.obj i c g l (vo t o).1 o p,fun i c g l t o p=>s.live i c g l (vo t o).1 o p,?_,s.tab⟩;intro i j ci I b J P t o p C R T;exact s.inj i j ci I b J P (vo t p).1 (vo o C).1 p C R T
def frz(G:Gh)(g:Nat->Bool)(mu:Mu):Gh:=⟨fun b=>G.imm b\/Live G (cutM g mu 0) b,G.blk⟩
theorem V0(s:Sim G mu h)(p):Sim (frz G p mu) (cutM (fun i=>!p i) mu 0) h:=by
 have R:G.le (frz G p mu):=⟨fun b J => .inl J,fun _ _ h=>h⟩;refine⟨by rw[uN];exact s.len,?_,?_,?_,?_,s.tab.mono (fun b h => .inl h) (fun _ _=>rfl)⟩
 .rintro b (J|⟨i,c,g,t,l,C⟩)
  .exact s.imm b J
  .obtain ⟨o,T,_⟩:=s.obj i c b g (vo t l).1 l C
   exact(yI.1 T).1
 .intro i c I g t l C
  obtain⟨o,T,hr⟩:=s.obj i c I g (vo t l).1 l C;exact⟨o,T,hr.mono R (Ext.refl _ _)⟩
 .rintro i c I g t l C (J|⟨j,c',P,g1,U,g3⟩)
  .exact s.live i c I g (vo t l).1 l C J
  .have e:=s.inj i j c c' I g P (vo t l).1 (vo g1 U).1 l U C g3
   subst e;have a1:=(vo t l).2;have a2:=(vo g1 U).2
   grind
 .intro i j ci cj b ti tj t l C h4 h5 h6
  exact s.inj i j ci cj b ti tj (vo t C).1 (vo l h4).1 C h4 h5 h6
theorem Zc(s:Sim G mu w.heap)(g):Stp G mu w (frz G g mu) (cutM (fun i=>!g i) mu 0) w:=by
 refine⟨⟨fun b j => .inl j,fun _ _ h=>h⟩,V0 s g,fun _ _ _=>rfl,qn _,?_,?_,rfl,rfl,rfl,qn _⟩
 .rintro b ⟨i,c,l,p,o,t⟩
  exact .inl ⟨i,c,l,(vo p o).1,o,t⟩
 .rintro b (j|j)
  .exact .inl j
  .exact .inr (.inl j.cut)
theorem V1(s:Sim G mu h)(g){x y v}(r:Rd (cutM g mu 0) x y)(j:VRel G h x v):VRel (frz G g mu) h y v:=
 VRel.mono (G:=⟨fun b=>G.imm b\/Live G (cutM g mu 0) b,[]⟩) (G':=frz G g mu) ⟨fun _ l=>l,fun i x o=>by simp at o⟩ (Ext.refl _ _) (r.sound (s.cut g) j)
theorem jV.det(h:jV P mu g s x K):∃ v m,jV P mu g s x (fun a b=>a=v/\b=m)/\K v m:=by
 obtain⟨t,I,e,sz,J,j,R,T,U,a4,a5,a6,a7,a8,h⟩:=h;rcases h with ⟨p,i,l,o,b4,b5⟩|⟨b,len,cells,i,l,o,b4,b5⟩
 .by_cases C:j=[]
  .exact ⟨_,_,⟨t,I,e,sz,J,j,R,T,U,a4,a5,a6,a7,a8,.inl ⟨p,i,l,o,fun _=>⟨rfl,rfl⟩,fun h=>absurd C h⟩⟩,b4 C⟩
  .exact ⟨_,_,⟨t,I,e,sz,J,j,R,T,U,a4,a5,a6,a7,a8,.inl ⟨p,i,l,o,fun h=>absurd h C,fun _=>⟨rfl,rfl⟩⟩⟩,b5 C⟩
 .exact ⟨_,_,⟨t,I,e,sz,J,j,R,T,U,a4,a5,a6,a7,a8,.inr ⟨b,len,cells,i,l,o,b4,rfl,rfl⟩⟩,b5⟩
theorem jV.mono{i}(h:jV P mu g s x K)(l:∀ v m,K v m->i v m):jV P mu g s x i:=by
 obtain⟨t,T,e,sz,U,j,a1,a2,a3,a4,a5,a6,a7,a8,h⟩:=h;refine⟨t,T,e,sz,U,j,a1,a2,a3,a4,a5,a6,a7,a8,?_⟩;rcases h with ⟨p,o,C,I,J,R⟩|⟨b,len,cells,o,C,I,J,R⟩
 .exact .inl ⟨p,o,C,I,fun h=>l _ _ (J h),fun h=>l _ _ (R h)⟩
 grind
def pV(P:qc)(mu:Mu)(j:Array qd)(s x:AV)(K:AV->Mu->Prop):Prop:=
 ∃ t l e sz o g n p,j=#[t,l]/\qF P t=some (e,sz,o)/\P.underlying l=some (.int .i64)/\qB P e=some g/\g.cells.length=sz/\g.cells.all AV.one=true/\sz≠0/\o<=16384/\x = .sc (.int .i64 (Int.ofNat n))/\0<n/\s = .lst true p/\qV sz p/\p.length+n<=4294967296 /\
  K (.sl mu.length sz 0 (p.length+n)) (mu++[.arr (p.flatten++(qu (n*sz)).map fun i=>g.cells.getD (i % sz) .any)])
theorem qgW(s:Sim G mu w.heap){J ty sv xv vs vx}(rs:VRel G w.heap sv vs)(rx:VRel G w.heap xv vx){K}
  (h:pV P mu J sv xv K):∃ z mu',K z mu'/\Good P G mu w (Builtin.append_ J ty #[vs,vx]) z mu':=by
 obtain⟨t,tn,e,sz,bt,zv,n,p,rfl,ab,ad,ae,R,af,an,T,rfl,hn,rfl,I,ag,hk⟩:=h;obtain⟨i,hu,hi,rfl,rfl⟩:=uC ab;obtain⟨i',z,ah,hz,rfl⟩:=VY ae;obtain rfl:i=i':=Option.some.inj (hi.symm.trans ah);obtain⟨g,ai⟩:=JC (G:=G) (h:=w.heap) z (fun c hc=>by grind);rw[R]at g;obtain⟨a0,a2,l,rfl,a3,_,a4,aq,a5⟩:=VZ (P:=P) s rs (ys:=p) rfl I;have a6:a2=p.length:=by
  obtain⟨a1,c1,h1,_,h2,_⟩:=rs.lst_inv;cases h1;exact h2 rfl
 subst a6;cases rx with
 |sc _ _ =>
 have a7:n*i.bytes<=281474976710656:=zQ (Nat.mul_le_mul (show n<=4294967296 by omega) T) zOm;have C:=Lib.run_append_grow_zeros w t tn ty e i z .i64 .i64 hu ad hi hz a0 p.length p.length l a5 n hn zOm zOm zOm a7 (pS zOm ag T);have aj:=pR w (p.length+n) p.length e;generalize grownCap w (p.length+n) p.length e=gc at C aj;have ak:=yK I.ok;have ar:(ja z.cells n).size=n*i.size:=by simp[ja,g]
 have au:(ja z.cells (gc-(p.length+n))).size=(gc-(p.length+n))*i.size:=by simp[ja,g]
 have a8:∀ j,j<n*i.size->(ja z.cells n).getD j z6=z.cells.getD (j % i.size) z6:=by
  intro j o;have a9:0<i.size:=zOm;simp_all[Nat.mod_lt,ja,qU,getElem!_pos,Qc]
 have sd:Sim G mu w.drew.heap:=s;have U:=sR sd (.cells (l.toArray++ja z.cells n++ja z.cells (gc-(p.length+n))) e) (.arr (p.flatten++(qu (n*i.size)).map fun j=>(ofV z).cells.getD (j % i.size) .any)) (gc*i.size) (by
  intro _;have ao:p.length*i.size+n*i.size+(gc-(p.length+n))*i.size=gc*i.size:=by
   rw[<-Nat.add_mul,<-Nat.add_mul];congr 1;omega
  refine⟨_,e,rfl,by grind,by grind,fun j y o=>?_⟩;by_cases al:j<p.flatten.length
  .rw [qL al]at o
   refine⟨I.one y (q8 o),?_⟩;have:=a4 j y o;rw[qU,Array.append_assoc,Array.getElem?_append_left zSo];rw[zH]at this;show VRel G w.heap y _
   grind
  .rw [zZ zOm,zz]at o
   have aa:j-p.flatten.length<n*i.size:=by
    cases hq:(qu (n*i.size))[j-p.flatten.length]? with
    |none=>rw[hq]at o;cases o
    |some q=>have:=(ql.1 hq).1;simpa using this
   rw[List.getElem?_range aa]at o;have a9:0<i.size:=zOm;have hm:(j-p.flatten.length) % i.size<(ofV z).cells.length:=by rw[R];exact Nat.mod_lt _ a9
   simp only[zh,qs]at o;rw[zH,qy hm]at o;subst o;refine⟨by simpa using qY.1 af _ (List.getElem_mem hm),?_⟩;have e1:(l.toArray++ja z.cells n++ja z.cells (gc-(p.length+n))).getD j z6=(ja z.cells n).getD (j-p.flatten.length) z6:=by
    rw[qU,qU,Array.append_assoc,Array.getElem?_append_right zSo,Array.getElem?_append_left (by simp[a3];omega)];simp[a3,ak]
   rw[e1,a8 _ aa];exact ai _ _ (qy hm))
 refine⟨_,_,hk,_,_,_,C,(Stp.drew s).trans s U,?_⟩;refine .sl _ i.size 0 _ w.heap.size (gc*i.size) gc ?_ zOm zOm;show (G.blk++[_])[mu.length]?=_;rw[<-s.len];simp
def qx(P:qc)(mu:Mu)(j:Array qd)(s x:AV)(K:AV->Mu->Prop):Prop:=
 jV P mu j s x K\/((∃ g l,Rd (cutM g mu 0) x l/\jV P (cutM (fun i=>!g i) mu 0) j s l K)\/pV P mu j s x K)
theorem qx.det{i}(h:qx P mu i s x K):∃ v m,qx P mu i s x (fun a b=>a=v/\b=m)/\K v m:=by
 rcases h with h|⟨j,l,o,C⟩|⟨t,I,e,sz,J,R,n,p,T,U,a3,a4,a5,a6,a7,a8,a9,b1,b2,b3,b4,k⟩
 .obtain ⟨v,m,g,k⟩:=h.det;exact⟨v,m,.inl g,k⟩
 .obtain ⟨v,m,g,k⟩:=C.det;exact⟨v,m,.inr (.inl ⟨j,l,o,g⟩),k⟩
 .exact ⟨_,_,.inr (.inr ⟨t,I,e,sz,J,R,n,p,T,U,a3,a4,a5,a6,a7,a8,a9,b1,b2,b3,b4,rfl,rfl⟩),k⟩
theorem qx.mono{l}(h:qx P mu g s x K)(j:∀ v m,K v m->l v m):qx P mu g s x l:=by
 rcases h with h|⟨i,o,C,I⟩|⟨t,J,e,sz,R,T,n,p,U,a2,a3,a4,a5,a6,a7,a8,a9,b1,b2,b3,b4,k⟩
 .exact .inl (h.mono j)
 .exact .inr (.inl ⟨i,o,C,I.mono j⟩)
 .exact .inr (.inr ⟨t,J,e,sz,R,T,n,p,U,a2,a3,a4,a5,a6,a7,a8,a9,b1,b2,b3,b4,j _ _ k⟩)
theorem qgX(s:Sim G mu w.heap){g ty l o p t}(rs:VRel G w.heap l p)(j:VRel G w.heap o t){K}
  (h:qx P mu g l o K):∃ z mu',K z mu'/\Good P G mu w (Builtin.append_ g ty #[p,t]) z mu':=by
 rcases h with h|⟨i,x',C,I⟩|h
 .exact pT s rs j h
 .obtain ⟨z,mu',J,v,R,T,g1,U,g3⟩:=pT (ty:=ty) (V0 s i) (rs.mono (Zc s i).le (Ext.refl _ _)) (V1 s i C j) I
  exact⟨z,mu',J,v,R,T,g1,(Zc s i).trans s U,g3⟩
 .exact qgW s rs j h
inductive Gv (mu:Mu) (give:Nat->Bool):AV->AV->Prop where
 |same (x:AV):Gv mu give x x
 |rd (x y:AV) (h:Rd (cutM give mu 0) x y):Gv mu give x y
 |fn (f:Fn) (first first' caps caps':List AV) (hn:first'.length=first.length) (hm:caps'.length=caps.length) (h:∀(k:Nat) x y,first[k]?=some x->first'[k]?=some y->Gv mu give x y)
   (h':∀(k:Nat) x y,caps[k]?=some x->caps'[k]?=some y->Gv mu give x y):Gv mu give (.fn f first caps) (.fn f first' caps')
theorem Gv.sound(s:Sim G mu h){g x y}(r:Gv mu g x y):∀{v},VRel G h x v->VRel (frz G g mu) h y v:=by
 have p:G.le (frz G g mu):=⟨fun b C => .inl C,fun _ _ h=>h⟩;induction r with
 |same x=>intro v o;exact o.mono p (Ext.refl _ _)
 |rd x y r=>grind [V1]
 |fn f first i j l hn hm hr I ih J =>
  intro v o;cases o with
  |fn _ _ _ P R T U o hw =>
  refine .fn f _ _ P R zOm zOm (fun k y t=>?_) (fun k y t=>?_)
  .have hk:k<i.length:=(ql.1 t).1
   have hx:first[k]?=some (first[k]' zOm):=qy _
   grind
  .have hk:k<l.length:=(ql.1 t).1
   have hx:j[k]?=some (j[k]' zOm):=qy _
   grind
end
end Go.Ev
namespace Go.Ev
open Go Go.RowKit
section
variable {x:AV}{h:Array Obj}{G:Gh}{P:qc}{u:qf}{w:qe}
theorem JF{e q cs i v}(g:P.underlying e=some (.int q))(h:cs[i]?=some v):(part e cs i).run P w = .ok v w:=by
 simp_all[isAgg,run_underlying,part]
theorem JG{xs ys b}(h:aEqs (x :: xs) ys=some b):∃ k a g i,x = .sc (.int k a)/\ys = .sc (.int k g) :: i/\(((a == g)=true/\aEqs xs i=some b)\/((a == g)=false/\b=false)):=by
 cases x with
 |sc v =>
  cases v with
  |int k a =>
   cases ys with
   |nil=>simp[aEqs]at h
   |cons y ys =>
    cases y with
    |sc u =>
     cases u with
     |int l g =>
      by_cases o:k=l
      .subst o
       cases j:(a == g) with
       |true=>exact⟨k,a,g,ys,rfl,rfl,.inl ⟨j,by grind [aEqs]⟩⟩
       |false=>exact⟨k,a,g,ys,rfl,rfl,.inr ⟨j,by grind [aEqs]⟩⟩
      grind [aEqs]
     |_=>simp[aEqs]at h
    |_=>simp[aEqs]at h
  |_=>simp[aEqs]at h
 |_=>simp[aEqs]at h
theorem qgY(d){e q}(p:P.underlying e=some (.int q))(I J):∀ xs ys i b,aEqs xs ys=some b ->
  (∀(k) x,xs[k]?=some x->∃ v,I[i+k]?=some v/\VRel G w.heap x v)->(∀(k) x,ys[k]?=some x->∃ v,J[i+k]?=some v/\VRel G w.heap x v) ->
  (forIn (m:=Sem) (List.range' i xs.length) ((none:Option Bool),()) fun i U=>do
   let a <-part e I i
   let b <-part e J i
   let c <-Op.equalIn (d+1) e a b
   if (!c)=true then pure (ForInStep.done (some false,())) else pure (ForInStep.yield (none,()))).run P w = .ok (if b then (none,()) else (some false,())) w:=by
 intro xs;induction xs with
 |nil =>
  intro ys i b h _ _;cases ys with
  |nil=>simp_all[aEqs,qs]
  |cons=>simp[aEqs]at h
 |cons x xs ih =>
  intro ys i b h R T;have h':=JG h;clear h;obtain⟨k,a,b',t,rfl,rfl,h⟩:=h';obtain⟨v,g,rv⟩:=R 0 _ rfl;obtain⟨u,l,ru⟩:=T 0 _ rfl;cases rv;cases ru;rw[Nat.add_zero]at g l;simp only[yy,List.range'_succ,List.forIn_cons,qQ,JF p g,JF p l,qS,run_equalIn_int w d e k q a b' p];rcases h with ⟨o,h⟩|⟨o,rfl⟩
  .rw [o]
   simp only[Bool.not_true,Bool.false_eq_true,if_false,zJ,qS];refine ih t (i+1) b h (fun j x C=>?_) (fun j x C=>?_)
   .have:=R (j+1) x (zUs C)
    grind
   .have:=T (j+1) x (zUs C)
    grind
  simp_all
theorem Yk{xs:List AV}{g:Array qf}(i:g.size=xs.length)(j:∀(k) x,xs[k]?=some x->VRel G h x (g.getD k z6)) :
  ∀(k) x,xs[k]?=some x->∃ v,g[0+k]?=some v/\VRel G h x v:=by
 simp_all[ql,z6,qU]
theorem pW(d){t e n q}(l:P.underlying t=some (.array n e))(o:P.underlying e=some (.int q))(p:szOf P e=some 1)
  {xs ys} {g i} (C:xs.length=n) (I:VRel G w.heap (.agg xs) (.agg g)) (J:VRel G w.heap (.agg ys) (.agg i)) {b} (h:aEqs xs ys=some b) :
  (Op.equalIn (d+2) t (.agg g) (.agg i)).run P w = .ok b w:=by
 cases I with
 |agg _ _ R T =>
 cases J with
 |agg _ _ U hw =>
 unfold Op.equalIn;simp only[qQ,run_underlying l,qS,jz p,Nat.mul_one,Std.Legacy.Range.forIn_eq_forIn_range'];have j:(Std.Legacy.Range.size [:n])=xs.length:=by simp[Std.Legacy.Range.size,C]
 rw[j];have:=qgY (G:=G) d o g i xs ys 0 b h (Yk R T) (Yk U hw);rw[this];cases b<;>simp
theorem qgZ(d J R):∀ fs i xs ys b,Yh P fs i=true->xs.length=fs.length->aEqs xs ys=some b ->
  (∀(k) x,xs[k]?=some x->∃ v,J[i+k]?=some v/\VRel G w.heap x v)->(∀(k) x,ys[k]?=some x->∃ v,R[i+k]?=some v/\VRel G w.heap x v) ->
  (Op.eqFields (d+1) J R fs).run P w = .ok b w:=by
 intro fs;induction fs with
 |nil =>
  intro i xs ys b _ p h _ _;have:xs=[]:=uM (zUs p);subst this;cases ys with
  |nil=>simp only[aEqs,qs]at h;subst h;rfl
  |cons=>simp[aEqs]at h
 |cons f fs ih =>
  intro i xs ys b hf p h T U;cases xs with
  |nil=>simp at p
  |cons x xs =>
   simp only[Yh,qD,beq_iff_eq,bne_iff_ne,ne_eq]at hf;obtain⟨⟨⟨h1,h2⟩,h3⟩,h4⟩:=hf;have h':=JG h;clear h;obtain⟨k,a,b',t,rfl,rfl,h⟩:=h';obtain⟨v,g,rv⟩:=T 0 _ rfl;obtain⟨u,l,ru⟩:=U 0 _ rfl;cases rv;cases ru;rw[Nat.add_zero]at g l;obtain⟨q,C⟩:∃ q,P.underlying f.type=some (.int q):=by
    grind [pC,absurd]
   rw[Op.eqFields,if_pos h2];simp only[h1,qQ,JF C g,JF C l,qS,run_equalIn_int w d f.type k q a b' C];rcases h with ⟨o,h⟩|⟨o,rfl⟩
   .rw [o]
    simp only[Bool.not_true,Bool.false_eq_true,if_false];refine ih (i+1) xs t b h4 (zUs p) h (fun j x I=>?_) (fun j x I=>?_)
    .have:=T (j+1) x (zUs I)
     grind
    .have:=U (j+1) x (zUs I)
     grind
   simp_all
theorem qg0(d){t fs}(j:P.underlying t=some (.struct fs))(hf:Yh P fs.toList 0=true)(o:P.stoodInHeld t=false)
  {xs ys} {g i} (p:xs.length=fs.size) (C:VRel G w.heap (.agg xs) (.agg g)) (I:VRel G w.heap (.agg ys) (.agg i)) {b} (h:aEqs xs ys=some b) :
  (Op.equalIn (d+2) t (.agg g) (.agg i)).run P w = .ok b w:=by
 have l:P.fieldsOf t=fs:=by simp[Program.fieldsOf,j]
 rw[run_equalIn_agg w (d+1) t g i (by rw[l];exact j) o,l];cases C with
 |agg _ _ J R =>
 cases I with
 |agg _ _ T U =>
 exact qgZ d g i fs.toList 0 xs ys b hf (zUs p) h (Yk J R) (Yk T U)
inductive KK where
 |now
 |arr (n:Nat)
def keyKind(P:qc)(g:qd):Option KK:=
 match P.underlying g with
 |some (.int _)|some .string|some .bool=>some .now
 |some (.array n e)=>match P.underlying e,szOf P e with
  |some (.int _),some 1=>some (.arr n)
  |_,_=>none
 |_=>none
@[go_sem] def jL(P:qc)(g:qd)(x y:AV):Option Bool:=
 match P.underlying g with
 |some (.int _)=>(match x,y with | .sc (.int k a),.sc (.int i b)=>if k=i then some (a == b) else none|_,_=>none)
 |some .string=>(match x,y with | .sc (.string a),.sc (.string b)=>some (a == b)|_,_=>none)
 |some .bool=>(match x,y with | .sc (.bool a),.sc (.bool b)=>some (a == b)|_,_=>none)
 |some (.array n e)=>(match P.underlying e,szOf P e with
  |some (.int _),some 1=>(match x,y with | .agg p,.agg j=>if p.length=n/\j.length=n then aEqs p j else none|_,_=>none)
  |_,_=>none)
 |_=>none
def zn(P:qc)(g:qd)(k:AV):List (AV×AV)->Nat->Option (Option Nat)
 | [],_=>some none
 |e :: J,i=>match jL P g k e.1 with
  |some true=>some (some i)
  |some false=>zn P g k J (i+1)
  |none=>none
@[go_sem] def Yl(q:IntKind):AV->Bool
 | .sc (.int k _)=>k == q
 |_=>false
@[go_sem] def jw(P:qc)(g:qd)(x:AV):Bool:=
 match P.underlying g with
 |some (.int q)=>Yl q x
 |some .string=>(match x with | .sc (.string _)=>true|_=>false)
 |some .bool=>(match x with | .sc (.bool _)=>true|_=>false)
 |some (.array n e)=>(match P.underlying e,szOf P e with
  |some (.int q),some 1=>(match x with | .agg p=>p.length == n&&p.all (Yl q)|_=>false)
  |_,_=>false)
 |_=>false
theorem qg1(m d){e q}(j:P.underlying e=some (.int q))(l:szOf P e=some 1)(g):∀ n i,i+n<=g.size ->
    (forIn (m := Sem) (List.range' i n) PUnit.unit fun i o => do
            let sz <-Go.sizeOf e
            let x <-part e g (i*sz)
            Instr.checkKey m (d+1) e x
            pure (ForInStep.yield PUnit.unit)).run P w = .ok PUnit.unit w:=by
  intro n;induction n with
  |zero=>intro i _;rfl
  |succ n C =>
    intro i h;have p:g[i]?=some (g[i]' zOm):=by grind
    have t:∀ v,(Instr.checkKey m (d+1) e v).run P w = .ok () w:=by
      simp_all[Instr.checkKey,run_underlying]
    simp only[List.range'_succ,List.forIn_cons,qQ,jz l,qS,Nat.mul_one,JF j p,t,zJ]
    grind
theorem JH{g v}(m)(r:VRel G w.heap x v)(h:jw P g x=true):(Instr.checkKey m 10000 g v).run P w = .ok () w:=by
 unfold jw at h;have now:∀ d,P.underlying g=some d->(∀ n e,d ≠ .array n e)->(∀ o,d ≠ .struct o)->(∀ t,d ≠ .interface t)->(Instr.checkKey m 10000 g v).run P w = .ok () w:=by
  intro d i C I J;show (Instr.checkKey m (9999+1) g v).run P w=_;unfold Instr.checkKey;simp only[qQ,run_underlying i,qS];cases d<;>first|rfl | (exact absurd rfl (C _ _)) | (exact absurd rfl (I _)) | (exact absurd rfl (J _))
 split at h
 .grind
 .grind
 .grind
 .rename_i n e i
  split at h
  .rename_i R T
   split at h
   .rename_i p
    cases r with
    |agg _ l U hv =>
    have hl:p.length=n:=by
     grind
    show (Instr.checkKey m (9998+2) g (.agg l)).run P w=_;unfold Instr.checkKey;simp only[qQ,run_underlying i,qS,Std.Legacy.Range.forIn_eq_forIn_range'];have j:(Std.Legacy.Range.size [:n])=n:=by simp[Std.Legacy.Range.size]
    rw[j,qg1 m 9998 R T l n 0 zOm];simp
   grind
  grind
 grind
def jo(G:Gh)(h:Array Obj)(es:List (AV×AV))(ce:List yc):Prop:=ce.length=es.length/\∀(k:Nat) x,es[k]?=some x->∃ e,ce[k]?=some e/\VRel G h x.1 e.key/\VRel G h x.2 e.val
theorem pX{i y v b d}(j:P.underlying i=some d)(l:∀ n e,d ≠ .array n e)(o:VRel G h x u)(p:VRel G h y v)(g:jL P i x y=some b) :
  Instr.sameNow d u v=some b:=by
 unfold jL at g;rw[j]at g;cases d<;>simp only at g<;>first | (exact absurd g (by simp;done)) | (exact absurd rfl (l _ _))|skip
 all_goals
  split at g
  .cases o;cases p
   grind [Instr.sameNow,qs,absurd]
  grind
theorem qg2{t d}(C:P.underlying t=some d)(I:∀ n e,d ≠ .array n e)(J:VRel G h x u):∀ es ce i r,
  jo G h es ce->zn P t x es i=some r->Instr.findNow d u ce i=some (r.map fun j=>(j,(ce.getD (j-i) default).val))/\∀ j,r=some j->i<=j/\j<i+es.length:=by
 intro es;induction es with
 |nil =>
  intro ce i r g hf;have:ce=[]:=uM g.1;subst this;simp only[zn,qs]at hf;subst hf;exact⟨rfl,zSp⟩
 |cons e es T =>
  intro ce i r g hf;cases ce with
  |nil=>have:=g.1;simp at this
  |cons c ce =>
   obtain⟨c',l,R,rv⟩:=g.2 0 e rfl;simp only[Ye,qs]at l;subst l;simp only[zn]at hf;split at hf
   .rename_i o
    simp only[qs]at hf;subst hf;have:=pX C I J R o
    grind [Instr.findNow]
   .rename_i o
    have:=pX C I J R o;have p:jo G h es ce:=⟨by have:=g.1;grind,fun k y U=>g.2 (k+1) y (zUs U)⟩;obtain⟨h1,h2⟩:=T ce (i+1) r p hf;refine⟨?_,fun j hj=>?_⟩
    .simp only[Instr.findNow,this,h1]
     cases r with
     |none=>rfl
     |some j =>
      have:=h2 j rfl;simp only[zh];rw[show j-i=(j-(i+1))+1 by omega];simp
    grind
   grind
theorem qg3{o e n q}(R:P.underlying o=some (.array n e))(T:P.underlying e=some (.int q))(U:szOf P e=some 1){x u}(rx:VRel G w.heap x u) :
  ∀ es ce i r,jo G w.heap es ce->zn P o x es i=some r ->
   (Instr.findAsking o u ce i).run P w = .ok (r.map fun j=>(j,(ce.getD (j-i) default).val)) w/\∀ j,r=some j->i<=j/\j<i+es.length:=by
 intro es;induction es with
 |nil =>
  intro ce i r g hf;have:ce=[]:=uM g.1;subst this;simp only[zn,qs]at hf;subst hf;exact⟨rfl,zSp⟩
 |cons y es ih =>
  intro ce i r g hf;cases ce with
  |nil=>have:=g.1;simp at this
  |cons c ce =>
   obtain⟨c',t,C,rv⟩:=g.2 0 y rfl;simp only[Ye,qs]at t;subst t;simp only[zn]at hf;have heq:∀ b,jL P o x y.1=some b->(Op.equal o u c.key).run P w = .ok b w:=by
    intro b l;unfold jL at l;rw[R]at l;simp only[T,U]at l;split at l
    .rename_i p ys I
     split at l
     .rename_i hl
      rw[I]at C;generalize hq:c.key=ck at C;cases rx with
      |agg _ vs hn hv =>
      cases C with
      |agg _ ws hm hw =>
      exact pW (G:=G) 9998 R T U hl.1 (.agg _ _ hn hv) (.agg _ _ hm hw) l
     grind
    grind
   split at hf
   .rename_i hk
    simp only[qs]at hf;subst hf;simp_all[Instr.findAsking]
   .rename_i hk
    have J:jo G w.heap es ce:=⟨by have:=g.1;grind,fun k z hz=>g.2 (k+1) z (zUs hz)⟩;obtain⟨h1,h2⟩:=ih ce (i+1) r J hf;refine⟨?_,fun j hj=>?_⟩
    .simp only[Instr.findAsking,qQ,heq _ hk,qS,Bool.false_eq_true,if_false,h1]
     cases r with
     |none=>rfl
     |some j =>
      have:=h2 j rfl;simp only[zh];rw[show j-i=(j-(i+1))+1 by omega];simp
    grind
   grind
theorem Zd{g}(p:VRel G w.heap x u)(l:jw P g x=true){es}{ce:Array yc}{r}(o:jo G w.heap es ce.toList)(hf:zn P g x es 0=some r) :
  (Instr.findKey g u ce.toList).run P w = .ok (r.map fun j=>(j,(ce.getD j default).val)) w/\∀ j,r=some j->j<es.length:=by
 have C:∀ j,ce.toList.getD j default=ce.getD j default:=by
  simp
 unfold jw at l;have now:∀ d,P.underlying g=some d->(∀ n e,d ≠ .array n e)->(Instr.findKey g u ce.toList).run P w = .ok (r.map fun j=>(j,(ce.getD j default).val)) w/\∀ j,r=some j->j<es.length:=by
  intro d i I;obtain⟨t,J⟩:=qg2 i I p es ce.toList 0 r o hf;simp_all[Nat.sub_zero,Instr.findKey,run_underlying]
 split at l
 .grind
 .grind
 .grind
 .rename_i n e i
  split at l
  .rename_i R T
   obtain⟨t,J⟩:=qg3 i R T p es ce.toList 0 r o hf;simp only[Nat.sub_zero,C]at t;refine⟨?_,fun j hj=>by grind⟩;simp only[Instr.findKey,qQ,run_underlying i,qS];cases U:ce.toList with
   |nil =>
    have:r=none:=by
     cases es with
     |nil=>grind [zn]
     |cons=>have:=o.1;rw[U]at this;simp at this
    subst this;simp[Instr.findNow]
   |cons c cs =>
    grind [Instr.findNow,Instr.sameNow]
  grind
 grind
end
end Go.Ev
namespace Go.Ev
open Go Go.RowKit
section
variable {k x y:AV}{h:Array Obj}{G:Gh}{es:List (AV×AV)}{mu:Mu}{P:qc}{g:qd}{w:qe}
def mapT(P:qc)(t:qd):Option (qd×qd):=match P.underlying t with|some (.map k e)=>some (k,e)|_=>none
theorem ZM{t k e}(h:mapT P t=some (k,e)):P.underlying t=some (.map k e):=by
 unfold mapT at h;split at h
 .grind
 grind
@[go_sem] def jW(mu:Mu):AV->Option (List (AV×AV))
 | .im J=>some J
 | .mp b=>match mu[b]? with|some (.mp J)=>some J|_=>none
 | .sc (.map none)=>some []
 |_=>none
theorem V2(ce:Array yc)(k)(g:k<ce.size):ce.toList[k]?=some (ce.getD k default):=by
 simp[qU,g]
theorem qg4(s:Sim G mu w.heap){x v es}(r:VRel G w.heap x v)(h:jW mu x=some es) :
  (v = .map none/\es=[])\/∃ m ce i,v = .map (some m)/\w.heap[m]?=some (.map ce i)/\jo G w.heap es ce.toList:=by
 unfold jW at h;split at h
 .simp only[qs]at h;subst h
  cases r with
  |im _ g ce clock j P o R T U =>
   refine .inr ⟨g,ce,clock,rfl,j,⟨zUs o,fun k x p=>?_⟩⟩
   grind [ql,V2]
 .split at h
  .rename_i t C
   simp only[qs]at h;subst h;cases r with
   |mp _ g l j =>
    obtain⟨ce,i,I,J,h3,h4,h5,h6⟩:=s.mp _ _ g l C j;refine .inr ⟨g,ce,i,rfl,I,⟨zUs J,fun k x p=>?_⟩⟩
    grind [ql,V2]
  grind
 .simp only[qs]at h;subst h
  cases r;exact .inl ⟨rfl,rfl⟩
 grind
@[go_sem] def jx(P:qc)(mu:Mu)(t:qd)(m k:AV)(ok:Bool):Option AV:=
 match mapT P t,jW mu m with
 |some (g,j),some J =>
  if jw P g k=true then
   match zn P g k J 0 with
   |some (some i)=>(J[i]?).map fun e=>if ok then .tup [e.2,.sc (.bool true)] else e.2
   |some none=>(qB P j).map fun z=>if ok then .tup [z,.sc (.bool false)] else z
   |none=>none
  else none
 |_,_=>none
theorem tup2{z u v}(i:VRel G h y u)(j:VRel G h z v):VRel G h (.tup [y,z]) (.tuple #[u,v]):=by
 refine .tup _ _ rfl (fun k c g=>?_);cases k with
 |zero=>simp at g;subst g;exact i
 |succ k=>cases k with
  |zero=>simp at g;subst g;exact j
  |succ k=>simp at g
theorem wv{m ce g}(h:w.heap[m]?=some (.map ce g)):(getObj m).run P w = .ok (.map ce g) w:=by
 simp[getObj,Sem.run,h]
theorem pY(s:Sim G mu w.heap){t m k z ok vm U}(rm:VRel G w.heap m vm)(R:VRel G w.heap k U)(h:jx P mu t m k ok=some z) :
  ∃ u,(Instr.lookup t vm U ok).run P w = .ok u w/\VRel G w.heap z u:=by
 unfold jx at h;split at h
 .rename_i kt et J ht a0
  have I:=ZM ht;split at h
  .rename_i o
   have j:∀ b,(Instr.checkKey b 10000 kt U).run P w = .ok () w:=fun b=>JH b R o
   rcases qg4 s rm a0 with ⟨rfl,rfl⟩|⟨mb,ce,cl,rfl,hb,hr⟩
   .simp only[zn]at h
    cases C:qB P et with
    |none=>simp[C]at h
    |some z0 =>
     simp only[C,zh,qs]at h;subst h;obtain⟨p,l,rfl⟩:=ZI C w;have g:=(Zd (es:=[]) (ce:=#[]) R o ⟨rfl,zSp⟩ (r:=none) rfl).1;cases ok
     .exact ⟨p,by simp[Instr.lookup,run_underlying I,j,g,l],.ofV p⟩
     .exact ⟨.tuple #[p,.bool false],by simp[Instr.lookup,run_underlying I,j,g,l],tup2 (.ofV p) (.sc _ rfl)⟩
   .have T:=wv (P:=P) hb
    split at h
    .rename_i i hf
     obtain⟨g,a1⟩:=Zd R o hr hf;have hi:=a1 i rfl;have hx:J[i]?=some J[i]:=zP1 hi;rw[hx]at h;simp only[zh,qs]at h;subst h;obtain⟨e,he,h1,h2⟩:=hr.2 i _ hx;have a2:ce.getD i default=e:=by
      simp_all
     simp only[zh,a2]at g;cases ok
     .exact ⟨e.val,by simp[Instr.lookup,run_underlying I,T,j,g],h2⟩
     .exact ⟨.tuple #[e.val,.bool true],by simp[Instr.lookup,run_underlying I,T,j,g],tup2 h2 (.sc _ rfl)⟩
    .rename_i hf
     obtain⟨g,_⟩:=Zd R o hr hf;simp only[Option.map_none]at g;cases C:qB P et with
     |none=>simp[C]at h
     |some z0 =>
      simp only[C,zh,qs]at h;subst h;obtain⟨p,l,rfl⟩:=ZI C w;cases ok
      .exact ⟨p,by simp[Instr.lookup,run_underlying I,T,j,g,l],.ofV p⟩
      .exact ⟨.tuple #[p,.bool false],by simp[Instr.lookup,run_underlying I,T,j,g,l],tup2 (.ofV p) (.sc _ rfl)⟩
    grind
  grind
 grind
theorem pZ:∀ xs ys,aEqs xs ys=some true->xs=ys
 | [],[],_=>rfl
 | [],_ :: _,h=>by simp[aEqs]at h
 |x :: xs,[],h=>by cases x<;>simp[aEqs]at h
 |x :: xs,y :: ys,h=>by
  unfold aEqs at h;split at h
  .rename_i g i;cases g
  .rename_i k a l t b o g i
   simp only[List.cons.injEq]at g i;obtain⟨rfl,rfl⟩:=g;obtain⟨rfl,rfl⟩:=i;split at h
   .rename_i p
    subst p;split at h
    .rename_i j
     have:=beq_iff_eq.1 j;subst this;rw[pZ xs ys h]
    grind
   grind
  grind
theorem p5(q):∀ xs ys,xs.length=ys.length->xs.all (Yl q)=true->ys.all (Yl q)=true->∃ b,aEqs xs ys=some b
 | [],[],_,_,_=>⟨true,rfl⟩
 | [],_ :: _,h,_,_=>by simp at h
 |_ :: _,[],h,_,_=>by simp at h
 |x :: xs,y :: ys,h,g,i=>by
  simp only[List.all_cons,qD]at g i;obtain⟨b,C⟩:=p5 q xs ys (zUs h) g.2 i.2;have j:=g.1;have l:=i.1;unfold Yl at j l;split at j
  .split at l
   .rename_i I a _ J c
    have o:=beq_iff_eq.1 j;have p:=beq_iff_eq.1 l;subst o;subst p;by_cases t:(a == c)=true
    .simp_all [aEqs]
    simp_all[aEqs]
   grind
  grind
theorem WL{a b:dC}(h:(a == b)=true):a=b:=by
 obtain⟨x⟩:=a;obtain⟨y⟩:=b;have g:(x == y)=true:=h;rw[beq_iff_eq.1 g]
theorem qg5(h:jL P g x y=some true):x=y:=by
 unfold jL at h;split at h
 .grind
 .grind [qs,WL,absurd]
 .grind
 .grind [pZ,absurd]
 grind
theorem p6{l}(i:jw P l x=true)(g:jw P l y=true):∃ b,jL P l x y=some b:=by
 unfold jw at i g;unfold jL;split at i
 .rename_i q j
  simp only[j]at g⊢;unfold Yl at i g;split at i
  .split at g
   .simp_all
   grind
  grind
 .rename_i j
  simp only[j]at g⊢;split at i
  .split at g
   .exact ⟨_,rfl⟩
   grind
  grind
 .rename_i j
  simp only[j]at g⊢;split at i
  .split at g
   .exact ⟨_,rfl⟩
   grind
  grind
 .rename_i n e j
  simp only[j]at g⊢;split at i
  .rename_i q o p
   simp only[o,p]at g⊢;split at i
   .split at g
    .rw [qD]at i g
     have t:=beq_iff_eq.1 i.1;have C:=beq_iff_eq.1 g.1;simp only;rw[if_pos ⟨t,C⟩]
     grind [p5]
    grind
   grind
  grind
 grind
theorem JI:∀{es i j},zn P g k es i=some (some j)->i<=j/\∃ e,es[j-i]?=some e/\k=e.1
 | [],i,j,h=>by simp[zn]at h
 |e :: es,i,j,h=>by
  unfold zn at h;split at h
  .rename_i l
   simp only[qs]at h;subst h;exact⟨qn _,e,zSp,qg5 l⟩
  .obtain ⟨o,p,t,C⟩:=JI h
   grind
  grind
theorem WM{j}:∀{es i},zn P j k es i=some none->∀ e,e∈es->jL P j k e.1=some false
 | [],_,_=>zSp
 |e :: es,i,h=>by
  unfold zn at h;split at h
  .exact absurd h zSp
  .rename_i l
   intro o g;rcases qz.1 g with rfl|g
   .exact l
   .exact WM h o g
  grind
theorem p7(l:jw P g k=true):∀ es i,(∀ e,e∈es->jw P g e.1=true)->∃ r,zn P g k es i=some r
 | [],i,_=>⟨none,rfl⟩
 |e :: es,i,h=>by
  obtain⟨b,p⟩:=p6 l (h e zSp);obtain⟨r,t⟩:=p7 l es (i+1) (fun o j=>h o (zP1 j))
  grind [zn]
theorem PIx.mem{C σ o es i}(p:PIx σ o es i){x:C}:x∈i↔x∈es:=by
 constructor
 .intro h
  obtain⟨j,l⟩:=List.mem_iff_getElem?.1 h;have g:j<es.length:=by rw[<-p.1];grind
  rw[p.back g]at l
  grind
 .intro h
  obtain⟨j,l⟩:=List.mem_iff_getElem?.1 h;have g:j<es.length:=(ql.1 l).1;rw[<-(p.2 j g).2.2.2.2]at l
  grind
theorem qg6(h:(es.map Prod.fst).Nodup){x y}(g:x∈es)(i:y∈es)(e:x.1=y.1):x=y:=by
 induction es with
 |nil=>simp at g
 |cons z es j =>
  grind
theorem p8(h:jL P g x y=some false):x≠y:=by
 rintro rfl;unfold jL at h;have agg:∀ p:List AV,aEqs p p≠some false:=by
  intro p;induction p with
  |nil=>simp[aEqs]
  |cons x p j =>
   intro h;obtain⟨k,a,o,i,rfl,t,h⟩:=JG h
   grind
 have ba:∀ a:dC,(a == a)=true:=fun a=>by obtain⟨l⟩:=a;exact(beq_self_eq_true l)
 split at h
 .grind
 .grind
 .grind
 .grind
 grind
theorem qg7{t U et p z ok σ τ}(ht:mapT P t=some (U,et))(J:PIx σ τ es p)(hd:(es.map Prod.fst).Nodup)
  (ho:∀ e,e∈es->jw P U e.1=true) (h:jx P mu t (.im es) k ok=some z):jx P mu t (.im p) k ok=some z:=by
 unfold jx at *
 simp only[ht,jW]at h⊢;split at h
 .rename_i hk
  rw[if_pos hk];obtain⟨r',o⟩:=p7 hk p 0 (fun e C=>ho e (J.mem.1 C));rw[o];split at h
  .rename_i i R
   obtain⟨_,e,C,I⟩:=JI R;simp only[Nat.sub_zero]at C;rw[C]at h;cases r' with
   |none=>exact absurd I (p8 (WM o e (J.mem.2 (q8 C))))
   |some j =>
    obtain⟨_,T,g,l⟩:=JI o;simp only[Nat.sub_zero]at g;have:T=e:=qg6 hd (J.mem.1 (q8 g)) (q8 C) (by rw[<-I,<-l])
    grind
  .rename_i R
   cases r' with
   |none=>exact h
   |some j =>
    obtain⟨_,T,g,l⟩:=JI o;simp only[Nat.sub_zero]at g;exact absurd l (p8 (WM R T (J.mem.1 (q8 g))))
  grind
 grind
def yL(P:qc)(mu:Mu)(t:qd)(m k:AV)(ok:Bool):Option AV:=
 match m with
 | .ims J=>(match mapT P t with
  |some (g,_)=>if (J.all fun e=>jw P g e.1)=true then jx P mu t (.im J) k ok else none
  |none=>none)
 |m=>jx P mu t m k ok
@[go_sem] theorem qtU(P mu t es k ok):yL P mu t (.ims es) k ok=(match mapT P t with
  |some (g,_)=>if (es.all fun e=>jw P g e.1)=true then jx P mu t (.im es) k ok else none
  |none=>none):=rfl
@[go_sem] theorem qtV(P mu t es k ok):yL P mu t (.im es) k ok=jx P mu t (.im es) k ok:=rfl
@[go_sem] theorem qtW(P mu t b k ok):yL P mu t (.mp b) k ok=jx P mu t (.mp b) k ok:=rfl
@[go_sem] theorem qtX(P mu t v k ok):yL P mu t (.sc v) k ok=jx P mu t (.sc v) k ok:=rfl
theorem qg8(s:Sim G mu w.heap){t m k z ok g i}(j:VRel G w.heap m g)(l:VRel G w.heap k i)(h:yL P mu t m k ok=some z) :
  ∃ u,(Instr.lookup t g i ok).run P w = .ok u w/\VRel G w.heap z u:=by
 unfold yL at h;split at h
 .rename_i J
  split at h
  .rename_i R T o
   split at h
   .rename_i U
    cases j with
    |ims _ p σ τ _ C I r =>
     exact pY s r l (qg7 o C I (fun e he=>by grind) h)
   grind
  grind
 .exact pY s j l h
theorem qg9:∀(xs ys)(g i:List qf)(n),aEqs xs ys=some true->g.length=xs.length->i.length=ys.length->(∀(k:Nat) x,xs[k]?=some x->∃ v,g[k]?=some v/\VRel G h x v) ->
  (∀(k:Nat) x,ys[k]?=some x->∃ v,i[k]?=some v/\VRel G h x v)->g.length=i.length/\((g.zip i).all fun (x,y)=>Instr.sameBits n x y)=true:=by
 intro xs;induction xs with
 |nil =>
  intro ys g i n o p t _ _;cases ys with
  |nil=>simp_all
  |cons=>simp[aEqs]at o
 |cons x xs T =>
  intro ys g i n o p t J l;have U:=JG o;clear o;obtain⟨k,a,b',C,rfl,rfl,h⟩:=U;rcases h with ⟨a0,h⟩|⟨_,h⟩
  .cases g with
   |nil=>simp at p
   |cons v g =>
    cases i with
    |nil=>simp at t
    |cons u i =>
     obtain⟨v',P,r1⟩:=J 0 _ rfl;obtain⟨u',R,r2⟩:=l 0 _ rfl;simp at P R;subst P;subst R;cases r1;cases r2;obtain⟨g1,g2⟩:=T C g i n h (zUs p) (zUs t) (fun j y I=>J (j+1) y (zUs I)) (fun j y I=>l (j+1) y (zUs I));refine⟨by simp[g1],?_⟩;simp_all[List.zip_cons_cons,List.all_cons,Instr.sameBits]
  grind
theorem WN{kt u v}(R:VRel G h x u)(T:VRel G h y v)(g:jL P kt x y=some true):Instr.sameBits 10000 v u=true:=by
 unfold jL at g;split at g
 .split at g
  .cases R;cases T
   split at g
   .simp_all [qs,beq_iff_eq,Instr.sameBits]
   grind
  grind
 .split at g
  .cases R;cases T
   simp_all[Option.some.inj,Instr.sameBits,beq_toListBytes,beq_iff_eq]
  grind
 .split at g
  .cases R;cases T
   have g:=Option.some.inj g;simp_all[Instr.sameBits,beq_iff_eq]
  grind
 .split at g
  .split at g
   .rename_i p j
    split at g
    .rename_i hl
     cases R with
     |agg _ o U hv =>
     cases T with
     |agg _ t hm hw =>
     have g1:=Yk U hv;have g2:=Yk hm hw;have:=qg9 (G:=G) (h:=h) p j o.toList t.toList 9999 g (zUs U) (zUs hm) (fun k x hx=>by have:=g1 k x hx;simpa using this) (fun k x hx=>by have:=g2 k x hx;simpa using this);have C:∀(a b:List qf),a.length=b.length->((a.zip b).all fun (x,y)=>Instr.sameBits 9999 x y)=true->(∀ c,c∈a->∃ k n,c = .int k n)->(∀ c,c∈b->∃ k n,c = .int k n)->((b.zip a).all fun (x,y)=>Instr.sameBits 9999 x y)=true:=by
      intro a;induction a with
      |nil=>intro b _ _ _ _;simp
      |cons c a ih =>
       intro b hl h ha hb;cases b with
       |nil=>simp at hl
       |cons d b =>
        obtain⟨k1,n1,rfl⟩:=ha c zSp;obtain⟨k2,n2,rfl⟩:=hb d zSp;simp only[List.zip_cons_cons,List.all_cons,qD]at h⊢;refine⟨?_,ih b (zUs hl) h.2 (fun c i=>ha c (zP1 i)) (fun c i=>hb c (zP1 i))⟩;simp only[Instr.sameBits,qD,beq_iff_eq]at h⊢;exact⟨h.1.1.symm,h.1.2.symm⟩
     have ints:∀(p j:List AV),aEqs p j=some true->(∀ c,c∈p->∃ k n,c = .sc (.int k n))/\(∀ c,c∈j->∃ k n,c = .sc (.int k n)):=by
      intro p;induction p with
      |nil=>intro j h;cases j with
       |nil=>simp
       |cons=>simp[aEqs]at h
      |cons x p ih =>
       intro j h;have h':=JG h;clear h;obtain⟨k,a,b',a0,rfl,rfl,h⟩:=h';rcases h with ⟨_,h⟩|⟨_,h⟩
       .obtain ⟨g1,g2⟩:=ih a0 h
        refine⟨fun c i=>?_,fun c i=>?_⟩
        .rcases qz.1 i with rfl|i
         .exact ⟨k,a,rfl⟩
         .exact g1 c i
        .rcases qz.1 i with rfl|i
         .exact ⟨k,b',rfl⟩
         .exact g2 c i
       .exact absurd h zSp
     obtain⟨i1,i2⟩:=ints p j g;have val:∀(l:List AV)(I:Array qf),I.size=l.length->(∀(k:Nat) x,l[k]?=some x->VRel G h x (I.getD k z6))->(∀ c,c∈l->∃ k n,c = .sc (.int k n))->∀ c,c∈I.toList->∃ k n,c = .int k n:=by
      intro l I U hv hi c i;obtain⟨k,g⟩:=List.mem_iff_getElem?.1 i;have J:I[k]?=some c:=zUs g;have a1:k<l.length:=by have:=(yI.1 J).1;omega
      obtain⟨q,n,e⟩:=hi l[k] zSp;have r:=hv k l[k] (zP1 a1);rw[e,qf6 J]at r;cases r;exact⟨q,n,rfl⟩
     have hs:=C o.toList t.toList this.1 this.2 (val p o U hv i1) (val j t hm hw i2);show (t.size == o.size&&(t.toList.zip o.toList).all fun (x,y)=>Instr.sameBits 9999 x y)=true
     grind
    grind
   grind
  grind
 grind
theorem WO:∀ es i j,zn P g k es i=some (some j)->i<=j/\∃ e,es[j-i]?=some e/\jL P g k e.1=some true:=by
 intro es;induction es with
 |nil=>intro i j h;simp[zn]at h
 |cons e es l =>
  intro i j h;simp only[zn]at h;split at h
  .grind
  .grind
  grind
end
end Go.Ev
namespace Go.Ev
open Go Go.RowKit
section
variable {ce:Array yc}{h:Array Obj}{G:Gh}{es:List (AV×AV)}{mu mu':Mu}{g:Nat}{P:qc}{w:qe}
@[go_sem] def V3(es:List (AV×AV))(i:Option Nat)(k v:AV):List (AV×AV):=
 match i with
 |some i=>es.set i (k,v)
 |none=>es++[(k,v)]
theorem Qf{r}(h:w.heap[r]?=some (.map ce g))(o):(setObj r o).run P w = .ok () { w with heap:=w.heap.setIfInBounds r o }:=by
 simp[setObj,Sem.run,h]
theorem WP(w:qe)(r o)(h:r<w.heap.size):({ w with heap:=w.heap.setIfInBounds r o }:qe).heap[r]?=some o:=by
 simp[h]
theorem WQ(w:qe)(r k o)(h:k≠r):({ w with heap:=w.heap.setIfInBounds r o }:qe).heap[k]?=w.heap[k]?:=by
 grind
theorem V4(s:Sim G mu w.heap){b v es}(r:VRel G w.heap (.mp b) v)(l:mu[b]?=some (.mp es)) :
  ∃ m g ce,v = .map (some m)/\G.blk[b]?=some (m,g)/\w.heap[m]?=some (.map ce ce.size)/\jo G w.heap es ce.toList/\(∀(k)(e:yc),ce[k]?=some e->e.born=k):=by
 cases r with
 |mp _ i g j =>
  obtain⟨ce,I,o,p,J,P,t,C⟩:=s.mp _ _ i g l j;subst t;refine⟨i,g,ce,rfl,j,o,⟨zUs p,fun k x R=>?_⟩,C⟩
  grind [ql,V2]
theorem qhA(i:jo G h es ce.toList)(l:∀(k)(e:yc),ce[k]?=some e->e.born=k):uB G h g (.map ce ce.size) (.mp es):=by
 refine⟨ce,ce.size,rfl,by simpa using i.1,fun k x j=>?_,fun k x j=>?_,rfl,l⟩
 .obtain ⟨e,o,p,t⟩:=i.2 k x j
  simp_all
 .obtain ⟨e,o,p,t⟩:=i.2 k x j
  simp_all
theorem p9(g:jo G h es ce.toList){i}(I:i<es.length){k v o p}(J:VRel G h k o)(P:VRel G h v p) :
  jo G h (es.set i (k,v)) (ce.modify i fun e=>{ e with key:=o,val:=p }).toList:=by
 refine⟨by simpa using g.1,fun j x l=>?_⟩;rcases ud l with ⟨rfl,rfl⟩|⟨t,l⟩
 .have C:j<ce.size:=by have:=g.1;simp at this;omega
  simp_all
 .obtain ⟨e,R,T,U⟩:=g.2 j x l
  grind
theorem WR(i:jo G h es ce.toList){k v l o}(C:VRel G h k l)(I:VRel G h v o)(n) :
  jo G h (es++[(k,v)]) (ce.push { key:=l,val:=o,born:=n }).toList:=by
 have t:ce.size=es.length:=by simpa using i.1
 refine⟨zP1 t,fun j x g=>?_⟩;rcases yB g with ⟨J,g⟩|⟨rfl,rfl⟩
 .obtain ⟨e,P,R,T⟩:=i.2 j x g
  grind
 simp_all
theorem WS(g:∀(k) (e:yc),ce[k]?=some e->e.born=k)(i f)(hf:∀ e,(f e).born=e.born):∀(k)(e:yc),(ce.modify i f)[k]?=some e->e.born=k:=by
 grind
theorem ge(g:∀(k)(e:yc),ce[k]?=some e->e.born=k)(x)(i:x.born=ce.size):∀(k)(e:yc),(ce.push x)[k]?=some e->e.born=k:=by
 grind
theorem sL(s:Sim G mu w.heap){b m j es i ce g}(o:mu[b]?=some (.mp es))(p:G.blk[b]?=some (m,j))(t:w.heap[m]?=some (.map ce ce.size))
  (C:jo G w.heap i g.toList) (l:∀(k)(e:yc),g[k]?=some e->e.born=k):Stp G mu w G (mu.set b (.mp i)) { w with heap:=w.heap.setIfInBounds m (.map g g.size) }:=by
 grind [yI,sW,WP,WQ,qhA]
theorem qhB(s:Sim G mu w.heap){b v es}(r:VRel G w.heap (.mp b) v)(o:mu[b]?=some (.md es)) :
  ∃ m g ce j,v = .map (some m)/\G.blk[b]?=some (m,g)/\w.heap[m]?=some (.map ce j)/\jo G w.heap es ce.toList/\vj ce j:=by
 cases r with
 |mp _ i g l =>
  obtain⟨ce,j,p,t,I,J,C⟩:=s.md _ _ i g o l;refine⟨i,g,ce,j,rfl,l,p,⟨zUs t,fun k x P=>?_⟩,C⟩
  grind [ql,V2]
theorem qhC{i}(j:jo G h es ce.toList)(o:vj ce g):uB G h i (.map ce g) (.md es):=by
 refine⟨ce,g,rfl,by simpa using j.1,fun k x l=>?_,fun k x l=>?_,o⟩
 .obtain ⟨e,p,t,C⟩:=j.2 k x l
  simp_all
 .obtain ⟨e,p,t,C⟩:=j.2 k x l
  simp_all
theorem sQ(s:Sim G mu w.heap){b m j c i o g p}(t:mu[b]?=some c)(C:c ≠ .dead)(I:G.blk[b]?=some (m,j))(J:w.heap[m]?=some o)
  (P:jo G w.heap i g.toList) (l:vj g p):Stp G mu w G (mu.set b (.md i)) { w with heap:=w.heap.setIfInBounds m (.map g p) }:=by
 grind [yI,sW,WP,WQ,qhC]
theorem qhD{l}(o:vj ce l)(i f)(hf:∀ e,(f e).born=e.born):vj (ce.modify i f) l:=by
 have key:∀(k:Nat)(e:yc),(ce.modify i f)[k]?=some e->∃ g,ce[k]?=some g/\g.born=e.born:=by
  grind
 refine⟨fun k e h=>?_,fun j k e p t C U=>?_⟩
 .obtain ⟨g,I,J⟩:=key k e h
  rw[<-J];exact o.1 k g I
 .obtain ⟨P,g1,g2⟩:=key j e t
  obtain⟨R,T,g4⟩:=key k p C;exact o.2 j k P R g1 T zOm
theorem qhE{i}(g:vj ce i)(x)(J:x.born=i):vj (ce.push x) (i+1):=by
 have key:∀(k:Nat)(e:yc),(ce.push x)[k]?=some e->(k=ce.size/\e=x)\/ce[k]?=some e:=by
  grind
 refine⟨fun k e h=>?_,fun j k e l t C I=>?_⟩
 .rcases key k e h with ⟨_,rfl⟩|h
  .omega
  .have:=g.1 k e h;omega
 .rcases key j e t with ⟨o,rfl⟩|o<;>rcases key k l C with ⟨p,rfl⟩|p
  .omega
  .have:=g.1 k l p;omega
  .have:=g.1 j e o;omega
  .exact g.2 j k e l o p I
theorem qhF{l}(o:vj ce l)(i):vj (ce.eraseIdxIfInBounds i) l:=by
 have key:∀ k:Nat,∃ j:Nat,(ce.eraseIdxIfInBounds i)[k]?=ce[j]?/\j=if k<i then k else if i<ce.size then k+1 else k:=by
  grind
 refine⟨fun k e h=>?_,fun j k e C p t I=>?_⟩
 .obtain ⟨j,g,_⟩:=key k
  rw[g]at h;exact o.1 j e h
 .obtain ⟨J,g,T⟩:=key j
  obtain⟨P,R,U⟩:=key k;rw[g]at p;rw[R]at t;have:=o.2 J P e C p t I
  grind
theorem qhG(j:jo G h es ce.toList){i}(C:i<es.length):jo G h (es.eraseIdx i) (ce.eraseIdxIfInBounds i).toList:=by
 have o:ce.size=es.length:=by simpa using j.1
 have e:(ce.eraseIdxIfInBounds i).toList=ce.toList.eraseIdx i:=by
  simp_all
 rw[e];refine⟨by simp[List.length_eraseIdx,o],fun k x g=>?_⟩;rw[List.getElem?_eraseIdx]at g;by_cases l:k<i
 .rw [if_pos l]at g
  obtain⟨c,p,t⟩:=j.2 k x g
  grind
 .rw [if_neg l]at g
  obtain⟨c,p,t⟩:=j.2 (k+1) x g
  grind
@[go_sem] def uf(P:qc)(mu:Mu)(t:qd)(m k v:AV):Option Mu:=
 match m,mapT P t with
 | .mp b,some (g,_)=>match mu[b]? with
  |some (.mp J)=>if jw P g k=true then (zn P g k J 0).map fun r=>mu.set b (.mp (V3 J r k v)) else none
  |some (.md J)=>if jw P g k=true then (zn P g k J 0).map fun r=>mu.set b (.md (V3 J r k v)) else none
  |_=>none
 |_,_=>none
theorem WT{o n}(h:Instr.sameBits 10000 o n=true):(Instr.keyThatStays o n).run P w = .ok n w:=by
 simp[Instr.keyThatStays,h]
theorem gg(s:Sim G mu w.heap){t m k v vm vk vv}(rm:VRel G w.heap m vm)(rk:VRel G w.heap k vk)(rv:VRel G w.heap v vv)(h:uf P mu t m k v=some mu') :
  ∃ w',(Instr.mapUpdate t vm vk vv).run P w = .ok () w'/\Stp G mu w G mu' w':=by
 unfold uf at h;split at h
 .rename_i b kt et ht
  have hu:=ZM ht;split at h
  .rename_i J hm
   split at h
   .rename_i C
    obtain⟨mb,a4,ce,rfl,hb,I,R,g⟩:=V4 s rm hm;have T:(Instr.checkKey false 10000 kt vk).run P w = .ok () w:=JH false rk C;have hg:=wv (P:=P) I;have a5:ce.size=J.length:=by simpa using R.1
    cases hf:zn P kt k J 0 with
    |none=>simp[hf]at h
    |some r =>
     simp only[hf,zh,qs]at h;subst h;obtain⟨j,a0⟩:=Zd rk C R hf;cases r with
     |none =>
      have l:=WR R rk rv ce.size;have o:=ge g { key:=vk,val:=vv,born:=ce.size } rfl;refine⟨_,?_,sL s hm hb I l o⟩;simp only[Option.map_none]at j;simp[Instr.mapUpdate,run_underlying hu,hg,T,j,Qf I]
     |some i =>
      obtain⟨_,e,he,U⟩:=WO J 0 i hf;rw[Nat.sub_zero]at he;obtain⟨c,hc,a1,a6⟩:=R.2 i e he;have a2:ce[i]?=some c:=zUs hc;have p:=WN rk a1 U;have l:=p9 R (a0 i rfl) rk rv;have o:=WS g i (fun e=>{ e with key:=vk,val:=vv }) (fun _=>rfl);refine⟨_,?_,sL s hm hb I l o⟩;simp only[zh]at j;simp[Instr.mapUpdate,run_underlying hu,hg,T,j,a2,WT p,Qf I]
   grind
  .rename_i J hm
   split at h
   .rename_i C
    obtain⟨mb,a4,ce,cl,rfl,hb,I,R,g⟩:=qhB s rm hm;have T:(Instr.checkKey false 10000 kt vk).run P w = .ok () w:=JH false rk C;have hg:=wv (P:=P) I;have a5:ce.size=J.length:=by simpa using R.1
    cases hf:zn P kt k J 0 with
    |none=>simp[hf]at h
    |some r =>
     simp only[hf,zh,qs]at h;subst h;obtain⟨j,a0⟩:=Zd rk C R hf;cases r with
     |none =>
      have l:=WR R rk rv cl;have o:=qhE g { key:=vk,val:=vv,born:=cl } rfl;refine⟨_,?_,sQ s hm zSp hb I l o⟩;simp only[Option.map_none]at j;simp[Instr.mapUpdate,run_underlying hu,hg,T,j,Qf I]
     |some i =>
      obtain⟨_,e,he,U⟩:=WO J 0 i hf;rw[Nat.sub_zero]at he;obtain⟨c,hc,a1,a6⟩:=R.2 i e he;have a2:ce[i]?=some c:=zUs hc;have p:=WN rk a1 U;have l:=p9 R (a0 i rfl) rk rv;have o:=qhD g i (fun e=>{ e with key:=vk,val:=vv }) (fun _=>rfl);refine⟨_,?_,sQ s hm zSp hb I l o⟩;simp only[zh]at j;simp[Instr.mapUpdate,run_underlying hu,hg,T,j,a2,WT p,Qf I]
   grind
  grind
 grind
@[go_sem] def Ym(P:qc)(mu:Mu)(t:qd)(m k:AV):Option (AV×Mu):=
 match m,mapT P t with
 | .mp b,some (g,j)=>match mu[b]? with
  |some (.mp J)=>if jw P g k=true then
    match zn P g k J 0 with
    |some (some i)=>(J[i]?).map fun e=>(.tup [e.2,.sc (.int .i64 i)],mu.set b (.mp (J.set i (k,e.2))))
    |some none=>(qB P j).map fun z=>(.tup [z,.sc (.int .i64 J.length)],mu.set b (.mp (J++[(k,z)])))
    |none=>none
   else none
  |_=>none
 |_,_=>none
theorem qhH(s:Sim G mu w.heap){t m k z vm vk}(rm:VRel G w.heap m vm)(rk:VRel G w.heap k vk)(h:Ym P mu t m k=some (z,mu')) :
  Good P G mu w (Instr.mapEntry t vm vk) z mu':=by
 unfold Ym at h;split at h
 .rename_i b kt et ht
  have hu:=ZM ht;split at h
  .rename_i J hm
   split at h
   .rename_i o
    obtain⟨mb,a9,ce,rfl,hb,hh,p,g⟩:=V4 s rm hm;have a0:(Instr.checkKey false 10000 kt vk).run P w = .ok () w:=JH false rk o;have hg:=wv (P:=P) hh;have a2:ce.size=J.length:=by simpa using p.1
    split at h
    .rename_i i hf
     obtain⟨l,aa⟩:=Zd rk o p hf;obtain⟨_,e,he,a1⟩:=WO J 0 i hf;rw[Nat.sub_zero]at he;rw[he]at h;simp only[zh,qs,wo]at h;obtain⟨rfl,rfl⟩:=h;obtain⟨c,hc,a3,a4⟩:=p.2 i e he;have C:ce[i]?=some c:=zUs hc;have I:=WN rk a3 a1;have a5:ce.getD i default=c:=by simp[qU,C]
     have R:jo G w.heap (J.set i (k,e.2)) (ce.modify i fun e=>{ e with key:=vk }).toList:=by
      refine⟨by simpa using p.1,fun j x hx=>?_⟩;rcases ud hx with ⟨rfl,rfl⟩|⟨ab,hx⟩
      .grind
      .obtain ⟨e',ad,h1,h2⟩:=p.2 j x hx
       grind
     have T:=WS g i (fun e=>{ e with key:=vk }) (fun _=>rfl);have a6:c.born=i:=g i c C;have U:=sL s hm hb hh R T;refine⟨.tuple #[c.val,.int .i64 i],_,G,?_,U,tup2 (U.vrel s a4) (.sc _ rfl)⟩;simp only[zh,a5]at l;simp[Instr.mapEntry,run_underlying hu,hg,a0,l,C,WT I,Qf hh,goInt,a6]
    .rename_i hf
     obtain⟨l,_⟩:=Zd rk o p hf;cases hz:qB P et with
     |none=>simp[hz]at h
     |some z0 =>
      simp only[hz,zh,qs,wo]at h;obtain⟨rfl,rfl⟩:=h;obtain⟨zv,a7,rfl⟩:=ZI hz w;have R:=WR p rk (VRel.ofV (G:=G) (h:=w.heap) zv) ce.size;have T:=ge g { key:=vk,val:=zv,born:=ce.size } rfl;have U:=sL s hm hb hh R T;refine⟨.tuple #[zv,.int .i64 J.length],_,G,?_,U,tup2 (.ofV zv) (.sc _ rfl)⟩;simp only[Option.map_none]at l;simp[Instr.mapEntry,run_underlying hu,hg,a0,l,a7,Qf hh,goInt,a2]
    grind
   grind
  grind
 grind
@[go_sem] def WU(mu:Mu)(m g v:AV):Option Mu:=
 match m,g with
 | .mp b,.sc (.int _ i)=>match mu[b]? with
  |some (.mp J)=>if 0<=i then (J[i.toNat]?).map fun e=>mu.set b (.mp (J.set i.toNat (e.1,v))) else none
  |_=>none
 |_,_=>none
theorem qhI(s:Sim G mu w.heap){t m st v vm vs o}(rm:VRel G w.heap m vm)(rs:VRel G w.heap st vs)(rv:VRel G w.heap v o)(h:WU mu m st v=some mu') :
  ∃ w',(Instr.entryStore t vm vs o).run P w = .ok () w'/\Stp G mu w G mu' w':=by
 unfold WU at h;split at h
 .rename_i b q i
  split at h
  .rename_i J hm
   split at h
   .rename_i a1
    cases p:J[i.toNat]? with
    |none=>simp[p]at h
    |some e =>
     simp only[p,zh,qs]at h;subst h;obtain⟨mb,a2,ce,rfl,hb,C,I,g⟩:=V4 s rm hm;cases rs;have hg:=wv (P:=P) C;obtain⟨c,hc,a3,a4⟩:=I.2 _ e p;have R:ce[i.toNat]?=some c:=zUs hc;have T:i.toNat<ce.size:=(yI.1 R).1;have l:ce.findIdx? (fun e=>(e.born:Int) == i)=some i.toNat:=by
      rw[Array.findIdx?_eq_some_iff_getElem];refine⟨T,?_,fun j hj=>?_⟩
      .grind
      .have:ce[j].born=j:=g j _ (by simp[show j<ce.size by omega])
       simp[this];omega
     have U:jo G w.heap (J.set i.toNat (e.1,v)) (ce.modify i.toNat fun e=>{ e with val:=o }).toList:=by
      refine⟨by simpa using I.1,fun j x hx=>?_⟩;rcases ud hx with ⟨rfl,rfl⟩|⟨a5,hx⟩
      .grind
      .obtain ⟨e',a6,h1,h2⟩:=I.2 j x hx
       grind
     have a0:=WS g i.toNat (fun e=>{ e with val:=o }) (fun _=>rfl);refine⟨_,?_,sL s hm hb C U a0⟩;simp[Instr.entryStore,hg,asInt,asIntOf,l,Qf C]
   grind
  grind
 grind
theorem qhJ(s:Sim G mu w.heap){t}:Good P G mu w (Instr.makeMap t none) (.mp mu.length) (mu++[.mp []]):=by
 have U:=sR s (.map #[] 0) (.mp []) 0 (fun _=>⟨#[],0,rfl,rfl,zSp,zSp,rfl,zSp⟩);refine⟨.map (some w.heap.size),_,_,?_,U,.mp _ w.heap.size 0 ?_⟩
 .simp [Instr.makeMap]
 .show (G.blk++[_])[mu.length]?=_
  rw[<-s.len];simp
@[go_sem] def V5(P:qc)(mu:Mu)(t:qd)(m:AV):Option (AV×Mu):=
 match mapT P t,m with
 |some _,.im J=>some (.ptr mu.length 0,mu++[.it J []])
 |some _,.ims J=>some (.ptr mu.length 0,mu++[.it J []])
 |some _,.sc (.map none)=>some (.ptr mu.length 0,mu++[.it [] []])
 |_,_=>none
theorem qhK(s:Sim G mu w.heap){t m z vm}(i:VRel G w.heap m vm)(h:V5 P mu t m=some (z,mu')):Good P G mu w (Instr.range t vm) z mu':=by
 unfold V5 at h;split at h
 .rename_i l J o
  obtain⟨kt,et⟩:=l;have p:=ZM o;simp only[qs,wo]at h;obtain⟨rfl,rfl⟩:=h;have j:=i;cases i with
  |im _ g ce clock C I hn hk hv hd =>
  have U:=sR s (.mapIter (some g) clock #[] clock) (.it J []) 0 (fun h => .inl ⟨g,J,id,id,ce,clock,j,C,I,PIx.refl J,zSp,zSp⟩);refine⟨.pointer (some ⟨w.heap.size,0,none⟩),_,_,?_,U,.ptr _ 0 w.heap.size 0 ?_⟩
  .have R:=wv (P:=P) C
   simp[Instr.range,run_underlying p,R]
  .show (G.blk++[_])[mu.length]?=_
   rw[<-s.len];simp
 .rename_i l J o
  obtain⟨kt,et⟩:=l;have p:=ZM o;simp only[qs,wo]at h;obtain⟨rfl,rfl⟩:=h;cases i with
  |ims _ T σ τ _ hp a0 i =>
  have j:=i;cases i with
  |im _ g ce clock C I hn hk hv hd =>
  have U:=sR s (.mapIter (some g) clock #[] clock) (.it J []) 0 (fun h => .inl ⟨g,T,σ,τ,ce,clock,j,C,I,hp,zSp,zSp⟩);refine⟨.pointer (some ⟨w.heap.size,0,none⟩),_,_,?_,U,.ptr _ 0 w.heap.size 0 ?_⟩
  .have R:=wv (P:=P) C
   simp[Instr.range,run_underlying p,R]
  .show (G.blk++[_])[mu.length]?=_
   rw[<-s.len];simp
 .rename_i l o
  obtain⟨kt,et⟩:=l;have p:=ZM o;simp only[qs,wo]at h;obtain⟨rfl,rfl⟩:=h;cases i;have U:=sR s (.mapIter none 0 #[] 0) (.it [] []) 0 (fun _ => .inr ⟨rfl,rfl⟩);refine⟨.pointer (some ⟨w.heap.size,0,none⟩),_,_,?_,U,.ptr _ 0 w.heap.size 0 ?_⟩
  .simp [Instr.range,run_underlying p]
  .show (G.blk++[_])[mu.length]?=_
   rw[<-s.len];simp
 grind
def WV(mu:Mu)(g:AV)(K:AV->Mu->Prop):Prop:=
 ∃ b J seen,g = .ptr b 0/\mu[b]?=some (.it J seen) /\
  (∀(i:Nat) e,J[i]?=some e->i ∉ seen->K (.tup [.sc (.bool true),e.1,e.2]) (mu.set b (.it J (seen++[i])))) /\
  ((∀ i,i<J.length->i∈seen)->K (.tup [.sc (.bool false)]) mu)
theorem tup1{y u}(i:VRel G h y u):VRel G h (.tup [y]) (.tuple #[u]):=by
 refine .tup _ _ rfl (fun k c g=>?_);cases k with
 |zero=>simp at g;subst g;exact i
 |succ k=>simp at g
theorem tup3{x y z t u v}(i:VRel G h x t)(j:VRel G h y u)(l:VRel G h z v):VRel G h (.tup [x,y,z]) (.tuple #[t,u,v]):=by
 refine .tup _ _ rfl (fun k c g=>?_)
 match k,g with
 | 0,g=>simp at g;subst g;exact i
 | 1,g=>simp at g;subst g;exact j
 | 2,g=>simp at g;subst g;exact l
 |k+3,g=>simp at g
theorem qhL(s:Sim G mu w.heap){an vi ty}(ri:VRel G w.heap an vi){K}(h:WV mu an K) :
  ∃ z mu',K z mu'/\Good P G mu w (Instr.next vi false ty) z mu':=by
 obtain⟨b,J,seen,rfl,hm,h1,h2⟩:=h;cases ri with
 |ptr _ _ p ao hb =>
 obtain⟨o,ho,ag⟩:=s.obj b _ p ao hm zSp hb;have b2:p<w.heap.size:=(yI.1 ho).1;rcases ag with ⟨m,a1,σ,τ,g,l,rm,a6,hi,I,a2,rfl⟩|⟨rfl,rfl⟩
 .cases rm with
  |im _ _ ce clock ab a7 aq hk hv hd =>
  rw[a6]at ab;obtain⟨rfl,rfl⟩:g=ce/\l=clock:=zUs ab;have hn:g.size=J.length:=by rw[aq];exact I.1
  have ar:∀ j,j<J.length->g[j]?=some (g.getD j default):=fun j hj=>by
   simp_all
  generalize au:(seen.map fun i=>(g.getD (σ i) default).born)=sn at ho;have ad:∀ j,j<J.length->((g.getD j default).born∈sn↔τ j∈seen):=by
   intro j hj;rw[<-au,qp];constructor
   .rintro ⟨i,a7,b3⟩
    have h1:=I.2 i (a2 i a7);have:=hd.2 _ _ _ _ (ar _ h1.1) (ar j hj) b3
    grind
   .intro b4
    exact⟨τ j,b4,by simp only[(I.2 j hj).2.2.2.1]⟩
  have a3:(getObj p).run P w = .ok (.mapIter (some m) l sn.toArray l) w:=by simp[getObj,Sem.run,ho]
  have ah:=wv (P:=P) a6;have R:(!sn.toArray.isEmpty&&!g.isEmpty&&g.all fun e=>decide (e.born>=l))=false:=by
   by_cases bb:g.size=0
   .grind
   .have:(g.all fun e=>decide (e.born>=l))=false:=by
     cases hq:(g.all fun e=>decide (e.born>=l)) with
     |false=>rfl
     |true =>
      have h0:g[0]?=some (g[0]' zOm):=by simp[show 0<g.size by omega]
      have:=(Array.all_eq_true'.1 hq) _ (Array.mem_of_getElem? h0);have bc:=hd.1 0 _ h0
      grind
    rw[this];simp
  have av:∀(a:Array yc),(∀ e,e∈a->e∈g)->(a.filter fun e=>decide (e.born<l))=a/\(a.filter fun e=>decide (e.born>=l))=#[]:=by
   intro a ha;have hb:∀ e,e∈a->e.born<l:=by
    intro e he;obtain⟨k,hk⟩:=Array.mem_iff_getElem?.1 (ha e he);exact hd.1 k e hk
   simp_all
  obtain⟨ai,aj⟩:=av (g.filter fun e=>!sn.toArray.contains e.born) (fun e he=>(Array.mem_filter.1 he).1);generalize C:(g.filter fun e=>!sn.toArray.contains e.born)=left at ai aj;have a0:∀ e,e∈left->∃(k:Nat) (x:AV×AV),J[k]?=some x/\k ∉ seen/\e.born=(g.getD (σ k) default).born/\VRel G w.heap x.1 e.key/\VRel G w.heap x.2 e.val:=by
   intro e he;rw[<-C,Array.mem_filter]at he;obtain⟨k,aw⟩:=Array.mem_iff_getElem?.1 he.1;have a8:k<g.size:=(yI.1 aw).1;have a4:k<J.length:=zOm;have hx:a1[k]?=some (a1[k]' zOm):=by simp[show k<a1.length by omega]
   have a9:g.getD k default=e:=by simp[qU,aw]
   refine⟨τ k,_,by rw[<-I.back a4];exact hx,?_,by rw[(I.2 k a4).2.2.2.1,a9],by have:=hk k _ hx;rwa[a9]at this,by have:=hv k _ hx;rwa[a9]at this⟩;intro hs;have:=he.2;have h3:=(ad k a4).2 hs;rw[a9]at h3;simp[h3]at this
  by_cases a5:left=#[]
  ·
   have ax:∀ i,i<J.length->i∈seen:=by
    intro i hi;refine Classical.byContradiction fun ak=>?_
    obtain⟨q1,q2,q3,q4,q5⟩:=I.2 i hi;have a7:σ i<g.size:=zOm;have:g[σ i]∈left:=by
     rw[<-C,Array.mem_filter];refine⟨zSp,?_⟩;have h4:g.getD (σ i) default=g[σ i]:=by simp[qU,a7]
     have h3:g[σ i].born ∉ sn:=fun h=>ak (by rw[<-h4]at h;have:=(ad _ q1).1 h;rwa[q3]at this)
     simp[h3]
    rw[a5]at this;simp at this
   refine⟨_,_,h2 ax,?_⟩;refine sY s (v := .tuple #[.bool false]) ?_ (tup1 (.sc _ rfl));simp only[Instr.next,qQ,a3,qS,ah,R,Bool.false_eq_true,if_false,C,a5];simp[Question.forced]
  .have T:0<left.size:=by
    rcases Nat.eq_zero_or_pos left.size with h|h
    .exact absurd (Array.eq_empty_of_size_eq_zero h) a5
    .exact h
   have ay:left.isEmpty=false:=by simp[Array.isEmpty];omega
   have ae:∀(n:Nat)(h:n<left.size),left[n]?=some left[n]:=fun n h=>zP1 h
   have key:∀(n:Nat)(w1:qe)(b5:n<left.size),w1.heap=w.heap->Stp G mu w G mu w1->∃ z mu',K z mu'/\∃ v w' G',((do
     setObj p (.mapIter (some m) l (sn.toArray.push left[n].born) l)
     pure (.tuple #[.bool true,left[n].key,left[n].val]):Sem qf)).run P w1 = .ok v w'/\Stp G mu w G' mu' w'/\VRel G' w'.heap z v:=by
    intro n w1 b5 aa al;obtain⟨k,x,hx,ak,b6,r1,r2⟩:=a0 left[n] zSp;have b7:w1.heap[p]?=some (.mapIter (some m) l sn.toArray l):=by rw[aa];exact ho
    have az:p<w1.heap.size:=by rw[aa];exact b2
    have b8:VRel G w1.heap (.im a1) (.map (some m)):=by rw[aa];exact .im _ m g _ a6 hi aq hk hv hd
    have a4:k<J.length:=(ql.1 hx).1;have U:=sW al.sim b (.it J seen) (.it J (seen++[k])) p ao (.mapIter (some m) l (sn++[(g.getD (σ k) default).born]).toArray l) hm zSp zSp hb (w':={ w1 with heap:=w1.heap.setIfInBounds p (.mapIter (some m) l (sn++[(g.getD (σ k) default).born]).toArray l) }) zSp
     (WP w1 p _ az) (fun j hj=>WQ w1 p j _ hj) rfl rfl rfl (.inl ⟨m,a1,σ,τ,g,l,b8,by rw[aa];exact a6,hi,I,fun i hi=>by
      rcases List.mem_append.1 hi with h|h
      .exact a2 i h
      .simp at h;subst h;exact a4,by rw[zi,au,List.map_singleton]⟩)
    have b0:(setObj p (.mapIter (some m) l (sn.toArray.push left[n].born) l)).run P w1 = .ok () { w1 with heap:=w1.heap.setIfInBounds p (.mapIter (some m) l (sn++[(g.getD (σ k) default).born]).toArray l) }:=by
     simp[setObj,Sem.run,b7,b6]
    refine⟨_,_,h1 k x hx ak,.tuple #[.bool true,left[n].key,left[n].val],_,G,?_,al.trans s U,?_⟩
    .simp only[qQ,b0,qS,zJ]
    .have t:=al.trans s U
     exact tup3 (.sc _ rfl) (t.vrel s r1) (t.vrel s r2)
   have b9:∀(z:AV)(mu':Mu),True:=fun _ _=>trivial
   by_cases af:left.size<=1
   .obtain ⟨z,mu',a8,v,w',G',g1,g2,g3⟩:=key 0 w T rfl (Stp.refl s)
    refine⟨z,mu',a8,v,w',G',?_,g2,g3⟩;rw[<-g1];simp only[Instr.next,qQ,a3,qS,ah,R,Bool.false_eq_true,if_false,C,ai,aj,ay];simp[Question.forced,af,ae 0 T]
   .obtain ⟨z,mu',a8,v,w',G',g1,g2,g3⟩:=key (w.tape w.drawn (.mapNext left.size) % left.size) w.drew (Nat.mod_lt _ T) rfl (Stp.drew s)
    refine⟨z,mu',a8,v,w',G',?_,g2,g3⟩;rw[<-g1];simp only[Instr.next,qQ,a3,qS,ah,R,Bool.false_eq_true,if_false,C,ai,aj,ay];have b1:=Nat.mod_lt (w.tape w.drawn (.mapNext left.size)) T;simp[Question.forced,Question.cut,af,ae _ b1]
 .have a3:(getObj p).run P w = .ok (.mapIter none 0 #[] 0) w:=by simp[getObj,Sem.run,ho]
  refine⟨_,_,h2 (fun i hi=>by simp at hi),sY s (v := .tuple #[.bool false]) ?_ (tup1 (.sc _ rfl))⟩;simp[Instr.next,a3]
@[go_sem] def ZN(mu:Mu)(g:AV):Option AV:=
 match g with
 | .ptr b 0=>match mu[b]? with
  |some (.it J seen)=>match seen.getLast? with
   |some i=>(J[i]?).map fun e => .tup [e.1,e.2]
   |none=>none
  |_=>none
 |_=>none
theorem qhM(s:Sim G mu w.heap){T z vi}(ri:VRel G w.heap T vi)(h:ZN mu T=some z) :
  ∃ u,(Instr.entry vi).run P w = .ok u w/\VRel G w.heap z u:=by
 unfold ZN at h;split at h
 .rename_i b
  split at h
  .rename_i J seen hm
   split at h
   .rename_i i hi
    cases U:J[i]? with
    |none=>simp[U]at h
    |some x =>
     simp only[U,zh,qs]at h;subst h;cases ri with
     |ptr _ _ a0 a3 hb =>
     obtain⟨o,ho,t⟩:=s.obj b _ a0 a3 hm zSp hb;rcases t with ⟨m,a4,σ,τ,g,C,rm,a1,ab,a2,a5,rfl⟩|⟨rfl,rfl⟩
     .cases rm with
      |im _ _ ce clock p a6 a7 hk hv hd =>
      rw[a1]at p;obtain⟨rfl,rfl⟩:g=ce/\C=clock:=zUs p;have hn:g.size=J.length:=by rw[a7];exact a2.1
      obtain⟨q1,q2,q3,q4,q5⟩:=a2.2 i (ql.1 U).1;have I:a4[σ i]?=some x:=by rw[q5];exact U
      have l:(seen.map fun i=>(g.getD (σ i) default).born).toArray.back?=some ((g.getD (σ i) default).born):=zP1 hi;generalize (seen.map fun i=>(g.getD (σ i) default).born)=sn at ho l;generalize σ i=i at I l q1;have ad:(getObj a0).run P w = .ok (.mapIter (some m) C sn.toArray C) w:=by simp[getObj,Sem.run,ho]
      have ae:=wv (P:=P) a1;have R:i<g.size:=zOm;have a8:g.getD i default=g[i]:=by simp[qU,R]
      rw[a8]at l;have a9:g.find? (fun e=>e.born == g[i].born)=some g[i]:=by
       rw[Array.find?_eq_some_iff_getElem];refine⟨zSp,i,R,rfl,fun j hj=>?_⟩;have aa:j<g.size:=zOm;have:g[j].born≠g[i].born:=fun h=>by
        have:=hd.2 j i _ _ (zP1 aa) (zP1 R) h;omega
       simp[this]
      have r1:=hk i x I;have r2:=hv i x I;simp_all[Instr.entry,tup2]
     .simp at U
   grind
  grind
 grind
end
end Go.Ev
namespace Go.Ev
open Go Go.RowKit
section
variable {mu:Mu}{w:qe}
theorem qhN{P G}(s:Sim G mu w.heap){x v ys sz}(r:VRel G w.heap x v)(h:qA mu x=some ys)(hz:qV sz ys)(n)(hn:n<=ys.length) :
  ∃(news:List qf),news.length=n*sz/\(∀ u∈news,u.oneCell'=true)/\(∀(k) y,(ys.take n).flatten[k]?=some y->VRel G w.heap y (news.getD k z6)) /\
   (Builtin.lenOf v).run P w = .ok ys.length w/\(Builtin.firstCells sz n v).run P w = .ok news.toArray w:=by
 have l:qV sz (ys.take n):=fun r hr=>hz r (vZ hr)
 have a2:(ys.take n).flatten.length=n*sz:=by rw[yK l.ok];simp[Nat.min_eq_left hn]
 have o:∀(k:Nat) y,(ys.take n).flatten[k]?=some y->ys.flatten[k]?=some y:=by
  grind [List.flatten_append,uJ,qL,ql]
 have fin:∀(a:Addr)(cap:Nat)(rd:Nat->qf),(∀(k:Nat) y,ys.flatten[k]?=some y->w.cell? (a.add k)=some (rd k)/\VRel G w.heap y (rd k))->v = .slice (some a) ys.length cap ->
   ∃(news:List qf),news.length=n*sz/\(∀ u∈news,u.oneCell'=true)/\(∀(k:Nat) y,(ys.take n).flatten[k]?=some y->VRel G w.heap y (news.getD k z6)) /\
   (Builtin.lenOf v).run P w = .ok ys.length w/\(Builtin.firstCells sz n v).run P w = .ok news.toArray w:=by
  intro a cap rd R T;subst T;have t:∀ k,k<n*sz->∃ y,(ys.take n).flatten[k]?=some y:=fun k hk=>⟨(ys.take n).flatten[k]' zOm,zSp⟩
  refine⟨(qu (n*sz)).map rd,zSp,?_,?_,by simp[Builtin.lenOf],?_⟩
  .intro u hu
   obtain⟨k,hk,rfl⟩:=qp.1 hu;obtain⟨y,i⟩:=t k (zUs hk);exact(R k y (o k y i)).2.one (l.one y (q8 i))
  .grind
  grind [Builtin.firstCells,run_loadCells]
 unfold qA at h;split at h
 .rename_i full p
  simp only[qs]at h;subst h;cases r with
  |nil =>
   simp_all[List.length_nil,Nat.le_zero,Builtin.lenOf,Builtin.firstCells]
  |emp _ a cap U=>simp_all
  |lst _ _ g a cap cs e fr rd hb hs hl U hi a4 hr T =>
   exact fin a cap rd (fun k y i=>⟨by grind [ZJ],T k y i⟩) rfl
 .rename_i b g off len
  split at h
  .rename_i cells U
   split at h
   .rename_i a5
    simp only[qs]at h;cases r with
    |sl _ _ _ _ j a0 cap hb ht hl =>
    obtain⟨arr,e,h1,h2,h3,h4⟩:=s.arr b cells j a0 U hb;have C:ys.length=len:=by rw[<-h];simp
    subst C;by_cases h0:ys.length=0
    .simp_all
    .have I:g=sz:=by
      have J:0<ys.length:=zOm;have hm:(cells.drop (off+0*g)).take g∈ys:=by
       rw[<-h];exact qp.2 ⟨0,zUs J,rfl⟩
      have:=(hz _ hm).1;have a3:g<=ys.length*g:=Nat.le_mul_of_pos_left _ J;simp at this;omega
     subst I;have a1:ys.flatten=(cells.drop off).take (ys.length*g):=by
      grind [WJ,List.drop_drop]
     refine fin ⟨j,off,none⟩ cap (fun k=>arr.getD (off+k) z6) (fun k y i=>?_) rfl;rw[a1,vf]at i;split at i
     .rw [uK]at i
      refine⟨?_,(h4 _ y i).2⟩;rw[ZJ (a:=⟨j,off,none⟩) h1 rfl];have a6:off+k<cells.length:=(ql.1 i).1;have:off+k<arr.size:=zOm;simp[qU,this]
     grind
   grind
  grind
 grind
theorem sZ{G}(s:Sim G mu w.heap){b off g i cells xs arr e news}(C:mu[b]?=some (.arr cells))(I:G.blk[b]?=some (g,i))
  (J:w.heap[g]?=some (.cells arr e (0,0))) (U:arr.size=i) (h3:cells.length<=i) (h4:∀(j) x,cells[j]?=some x->x.one=true/\VRel G w.heap x (arr.getD j z6))
  (l:off+xs.length<=cells.length) (hn:news.length=xs.length) (p:∀ x,x∈xs->x.one=true) (hx:∀(k) x,xs[k]?=some x->VRel G w.heap x (news.getD k z6)) :
  Stp G mu w G (mu.set b (.arr (putCells cells off xs))) (w.setRow g (arr.toList.take off++news++arr.toList.drop (off+news.length)).toArray):=by
 refine sW s b (.arr cells) _ g i (.cells (arr.toList.take off++news++arr.toList.drop (off+news.length)).toArray e (0,0)) C zSp zSp I zSp (setRow_heap w g arr _ e _ J)
  (fun k P=>setRow_other w g k _ P) rfl rfl rfl ?_
 refine⟨_,e,rfl,zSo,by grind [jm],?_⟩;intro j y t;rw[jm _ _ _ l,zL]at t;rw[WI,zH,zL];have R:(arr.toList.take off).length=off:=zSo;have T:(cells.take off).length=off:=zSo;by_cases o:j<off
 .rw [zGa,vf,if_pos o]at t
  rw[zGa,vf,if_pos o,Jz,<-qU]
  grind
 grind [zZ,qL,q8,qU]
def delE(es:List (AV×AV)):Option Nat->List (AV×AV)
 |some i=>es.eraseIdx i
 |none=>es
inductive ExtB (P:qc) (mu:Mu):Builtin->Array qd->List AV->AV->Mu->Prop where
 |copy {t t' e:qd} {sz sz0 bt b off len:Nat} {cells:List AV} {ys:List (List AV)} {x:AV} (hs:qF P t=some (e,sz,bt)) (hc:mu[b]?=some (.arr cells)) (hl:off+len*sz<=cells.length)
   (hr:qA mu x=some ys) (hw:qV sz ys) :
   ExtB P mu .copy #[t,t'] [.sl b sz0 off len,x] (.sc (.int .i64 ((min ys.length len:Nat):Int))) (mu.set b (.arr (putCells cells off (ys.take len).flatten)))
 |clear {t e:qd} {sz bt b off len:Nat} {cells:List AV} {zv:AV} (hs:qF P t=some (e,sz,bt)) (hz:qB P e=some zv) (hz1:zv.cells.length=sz) (hz2:zv.cells.all AV.one=true) (hz0:sz≠0) (hc:mu[b]?=some (.arr cells)) (hl:off+len*sz<=cells.length) (hp:0<len) :
   ExtB P mu .clear #[t] [.sl b sz off len] (.tup []) (mu.set b (.arr (putCells cells off ((qu (len*sz)).map fun i=>zv.cells.getD (i % sz) .any))))
 |delete {t t' kt et:qd} {b:Nat} {es:List (AV×AV)} {k:AV} {r:Option Nat} (ht:mapT P t=some (kt,et)) (hc:mu[b]?=some (.mp es)) (hk:jw P kt k=true) (hf:zn P kt k es 0=some r) :
   ExtB P mu .delete #[t,t'] [.mp b,k] (.tup []) (mu.set b (.md (delE es r)))
theorem qhO{P G mu'}(s:Sim G mu w.heap){b a6 ty cs args g z}
  (hn:g.size=args.length) (hr:∀(k) x,args[k]?=some x->VRel G w.heap x (g.getD k z6)) (h:ExtB P mu b a6 args z mu') :
  ∃ u w',(builtin b a6 ty cs g).run P w = .ok (.value u) w'/\Stp G mu w G mu' w'/\VRel G w'.heap z u:=by
 cases h with
 | @copy t t' e sz b0 bt b off len cells j x hs T hl ah hw =>
  have r0:=hr 0 _ rfl;have r1:=hr 1 _ rfl;have C:g=#[g.getD 0 z6,g.getD 1 z6]:=by
   have h2:g.size=2:=zUs hn;apply Array.ext
   .simpa using h2
   .intro i hi ai
    have:i=0\/i=1:=zOm;rcases this with rfl|rfl<;>simp[qU,hi]
  generalize g.getD 0 z6=u0 at *
  generalize g.getD 1 z6=u1 at *
  subst C;obtain⟨aj,hu,a7,ak,al⟩:=uC hs;have b1:szOf P e=some sz:=by grind [szOf]
  obtain⟨o,a8,a2,a9,av,aw⟩:=qhN (P:=P) s r1 ah hw (min j.length len) (Nat.min_le_left _ _);have a3:j.take (min j.length len)=j.take len:=by
   rcases Nat.le_total j.length len with h|h
   .grind
   .rw [Nat.min_eq_right h]
  rw[a3]at a9;have aa:qV sz (j.take len):=fun r hr=>hw r (vZ hr)
  have ax:(j.take len).flatten.length=min j.length len*sz:=by
   rw[yK aa.ok,ub,Nat.min_comm]
  cases r0 with
  |sl _ _ _ _ I a0 cap hb ht an =>
   obtain⟨arr,el,h1,h2,h3,h4⟩:=s.arr b cells I a0 T hb;have b2:min j.length len*sz<=len*sz:=Nat.mul_le_mul_right _ (Nat.min_le_right _ _);have U:=sZ s (off:=off) (xs:=(j.take len).flatten) (news:=o) T hb h1 h2 h3 h4 zOm zOm aa.one a9;have R:=run_storeCells_at P I off el o 0 arr w h1 zOm a2;simp only[Nat.add_zero]at R;refine⟨_,_,?_,U,.sc _ rfl⟩;have ay:Nat.min j.length len=min j.length len:=rfl;simp only[builtin,Builtin.copy_,qQ,zJ,goInt];simp_all[Qb,Ye,vW,run_underlying,jz]
 | @clear t e sz bt b off len cells zv hs hz ao b3 b4 T hl hp =>
  have r0:=hr 0 _ rfl;have C:g=#[g.getD 0 z6]:=by
   have h2:g.size=1:=zUs hn;apply Array.ext
   .simpa using h2
   simp_all
  generalize g.getD 0 z6=u0 at *
  subst C;obtain⟨aj,hu,a7,ak,al⟩:=uC hs;obtain⟨z,b5,rfl⟩:=ZI hz w;have ab:∀ c,c∈(ofV z).cells->c.one=true:=fun c T=>by grind
  obtain⟨c1,c2,c3⟩:=(VRel.ofV (G:=G) (h:=w.heap) z).cells ab;have aq:z.cells.size=sz:=by rw[c1,ao]
  have a8:(ja z.cells len).toList.length=len*sz:=by simp[ja,aq]
  have az:∀ i:Nat,i % sz<sz:=fun i=>Nat.mod_lt i zOm
  have ad:∀ i,i<len*sz->(ja z.cells len).toList.getD i z6=z.cells.getD (i % sz) z6:=by
   simp_all[ja,zH,qU,getElem!_pos,Qc]
  cases r0 with
  |sl _ _ _ _ I a0 cap hb ht an =>
   obtain⟨arr,el,h1,h2,h3,h4⟩:=s.arr b cells I a0 T hb;have a2:∀ v,v∈(ja z.cells len).toList->v.oneCell'=true:=by
    intro v hv;obtain⟨i,hi⟩:=List.mem_iff_getElem?.1 hv;have ar:i<len*sz:=by grind
    have:=ad i ar;rw[zH,hi]at this;simp only[Option.getD_some]at this;simp_all
   have b6:∀(k:Nat) x,((qu (len*sz)).map fun i=>(ofV z).cells.getD (i % sz) .any)[k]?=some x->k<len*sz/\(ofV z).cells[k % sz]?=some x:=by
    grind
   have U:=sZ s (off:=off) (xs:=(qu (len*sz)).map fun i=>(ofV z).cells.getD (i % sz) .any) (news:=(ja z.cells len).toList) T hb h1 h2 h3 h4 (zUs hl) (by rw[a8];simp)
    (fun x hx=>by
     grind)
    (fun k x hx=>by
     grind)
   have R:=run_storeCells_at P I off el (ja z.cells len).toList 0 arr w h1 zOm a2;simp only[Nat.add_zero]at R;refine⟨_,_,?_,U,.tup [] #[] rfl zSp⟩;obtain⟨l,rfl⟩:∃ l,len=l+1:=⟨len-1,zOm⟩;simp_all[builtin,Builtin.clear_,qQ,Qb,Ye,run_underlying]
 | @delete t t' kt et b J k r ht T ae hf =>
  have r0:=hr 0 _ rfl;have r1:=hr 1 _ rfl;have C:g=#[g.getD 0 z6,g.getD 1 z6]:=by
   have h2:g.size=2:=zUs hn;apply Array.ext
   .simpa using h2
   .intro i hi ai
    have:i=0\/i=1:=zOm;rcases this with rfl|rfl<;>simp[qU,hi]
  generalize g.getD 0 z6=u0 at *
  generalize g.getD 1 z6=u1 at *
  subst C;have hu:=ZM ht;obtain⟨mb,a0,ce,rfl,hb,hh,a4,a5⟩:=V4 s r0 T;have af:(Instr.checkKey ce.isEmpty 10000 kt u1).run P w = .ok () w:=JH _ r1 ae;have hg:=wv (P:=P) hh;obtain⟨a1,au⟩:=Zd r1 ae a4 hf;have ag:vj ce ce.size := .of rfl a5;cases r with
  |none =>
   refine⟨_,_,?_,sQ s T zSp hb hh a4 ag,.tup [] #[] rfl zSp⟩;simp only[Option.map_none]at a1;simp[builtin,Builtin.delete_,run_underlying hu,hg,af,a1,Qf hh]
  |some i =>
   refine⟨_,_,?_,sQ s T zSp hb hh (qhG a4 (au i rfl)) (qhF ag i),.tup [] #[] rfl zSp⟩;simp only[zh]at a1;simp[builtin,Builtin.delete_,run_underlying hu,hg,af,a1,Qf hh]
end
end Go.Ev
namespace Go.Ev
open Go Go.RowKit
section
variable {P:qc}
theorem gh{g k x}:∀{es i r},zn P g k es i=some r->(r.isSome=true->zn P g k (es++[x]) i=some r)/\(r=none->zn P g k (es++[x]) i=zn P g k [x] (i+es.length))
 | [],i,r,h=>by
  grind [zn]
 |e :: es,i,r,h=>by
  unfold zn at h;split at h
  .rename_i j
   simp only[qs]at h;subst h;refine⟨fun _=>?_,fun h=>absurd h zSp⟩;rw[yq,zn,j]
  .rename_i j
   obtain⟨o,p⟩:=gh (x:=x) h;refine⟨fun l=>?_,fun l=>?_⟩
   .rw [yq,zn,j];exact o l
   .rw [yq,zn,j]
    simp only;rw[p l,yy];congr 1;omega
  .exact absurd h zSp
theorem gk{mu mu' t m k z l I v}(h:Ym P mu t m k=some (z,mu'))(j:jx P mu t l I false=some v):jx P mu' t l I false=some v:=by
 unfold Ym at h;split at h
 .rename_i b kt et ht
  split at h
  .rename_i J hm
   split at h
   .rename_i R
    split at h
    ·
     rename_i i hf;obtain⟨_,e,he,T⟩:=JI hf;simp only[Nat.sub_zero]at he;simp only[he,zh,qs,wo]at h;have e1:J.set i (k,e.2)=J:=by
      rw[T];apply vg
      grind
     rw[e1]at h;have e2:mu.set b (.mp J)=mu:=by
      apply vg
      grind
     grind
    .rename_i hf
     cases U:qB P et with
     |none=>simp[U]at h
     |some C =>
      simp only[U,zh,qs,wo]at h;obtain⟨_,rfl⟩:=h;have a0:b<mu.length:=(ql.1 hm).1;unfold jx at j⊢;rw[ht]at j⊢
      have key:jW (mu.set b (.mp (J++[(k,C)]))) l=jW mu l\/(jW mu l=some J/\jW (mu.set b (.mp (J++[(k,C)]))) l=some (J++[(k,C)])):=by
       unfold jW;split
       .exact .inl rfl
       .rename_i b'
        by_cases o:b=b'
        .grind
        grind
       .exact .inl rfl
       .exact .inl rfl
      rcases key with key|⟨k1,k2⟩
      .grind
      .rw [k1]at j
       rw[k2];simp only at j⊢;split at j
       .rename_i g
        rw[if_pos g];cases p:zn P kt I J 0 with
        |none=>grind
        |some r =>
         rw[p]at j;obtain⟨a1,a2⟩:=gh (x:=(k,C)) p;cases r with
         |some i =>
          rw[a1 rfl]
          grind
         |none =>
          rw[a2 rfl];simp only[U,zh]at j;obtain⟨bb,o⟩:=p6 g R;rw[zn,o];cases bb with
          |true =>
           grind
          |false =>
           grind [zn]
       grind
    grind
   grind
  grind
 grind
theorem qhP{mu mu' t m k z i j v}(h:Ym P mu t m k=some (z,mu'))(g:yL P mu t i j false=some v):yL P mu' t i j false=some v:=by
 cases i with
 |ims J =>
  simp only[yL]at g⊢;cases l:mapT P t with
  |none=>grind
  |some q =>
   rw[l]at g;simp only at g⊢;split at g
   .rename_i o
    rw[if_pos o];exact gk h g
   grind
 |_=>exact gk h g
end
end Go.Ev
namespace Go.Ev
open Go Go.RowKit
section
variable {x:AV}{K:AV->Prop}{h:Array Obj}{g:Array qf}{G:Gh}{xs:List (List AV)}{mu:Mu}{P:qc}{t:qd}{w:qe}
@[go_sem] def Qg(P:qc)(op:BinOp)(t:qd)(x y:AV):Option AV:=
 match x,y with
 | .agg p,.agg j=>match WC P t with
  |some n=>if p.length=n then (match op with
   | .eql=>(aEqs p j).map fun b => .sc (.bool b)
   | .neq=>(aEqs p j).map fun b => .sc (.bool !b)
   |_=>none) else none
  |none=>none
 |x,y=>aBin P op t x y
theorem qhQ{n}(h:WC P t=some n):P.eqGuardType P.depth t=false/\((∃ e q,P.underlying t=some (.array n e)/\P.underlying e=some (.int q)/\szOf P e=some 1) \/
  ∃ fs,P.underlying t=some (.struct fs)/\Yh P fs.toList 0=true/\P.stoodInHeld t=false/\fs.size=n):=by
 unfold WC at h;split at h
 .grind
 .grind
 grind
theorem qhR{op y z ox oy u v}(o:VRel G w.heap x u)(C:VRel G w.heap y v)(h:Qg P op t x y=some z) :
    ∃ r,(do eqGuard op t ox oy u v;binOp op t u v:Sem qf).run P w = .ok r w/\VRel G w.heap z r:=by
  unfold Qg at h;split at h
  · rename_i p j
    split at h
    · rename_i n I
      obtain⟨hg,I⟩:=qhQ I;split at h
      · rename_i hl
        have g:=o;have i:=C;cases o with
        |agg _ J hn hv =>
        cases C with
        |agg _ R hm hw =>
        have T:(eqGuard op t ox oy (.agg J) (.agg R)).run P w = .ok () w:=run_eqGuard_agg w op t ox oy J R hg;simp only[qQ,T,qS];have heq:∀ b,aEqs p j=some b->(Op.equal t (.agg J) (.agg R)).run P w = .ok b w:=fun b l=>by
          rcases I with ⟨e,q,U,he,hs⟩|⟨fs,U,hf,hp,a0⟩
          · exact pW (G:=G) 9998 U he hs hl g i l
          · exact qg0 (G:=G) 9998 U hf hp zOm g i l
        cases op<;>simp only at h<;>first
          | (simp at h;done)
          | (cases l:aEqs p j with
             |none=>simp[l]at h
             |some b =>
               simp only[l,zh,qs]at h;subst h;refine⟨_,?_,.sc _ rfl⟩;simp_all[binOp])
      grind
    grind
  · exact qgF o C h
def wA:qh->Bool
 | .const (.slice none 0 0)=>true
 |_=>false
def jX(P:qc)(det:Bool)(op:BinOp)(t:qd)(x:AV)(K:AV->Prop):Prop:=
 (qF P t).isSome=true/\(op = .eql\/op = .neq) /\
 match x with
 | .lst _ []=>det=false/\K (.sc (.bool true))/\K (.sc (.bool false))
 | .lst _ (_ :: _) | .sl .. => K (.sc (.bool (decide (op = .neq))))
 |_=>False
theorem qhS(d){t e}(g:P.underlying t=some (.slice e))(b len cap) :
  (Op.equalIn (d+1) t (.slice b len cap) (.slice none 0 0)).run P w = .ok b.isNone w:=by
 cases b<;>simp[Op.equalIn,run_underlying g]
theorem jX.sound{det op ox oy u}(C:VRel G w.heap x u)(h:jX P det op t x K) :
  ∃ z r,K z/\(do eqGuard op t ox oy u (.slice none 0 0);binOp op t u (.slice none 0 0):Sem qf).run P w = .ok r w/\VRel G w.heap z r:=by
 obtain⟨hs,I,h⟩:=h;obtain⟨e,J⟩:∃ e,P.underlying t=some (.slice e):=by
  grind [qF,uC]
 have key:∀(b:Option Addr)(len cap:Nat),u = .slice b len cap->(do eqGuard op t ox oy u (.slice none 0 0);binOp op t u (.slice none 0 0):Sem qf).run P w = .ok (.bool (if op = .neq then b.isSome else b.isNone)) w:=by
  intro b len cap i;subst i;have R:(eqGuard op t ox oy (.slice b len cap) (.slice none 0 0)).run P w = .ok () w:=by
   simp_all[eqGuard]
  have T:(Op.equal t (.slice b len cap) (.slice none 0 0)).run P w = .ok b.isNone w:=qhS 9999 J b len cap;rcases I with rfl|rfl
  .simp [R,binOp,T]
  simp_all[binOp]
 have fin:∀(b:Bool),K (.sc (.bool b))->∀(c:Option Addr)(len cap:Nat),u = .slice c len cap->(if op = .neq then c.isSome else c.isNone)=b ->
   ∃ z r,K z/\(do eqGuard op t ox oy u (.slice none 0 0);binOp op t u (.slice none 0 0):Sem qf).run P w = .ok r w/\VRel G w.heap z r:=
  fun b U c len cap i e2=>⟨_,_,U,key c len cap i,by rw[e2];exact .sc _ rfl⟩
 cases C with
 |nil full =>
  obtain⟨_,l,o⟩:=h;by_cases g:op = .neq
  .grind
  grind
 |emp full a cap hc =>
  obtain⟨_,l,o⟩:=h;by_cases g:op = .neq
  .grind
  grind
 |lst full p sz a cap cs e' fr rd hb a0 hl hc hi hz hr hv =>
  cases p with
  |nil =>
   obtain⟨_,l,o⟩:=h;by_cases g:op = .neq
   .grind
   grind
  |cons y j =>
   refine fin _ h (some a) _ cap rfl ?_;by_cases g:op = .neq
   .simp
   simp
 |sl b sz off len a1 a2 cap hb ht hl =>
  refine fin _ h (some _) _ cap rfl ?_;by_cases g:op = .neq
  .simp
  simp
 |_=>exact h.elim
theorem jX.det{op}(h:jX P true op t x K):∃ z,K z/\∀ g,g z->jX P true op t x g:=by
 obtain⟨j,i,h⟩:=h;unfold jX;split at h
 .grind
 .grind
 .grind
 grind
theorem jX.mono{det op i}(h:jX P det op t x K)(j:∀ z,K z->i z):jX P det op t x i:=by
 obtain⟨l,g,h⟩:=h;unfold jX;refine⟨l,g,?_⟩;split at h
 .grind
 .exact j _ h
 .exact j _ h
 omega
theorem qhT{y}(h:wA y=true):y = .const (.slice none 0 0):=by
 grind [wA,absurd]
def WK(x y:AV):Prop:=∀(G:Gh)(h:Array Obj)(v:qf),VRel G h x v->VRel ⟨G.imm,[]⟩ h y v
theorem WK.hf(h:HF x):WK x x:=h
theorem VRel.ro{full v}(r:VRel G h (.lst full xs) v):VRel G h (.lst false xs) v:=by
 cases r with
 |nil=>exact .nil _
 |emp _ a cap g=>exact .emp _ a cap zSp
 |lst _ _ sz a cap i e j rd l o p g t C I J=>exact .lst _ _ sz a cap i e j rd l o p zSp t C I J
theorem WK.lst{full}(h:∀ r,r∈xs->∀ c,c∈r->HF c):WK (.lst full xs) (.lst false xs):=fun G g v r=>VRel.ro (HF.lst h G g v r)
theorem WK.agg{xs ys}(o:ys.length=xs.length)(h:∀(k:Nat) x y,xs[k]?=some x->ys[k]?=some y->WK x y):WK (.agg xs) (.agg ys):=fun G j v r=>by
 cases r with
 |agg _ p t l =>
  refine .agg _ _ zOm (fun k y g=>?_);have C:k<ys.length:=(ql.1 g).1;have i:xs[k]?=some (xs[k]' zOm):=by grind
  exact h k _ y i g G j _ (l k _ i)
def WKs:List AV->List AV->Prop
 | [],[]=>True
 |x :: p,y :: j=>WK x y/\WKs p j
 |_,_=>False
theorem WKs.get:∀{xs ys},WKs xs ys->ys.length=xs.length/\∀(k:Nat) x y,xs[k]?=some x->ys[k]?=some y->WK x y
 | [],[],_=>⟨rfl,zSp⟩
 |x :: xs,y :: ys,⟨h,t⟩=>by
  obtain⟨j,l⟩:=WKs.get t;refine⟨zP1 j,fun k a b g i=>?_⟩;cases k with
  |zero=>simp at g i;subst g;subst i;exact h
  |succ k=>exact l k a b (zUs g) (zUs i)
 | [],_ :: _,h=>h.elim
 |_ :: _,[],h=>h.elim
theorem WK.aggs{xs ys}(h:WKs xs ys):WK (.agg xs) (.agg ys) := .agg h.get.1 h.get.2
def Rds(mu:Mu):List AV->List AV->Prop
 | [],[]=>True
 |x :: p,y :: j=>Rd mu x y/\Rds mu p j
 |_,_=>False
theorem Rds.get:∀{xs ys},Rds mu xs ys->ys.length=xs.length/\∀(k:Nat) x y,xs[k]?=some x->ys[k]?=some y->Rd mu x y
 | [],[],_=>⟨rfl,zSp⟩
 |x :: xs,y :: ys,⟨h,t⟩=>by
  obtain⟨j,l⟩:=Rds.get t;refine⟨zP1 j,fun k a b g i=>?_⟩;cases k with
  |zero=>simp at g i;subst g;subst i;exact h
  |succ k=>exact l k a b (zUs g) (zUs i)
 | [],_ :: _,h=>h.elim
 |_ :: _,[],h=>h.elim
def MuLe(mu mu':Mu):Prop:=∀(b:Nat) c,mu[b]?=some c->mu'[b]?=some c
theorem MuLe.push(mu c):MuLe mu (mu++[c]):=fun b x h=>by grind
theorem MuLe.refl(mu):MuLe mu mu:=fun _ _ h=>h
theorem MuLe.trans{a b c}(g:MuLe a b)(j:MuLe b c):MuLe a c:=fun i x h=>j i x (g i x h)
def JK(P:qc)(mu:Mu)(f:AV)(args:List AV)(v:AV):Prop:=
 (∃ g first j i,f = .fn (.func g) first j/\qj P g i v/\(WKs (first++args++j) i\/(Rds mu (first++args++j) i/\FL v))) \/
 ∃ g first j i,f = .fn (.func g) first j/\wu P g i v/\Rds mu (first++args++j) i
def V6(P:qc)(i:Nat)(args:List AV)(mu:Mu)(R:Bool->Mu->Prop):Prop:=
 ∀(G:Gh)(w:qe)(t:Array qf),Sim G mu w.heap->zX G w.heap args t->∀(l p:Nat),G.blk[i]?=some (l,p) ->
  ∃ fn g assign j,(Instr.yield l t).run P w = .ok (.round l fn g assign j) w /\
   RoundIn Fence.wide 0 P l fn g assign j w fun e C=>∃ b I o,e = .returned (.bool b)/\Stp G mu w I o C/\R b o
def qi(P:qc)(det:Bool)(mu:Mu)(f:AV)(args:List AV)(K o:AV->Mu->Prop):Prop:=
 (∃ v,JK P mu f args v/\K v mu) \/
 (det=false/\((∃ g first l R,f = .fn (.func g) first l/\qC P g (first++args++l) mu R/\(∀ r j,R (.ret r) j->K r j)/\(∀ r j,R (.pan r) j->o r j)) \/
  ∃ i R,f = .yl i/\V6 P i args mu R/\∀ b j,R b j->K (.sc (.bool b)) j))
def OptK{C:Type}(o:Option C)(k:C->Prop):Prop:=∃ v,o=some v/\k v
@[go_sem] def lenA(P:qc)(mu:Mu)(t:qd):AV->Option AV
 | .lst _ p=>if (qF P t).isSome then some (.sc (.int .i64 p.length)) else none
 | .sl _ _ _ len=>if (qF P t).isSome then some (.sc (.int .i64 len)) else none
 | .sc (.string s)=>match P.underlying t with|some .string=>some (.sc (.int .i64 s.size))|_=>none
 | .im J=>match P.underlying t with|some (.map _ _)=>some (.sc (.int .i64 J.length))|_=>none
 | .ims J=>match P.underlying t with|some (.map _ _)=>some (.sc (.int .i64 J.length))|_=>none
 | .mp b=>match P.underlying t,mu[b]? with|some (.map _ _),some (.mp J)=>some (.sc (.int .i64 J.length))|_,_=>none
 |_=>none
@[go_sem] def minA:AV->AV->Option AV
 | .sc (.int k x),.sc (.int _ y)=>some (.sc (.int k (if y<x then y else x)))
 |_,_=>none
@[go_sem] def maxA:AV->AV->Option AV
 | .sc (.int k x),.sc (.int _ y)=>some (.sc (.int k (if y > x then y else x)))
 |_,_=>none
@[go_sem] def uO(P:qc)(mu:Mu)(b:Builtin)(g:Array qd)(args:List AV):Option AV:=
 match b,args,g[0]? with
 | .len,[x],some t=>lenA P mu t x
 | .cap,[.lst true p],some t=>if (qF P t).isSome then some (.sc (.int .i64 p.length)) else none
 | .min,[x,y],_=>minA x y
 | .max,[x,y],_=>maxA x y
 |_,_,_=>none
theorem WW(h:(qF P t).isSome=true):∃ e,P.underlying t=some (.slice e):=by
 grind [qF,uC]
theorem zX.one_inv(r:zX G h [x] g):∃ v,g=#[v]/\VRel G h x v:=by
 obtain⟨j,l⟩:=r;have:=l 0 x rfl;refine⟨g.getD 0 z6,?_,this⟩;have i:g.size=1:=zUs j;apply Array.ext
 .simpa using i
 simp_all
theorem zX.two_inv{y}(r:zX G h [x,y] g):∃ u v,g=#[u,v]/\VRel G h x u/\VRel G h y v:=by
 obtain⟨o,l⟩:=r;have a:=l 0 x rfl;have b:=l 1 y rfl;refine⟨g.getD 0 z6,g.getD 1 z6,?_,a,b⟩;have j:g.size=2:=zUs o;apply Array.ext
 .simpa using j
 .intro i p t
  have:i=0\/i=1:=zOm;rcases this with rfl|rfl<;>simp[qU,p]
theorem qhU(s:Sim G mu w.heap){t ty x z v}(r:VRel G w.heap x v)(h:lenA P mu t x=some z)(j)(o:j[0]?=some t) :
  ∃ u,(Builtin.len_ j ty #[v]).run P w = .ok u w/\VRel G w.heap z u:=by
 unfold lenA at h;split at h
 .split at h
  .rename_i p
   simp only[qs]at h;subst h;obtain⟨e,i⟩:=WW p;obtain⟨a,cap,rfl,_⟩:=r.lst_inv;exact⟨_,by simp[Builtin.len_,o,run_underlying i,goInt],.sc _ rfl⟩
  grind
 .split at h
  .rename_i p
   simp only[qs]at h;subst h;obtain⟨e,i⟩:=WW p;cases r;exact⟨_,by simp[Builtin.len_,o,run_underlying i,goInt],.sc _ rfl⟩
  grind
 .split at h
  .rename_i i
   simp only[qs]at h;subst h;cases r;exact⟨_,by simp[Builtin.len_,o,run_underlying i,goInt],.sc _ rfl⟩
  grind
 .split at h
  .rename_i i
   simp only[qs]at h;subst h;cases r with
   |im _ g ce clock l T R U hv hd =>
   have C:(getObj g).run P w = .ok (.map ce clock) w:=by simp[getObj,Sem.run,l]
   exact⟨_,by simp_all[Builtin.len_,run_underlying,goInt],.sc _ rfl⟩
  grind
 .split at h
  .rename_i i
   simp only[qs]at h;subst h;cases r with
   |ims _ a0 σ τ _ hp hd r =>
   cases r with
   |im _ g ce clock l T R U hv a1 =>
   have C:(getObj g).run P w = .ok (.map ce clock) w:=by simp[getObj,Sem.run,l]
   exact⟨_,by simp[Builtin.len_,o,run_underlying i,goInt,C,R,hp.1],.sc _ rfl⟩
  grind
 .split at h
  .rename_i J i hm
   simp only[qs]at h;subst h;cases r with
   |mp _ g I l =>
   obtain⟨ce,cl,h1,h2,_⟩:=s.mp _ J g I hm l;have C:(getObj g).run P w = .ok (.map ce cl) w:=by simp[getObj,Sem.run,h1]
   exact⟨_,by simp_all[Builtin.len_,run_underlying,goInt],.sc _ rfl⟩
  grind
 grind
theorem qhV(s:Sim G mu w.heap){b g ty cs args o z}(r:zX G w.heap args o)
  (h:uO P mu b g args=some z):∃ u,(builtin b g ty cs o).run P w = .ok (.value u) w/\VRel G w.heap z u:=by
 unfold uO at h;split at h
 .rename_i j
  obtain⟨v,rfl,i⟩:=r.one_inv;obtain⟨u,I,J⟩:=qhU s i h g j (ty:=ty);simp_all[builtin]
 .rename_i j
  obtain⟨v,rfl,i⟩:=r.one_inv;split at h
  .rename_i p
   simp only[qs]at h;subst h;obtain⟨e,t⟩:=WW p;obtain⟨a,cap,rfl,_,C,_⟩:=i.lst_inv;have:=C rfl;subst this;exact⟨_,by simp[builtin,Builtin.cap_,j,run_underlying t,goInt],.sc _ rfl⟩
  grind
 .obtain ⟨u,v,rfl,l,i⟩:=r.two_inv
  unfold minA at h;split at h
  .simp only[qs]at h;subst h
   cases l;cases i;exact⟨_,by simp[builtin,Builtin.min_,Builtin.min2],.sc _ rfl⟩
  grind
 .obtain ⟨u,v,rfl,l,i⟩:=r.two_inv
  unfold maxA at h;split at h
  .simp only[qs]at h;subst h
   cases l;cases i;exact⟨_,by simp[builtin,Builtin.max_,Builtin.max2],.sc _ rfl⟩
  grind
 grind
end
end Go.Ev
