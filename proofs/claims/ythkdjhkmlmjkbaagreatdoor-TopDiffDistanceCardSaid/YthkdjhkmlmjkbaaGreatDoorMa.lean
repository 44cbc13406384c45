/-
  Own library, part 1: an abstract reading of values and a calculus over it; contracts of functions; plain lemmas.
-/
import GoSem.Claim
import Derived.WalkKit
import Derived.Laws.AppendOwn
import Derived.Laws.CopyRow
import Derived.Below
import Derived.RangeFuncRecord
import Derived.Laws.BytesString
import Derived.IntWalk
import Derived.Lib.AppendZerosOnto
set_option linter.unusedVariables false
set_option linter.unusedSimpArgs false
set_option maxRecDepth 100000
open Go renaming Value->qg,World->qf,TypeId->qd,MapEntry->uk,undef->j2,Program->qb,Operand->zA,FuncId->j1
open List renaming getElem?_eq_some_iff->qi,mem_cons->ql,mem_map->qp,range->qq,getElem?_eq_getElem->qx,length_append->qW,all_eq_true->q8,getElem?_append_left->ze,getD_eq_getElem?_getD->zf,mem_of_getElem?->zh,getElem?_map->zj,append_assoc->zm,replicate->zo,length_cons->zC,map_append->zF,getElem?_append_right->zK,ext_getElem?->zZ,length_map->yi,getElem?_take->yG,cons_append->yU,mem_of_mem_take->ja,getElem?_cons_succ->jW,getElem?_drop->jX,eq_nil_of_length_eq_zero->jY,getElem?_toArray->vt,take_append_drop->un,flatten_cons->uY,length_take->uZ,getElem?_cons_zero->YT,mem_flatten->V5
open Option.some renaming injEq->qo
open Nat renaming le_refl->qs,le_trans->zS
open Bool renaming and_eq_true->qu
open Go.IntKind renaming i64->qw
open Go.Sem renaming run_bind->qE,run_pure->zg
open Go.Result renaming andThen_ok->qH
open Array renaming getD_eq_getD_getElem?->qK,getElem?_eq_some_iff->zU,getElem?_toList->uo,getElem?_eq_getElem->X2
open Option renaming map_some->qZ,map_eq_some_iff->yA
open Go.Builtin renaming zeroCells->zp
open Prod.mk renaming injEq->vu
namespace Go
abbrev cL:=ByteArray
section
variable {a b p:Prop}
theorem zOm(h:p:=by omega):p:=h
theorem zSi(h:p:=by simp[go_sem]):p:=h
theorem zS1(x:a)(h:a->p:=by intro x;simp[go_sem,x]):p:=h x
theorem zS2(x:a)(y:b)(h:a->b->p:=by intro x y;simp[go_sem,x,y]):p:=h x y
theorem zS3{c:Prop}(x:a)(y:b)(z:c)(h:a->b->c->p:=by intro x y z;simp[go_sem,x,y,z]):p:=h x y z
theorem zKr(h:p:=by kernel_rfl):p:=h
theorem zSp(h:p:=by simp):p:=h
theorem zP1(x:a)(h:a->p:=by intro x;simp[x]):p:=h x
theorem zSo(h:p:=by simp;omega):p:=h
theorem zUs(x:a)(h:a->p:=by intro x;simpa using x):p:=h x
theorem zVs(x:a)(h:a->p:=by intro x;simpa[go_sem] using x):p:=h x
theorem zW1(x:a)(h:a->p:=by intro x;omega):p:=h x
theorem zW2(x:a)(y:b)(h:a->b->p:=by intro x y;omega):p:=h x y
theorem zDe(h:p:=by decide):p:=h
theorem zIn{c}[Decidable c]{C}{a b:C}(h:¬c:=by omega):(if c then a else b)=b:=if_neg h
theorem zGl{C}{l:List C}{i j a}(h:i≠j:=by omega):(l.set i a)[j]?=l[j]?:=List.getElem?_set_ne h
theorem zGa{C}{l m:List C}{i}(h:i<l.length:=by omega):(l++m)[i]?=l[i]?:=ze h
end
end Go
namespace Go.Ev
open Go
def tabs:List (Nat×List qg):=[(0,[.int .u64 1,.int .u64 10,.int .u64 100,.int .u64 1000,.int .u64 10000,.int .u64 100000,.int .u64 1000000,.int .u64 10000000,.int .u64 100000000,.int .u64 1000000000,.int .u64 10000000000,.int .u64 100000000000,.int .u64 1000000000000,.int .u64 10000000000000,.int .u64 100000000000000,.int .u64 1000000000000000,.int .u64 10000000000000000,.int .u64 100000000000000000,.int .u64 1000000000000000000,.int .u64 10000000000000000000])]
end Go.Ev
namespace Go.Ev
open Go
section
variable {C:Type}{h h':Array Obj}{w:qf}
inductive AV where
 |any
 |sc (v:qg)
 |lst (full:Bool) (xs:List (List AV))
 |sl (b sz off len:Nat)
 |agg (cs:List AV)
 |tup (vs:List AV)
 |ip (cs:List AV)
 |ptr (b off:Nat)
 |mp (b:Nat)
 |im (es:List (AV×AV))
 |ims (es:List (AV×AV))
 |fn (f:Fn) (first caps:List AV)
 |ifc (t:qd) (v:AV)
 |yl (b:Nat)
 deriving Inhabited
def X3:qg->Bool
 | .bool _ | .int _ _ | .float _ _ | .complex _ _ _ | .string _ | .pointer none | .map none | .chan none | .nilFunc | .nilIface=>true
 | .tuple ⟨[]⟩=>true
 |_=>false
def ofC:qg->AV
 | .slice none 0 0 => .lst true []
 | .func f ⟨[]⟩ ⟨[]⟩ => .fn f [] []
 |v=>if X3 v then .sc v else .any
def ofV:qg->AV
 | .agg g => .agg (g.toList.map ofC)
 |v=>ofC v
def AV.cells:AV->List AV
 | .agg g=>g
 |v=>[v]
def AV.one:AV->Bool
 | .any | .agg _ | .tup _=>false
 | .sc v=>v.oneCell'
 |_=>true
structure Gh where
 imm:Nat->Prop
 blk:List (Nat×Nat)
variable {G G':Gh}
structure Gh.le (G G':Gh):Prop where
 imm:∀ b,G.imm b->G'.imm b
 blk:∀(i:Nat)(x:Nat×Nat),G.blk[i]?=some x->G'.blk[i]?=some x
theorem Gh.le.refl(G:Gh):G.le G:=⟨fun _ h=>h,fun _ _ h=>h⟩
theorem Gh.le.trans{A B C:Gh}(h:A.le B)(k:B.le C):A.le C:=⟨fun b x=>k.imm b (h.imm b x),fun i x y=>k.blk i x (h.blk i x y)⟩
structure Ext (G:Gh) (h h':Array Obj):Prop where
 size:h.size<=h'.size
 keep:∀ b,G.imm b->h'[b]?=h[b]?
theorem Ext.refl(G h):Ext G h h:=⟨qs _,fun _ _=>rfl⟩
def PIx(i j:Nat->Nat)(es g:List C):Prop:=g.length=es.length/\∀ k,k<es.length->i k<es.length/\j k<es.length/\j (i k)=k/\i (j k)=k/\g[i k]?=es[k]?
theorem PIx.refl(es:List C):PIx id id es es:=⟨rfl,fun k h=>⟨h,h,rfl,rfl,rfl⟩⟩
theorem PIx.back{l i}{es g:List C}(p:PIx l i es g){j}(h:j<es.length):g[j]?=es[i j]?:=by
 obtain⟨r,o,t,I,J⟩:=p.2 j h;have:=(p.2 (i j) o).2.2.2.2
 grind
def jj(ce:Array uk)(clock:Nat):Prop:=(∀(k:Nat)(e:uk),ce[k]?=some e->e.born<clock)/\∀(j k:Nat)(e f:uk),ce[j]?=some e->ce[k]?=some f->e.born=f.born->j=k
theorem jj.of{ce clock}(p:clock=ce.size)(g:∀(k) (e:uk),ce[k]?=some e->e.born=k):jj ce clock:=
 ⟨fun k e h=>by grind,fun j k e f i l o=>by rw[<-g j e i,<-g k f l,o]⟩
inductive VRel (G:Gh) (h:Array Obj):AV->qg->Prop
 |any (v:qg):VRel G h .any v
 |sc (v:qg) (hv:X3 v=true):VRel G h (.sc v) v
 |nil (full:Bool):VRel G h (.lst full []) (.slice none 0 0)
 |emp (full:Bool) (a:Addr) (cap:Nat) (hc:full=true->cap=0):VRel G h (.lst full []) (.slice (some a) 0 cap)
 |lst (full:Bool) (xs:List (List AV)) (sz:Nat) (a:Addr) (cap:Nat) (cs:Array qg) (e:qd) (fr:Nat×Nat) (rd:Nat->qg)
   (hb:h[a.block]?=some (.cells cs e fr)) (hs:a.spot=none) (hl:xs.length<=cap) (hc:full=true->cap=xs.length) (hi:G.imm a.block)
   (hz:∀ r,r∈xs->r.length=sz)
   (hr:∀(k:Nat) x,xs.flatten[k]?=some x->cs[a.off+k]?=some (rd k))
   (hv:∀(k:Nat) x,xs.flatten[k]?=some x->VRel G h x (rd k)):VRel G h (.lst full xs) (.slice (some a) xs.length cap)
 |sl (b sz off len blk tot cap:Nat) (hb:G.blk[b]?=some (blk,tot)) (ht:off+cap*sz<=tot) (hl:len<=cap) :
   VRel G h (.sl b sz off len) (.slice (some ⟨blk,off,none⟩) len cap)
 |agg (cs:List AV) (vs:Array qg) (hn:vs.size=cs.length) (hv:∀(k:Nat) x,cs[k]?=some x->VRel G h x (vs.getD k j2)):VRel G h (.agg cs) (.agg vs)
 |tup (cs:List AV) (vs:Array qg) (hn:vs.size=cs.length) (hv:∀(k:Nat) x,cs[k]?=some x->VRel G h x (vs.getD k j2)):VRel G h (.tup cs) (.tuple vs)
 |ip (cs:List AV) (a:Addr) (arr:Array qg) (e:qd) (fr:Nat×Nat) (rd:Nat->qg)
   (hb:h[a.block]?=some (.cells arr e fr)) (hs:a.spot=none) (hi:G.imm a.block)
   (hr:∀(k:Nat) x,cs[k]?=some x->arr[a.off+k]?=some (rd k))
   (hv:∀(k:Nat) x,cs[k]?=some x->VRel G h x (rd k)):VRel G h (.ip cs) (.pointer (some a))
 |ptr (b off blk tot:Nat) (hb:G.blk[b]?=some (blk,tot)):VRel G h (.ptr b off) (.pointer (some ⟨blk,off,none⟩))
 |mp (b blk tot:Nat) (hb:G.blk[b]?=some (blk,tot)):VRel G h (.mp b) (.map (some blk))
 |im (es:List (AV×AV)) (blk:Nat) (ce:Array uk) (clock:Nat) (hb:h[blk]?=some (.map ce clock)) (hi:G.imm blk) (hn:ce.size=es.length)
   (hk:∀(k:Nat) x,es[k]?=some x->VRel G h x.1 (ce.getD k default).key) (hv:∀(k:Nat) x,es[k]?=some x->VRel G h x.2 (ce.getD k default).val)
   (hd:jj ce clock):VRel G h (.im es) (.map (some blk))
 |ims (es es':List (AV×AV)) (σ τ:Nat->Nat) (v:qg) (hp:PIx σ τ es es') (hd:(es.map Prod.fst).Nodup) (r:VRel G h (.im es') v):VRel G h (.ims es) v
 |fn (f:Fn) (first caps:List AV) (vs ws:Array qg) (hn:vs.size=first.length) (hm:ws.size=caps.length)
   (hv:∀(k:Nat) x,first[k]?=some x->VRel G h x (vs.getD k j2)) (hw:∀(k:Nat) x,caps[k]?=some x->VRel G h x (ws.getD k j2)):VRel G h (.fn f first caps) (.func f vs ws)
 |ifc (t:qd) (x:AV) (v:qg) (hv:VRel G h x v):VRel G h (.ifc t x) (.iface t v)
 |yl (b blk tot:Nat) (hb:G.blk[b]?=some (blk,tot)):VRel G h (.yl b) (.func (.yield blk) #[] #[])
theorem VRel.mono(P:G.le G')(he:Ext G h h'){x v}(r:VRel G h x v):VRel G' h' x v:=by
 induction r with
 |any v=>exact .any v
 |sc v C=>exact .sc v C
 |nil full=>exact .nil full
 |emp full a cap hc=>exact .emp full a cap hc
 |lst full J p a cap R e fr rd l hs hl hc I hz hr C o=>exact .lst full J p a cap R e fr rd (by rw[he.keep _ I];exact l) hs hl hc (P.imm _ I) hz hr o
 |sl b p off len g i cap l ht hl=>exact .sl b p off len g i cap (P.blk _ _ l) ht hl
 |agg R j U C o=>exact .agg R j U o
 |tup R j U C o=>exact .tup R j U o
 |ip R a arr e fr rd l hs I hr C o=>exact .ip R a arr e fr rd (by rw[he.keep _ I];exact l) hs (P.imm _ I) hr o
 |ptr b off g i l=>exact .ptr b off g i (P.blk _ _ l)
 |mp b g i l=>exact .mp b g i (P.blk _ _ l)
 |im T g ce clock l I U hk C hd a2 a0=>exact .im T g ce clock (by rw[he.keep _ I];exact l) (P.imm _ I) U a2 a0 hd
 |ims T a3 σ τ v hp hd r o=>exact .ims T a3 σ τ v hp hd o
 |fn f first a1 j ws U hm C hw a0 a4=>exact .fn f first a1 j ws U hm a0 a4
 |ifc t x v C o=>exact .ifc t x v o
 |yl b g i l=>exact .yl b g i (P.blk _ _ l)
theorem VRel.le(g:G.le G'){x v}(r:VRel G h x v):VRel G' h x v:=r.mono g (.refl _ _)
theorem VRel.ofC(v):VRel G h (ofC v) v:=by
 unfold Ev.ofC;split
 .exact .nil true
 .exact .fn _ [] [] _ _ rfl rfl zSp zSp
 .split
  .rename_i g;exact .sc v g
  .exact .any v
theorem VRel.ofV(v):VRel G h (ofV v) v:=by
 unfold Ev.ofV;split
 .rename_i i
  refine .agg _ _ zSp ?_;intro k x g;simp only[zj,yA,uo]at g;obtain⟨v,j,rfl⟩:=g;have:i.getD k j2=v:=by simp[qK,j]
  rw[this];exact .ofC v
 .exact .ofC v
theorem VRel.one{x v}(r:VRel G h x v)(g:x.one=true):v.oneCell'=true:=by
 cases r with
 |ims _ _ _ _ _ _ _ r=>cases r;rfl
 |_=>simp_all[AV.one,Value.oneCell']
theorem qbL{v:qg}(h:v.oneCell'=true):v.cells=#[v]:=by
 cases v<;>simp_all[Value.cells,Value.oneCell']
theorem VRel.cells{x v}(r:VRel G h x v)(p:∀ c,c∈x.cells->c.one=true) :
  v.cells.size=x.cells.length/\(∀(k) c,x.cells[k]?=some c->VRel G h c (v.cells.getD k j2))/\(∀ u,u∈v.cells.toList->u.oneCell'=true):=by
 by_cases I:∃ l,x = .agg l
 .obtain ⟨l,rfl⟩:=I
  cases r with
  |agg _ j J t =>
   refine⟨by simpa[Value.cells,AV.cells] using J,by simpa[Value.cells,AV.cells] using t,?_⟩;intro u C;simp only[Value.cells]at C;obtain⟨k,g⟩:=List.mem_iff_getElem?.1 C;rw[uo]at g;have o:k<l.length:=by
    grind
   have i:=t k l[k] (zP1 o);have:j.getD k j2=u:=by simp[qK,g]
   rw[this]at i;exact i.one (p _ (by simp[AV.cells]))
 .have e:x.cells=[x]:=by cases x<;>simp_all[AV.cells]
  have i:=r.one (p x (zP1 e));rw[qbL i,e];refine⟨rfl,?_,zP1 i⟩;intro k c g;cases k with
  |zero=>simp at g;subst g;simpa using r
  |succ k=>simp at g
inductive Cell where
 |arr (cells:List AV)
 |mp (es:List (AV×AV))
 |md (es:List (AV×AV))
 |it (es:List (AV×AV)) (seen:List Nat)
 |lp (r:Loop) (tm:Nat->AV)
 |dead
 deriving Inhabited
abbrev Mu:=List Cell
variable {mu:Mu}
def Live(G:Gh)(mu:Mu)(b:Nat):Prop:=∃(i:Nat) (c:Cell) (g:Nat),mu[i]?=some c/\c ≠ .dead/\G.blk[i]?=some (b,g)
def j0(G:Gh)(h:Array Obj)(l:Nat)(o:Obj):Cell->Prop
 | .arr cells=>∃ t e,o = .cells t e (0,0)/\t.size=l/\cells.length<=l/\∀(j:Nat) x,cells[j]?=some x->x.one=true/\VRel G h x (t.getD j j2)
 | .mp T=>∃ ce clock,o = .map ce clock/\ce.size=T.length/\(∀(k:Nat) x,T[k]?=some x->VRel G h x.1 (ce.getD k default).key)/\(∀(k:Nat) x,T[k]?=some x->VRel G h x.2 (ce.getD k default).val) /\
   clock=ce.size/\(∀(k:Nat)(e:uk),ce[k]?=some e->e.born=k)
 | .md T=>∃ ce clock,o = .map ce clock/\ce.size=T.length/\(∀(k:Nat) x,T[k]?=some x->VRel G h x.1 (ce.getD k default).key)/\(∀(k:Nat) x,T[k]?=some x->VRel G h x.2 (ce.getD k default).val)/\jj ce clock
 | .it T seen=>(∃ m p C I ce g,VRel G h (.im p) (.map (some m))/\h[m]?=some (.map ce g)/\G.imm m/\PIx C I T p/\(∀ i,i∈seen->i<T.length)/\o = .mapIter (some m) g (seen.map fun i=>(ce.getD (C i) default).born).toArray g)\/(T=[]/\o = .mapIter none 0 #[] 0)
 | .lp r J=>o = .loop r/\∀ i,VRel G h (J i) (r.tmps.getD i j2)
 | .dead=>True
theorem j0.mono(l:G.le G')(p:Ext G h h'){P o c}(r:j0 G h P o c):j0 G' h' P o c:=by
  cases c with
  |arr cells=>obtain⟨cs,e,I,J,t,C⟩:=r;exact⟨cs,e,I,J,t,fun j x g=>⟨(C j x g).1,(C j x g).2.mono l p⟩⟩
  |mp T=>obtain⟨ce,R,I,J,t,C,U⟩:=r;exact⟨ce,R,I,J,fun k x g=>(t k x g).mono l p,fun k x g=>(C k x g).mono l p,U⟩
  |md T=>obtain⟨ce,R,I,J,t,C,U⟩:=r;exact⟨ce,R,I,J,fun k x g=>(t k x g).mono l p,fun k x g=>(C k x g).mono l p,U⟩
  | it T seen =>
                  rcases r with ⟨m,a0,σ,τ,ce,a1,I,J,t,C⟩|r
                  · exact .inl ⟨m,a0,σ,τ,ce,a1,I.mono l p,by rw[p.keep _ t];exact J,l.imm _ t,C⟩
                  · exact .inr r
  |lp r1 tm=>exact⟨r.1,fun i=>(r.2 i).mono l p⟩
  |dead=>trivial
theorem j0.le(i:G.le G'){g o c}(r:j0 G h g o c):j0 G' h g o c:=r.mono i (.refl _ _)
def wE(g:Nat->Prop)(h:Array Obj):Prop:=∀ x,x∈tabs->g x.1/\∃ e i,h[x.1]?=some (.cells x.2.toArray e i)
theorem wE.mono{i g j}(t:wE i h)(o:∀ b,i b->g b)(p:∀ b,i b->j[b]?=h[b]?):wE g j:=fun x l=>by
 obtain⟨r,e,C,I⟩:=t x l
 grind
structure Sim (G:Gh) (mu:Mu) (h:Array Obj):Prop where
 len:G.blk.length=mu.length
 imm:∀ b,G.imm b->b<h.size
 obj:∀(i:Nat)(c:Cell) blk tot,mu[i]?=some c->c ≠ .dead->G.blk[i]?=some (blk,tot)->∃ o,h[blk]?=some o/\j0 G h tot o c
 live:∀(i:Nat)(c:Cell) blk tot,mu[i]?=some c->c ≠ .dead->G.blk[i]?=some (blk,tot)->¬G.imm blk
 inj:∀(i j:Nat)(ci cj:Cell) b ti tj,mu[i]?=some ci->mu[j]?=some cj->ci ≠ .dead->cj ≠ .dead->G.blk[i]?=some (b,ti)->G.blk[j]?=some (b,tj)->i=j
 tab:wE G.imm h
theorem Sim.bare(s:Sim G mu h):Sim ⟨G.imm,[]⟩ [] h:=
 ⟨rfl,s.imm,fun i c b t h=>by simp at h,fun i c b t h=>by simp at h,fun i j ci g b t l h=>by simp at h,s.tab⟩
theorem Sim.arr(s:Sim G mu h)(i:Nat)(cells l g)(p:mu[i]?=some (.arr cells))(r:G.blk[i]?=some (l,g)) :
  ∃ cs e,h[l]?=some (.cells cs e (0,0))/\cs.size=g/\cells.length<=g/\∀(j) x,cells[j]?=some x->x.one=true/\VRel G h x (cs.getD j j2):=by
 obtain⟨o,t,cs,e,rfl,h⟩:=s.obj i _ l g p zSp r;exact⟨cs,e,t,h⟩
theorem Sim.mp(s:Sim G mu h)(i:Nat)(es g j)(l:mu[i]?=some (.mp es))(p:G.blk[i]?=some (g,j)) :
  ∃ ce clock,h[g]?=some (.map ce clock)/\ce.size=es.length/\(∀(k) x,es[k]?=some x->VRel G h x.1 (ce.getD k default).key)/\(∀(k) x,es[k]?=some x->VRel G h x.2 (ce.getD k default).val) /\
   clock=ce.size/\(∀(k)(e:uk),ce[k]?=some e->e.born=k):=by
 obtain⟨o,r,ce,t,rfl,h⟩:=s.obj i _ g j l zSp p;exact⟨ce,t,r,h⟩
theorem Sim.md(s:Sim G mu h)(i:Nat)(es g j)(l:mu[i]?=some (.md es))(p:G.blk[i]?=some (g,j)) :
  ∃ ce clock,h[g]?=some (.map ce clock)/\ce.size=es.length/\(∀(k) x,es[k]?=some x->VRel G h x.1 (ce.getD k default).key)/\(∀(k) x,es[k]?=some x->VRel G h x.2 (ce.getD k default).val)/\jj ce clock:=by
 obtain⟨o,r,ce,t,rfl,h⟩:=s.obj i _ g j l zSp p;exact⟨ce,t,r,h⟩
theorem Sim.livesize(s:Sim G mu h){b}(l:Live G mu b):b<h.size:=by
 obtain⟨i,c,g,j,p,r⟩:=l;obtain⟨o,t,_⟩:=s.obj i c b g j p r
 grind
theorem Sim.all(s:Sim G mu h):Sim ⟨fun b=>G.imm b\/Live G mu b,[]⟩ [] h:=
 ⟨rfl,fun b h=>h.elim (s.imm b) (fun l=>s.livesize l),fun i c b t h=>by simp at h,fun i c b t h=>by simp at h,fun i j ci g b t o h=>by simp at h,s.tab.mono (fun b h => .inl h) (fun b h=>rfl)⟩
structure Stp (G:Gh) (mu:Mu) (w:qf) (G':Gh) (mu':Mu) (w':qf):Prop where
 le:G.le G'
 sim:Sim G' mu' w'.heap
 keep:∀ b,b<w.heap.size->¬Live G mu b->w'.heap[b]?=w.heap[b]?
 size:w.heap.size<=w'.heap.size
 live:∀ b,Live G' mu' b->Live G mu b\/w.heap.size<=b
 inew:∀ b,G'.imm b->G.imm b\/Live G mu b\/w.heap.size<=b
 tape:w'.tape=w.tape
 os:w'.os=w.os
 output:w'.output=w.output
 drawn:w.drawn<=w'.drawn
theorem Stp.ext{l w'}(s:Sim G mu w.heap)(t:Stp G mu w G' l w'):Ext G w.heap w'.heap:=
 ⟨t.size,fun b j=>t.keep b (s.imm b j) (fun⟨i,c,g,o,p,r⟩=>s.live i c b g o p r j)⟩
theorem Stp.vrel{l w'}(s:Sim G mu w.heap)(t:Stp G mu w G' l w'){x v}(r:VRel G w.heap x v):VRel G' w'.heap x v:=
 r.mono t.le (t.ext s)
theorem Stp.refl(s:Sim G mu w.heap):Stp G mu w G mu w:=
 ⟨.refl G,s,fun _ _ _=>rfl,qs _,fun _ h => .inl h,fun _ h => .inl h,rfl,rfl,rfl,qs _⟩
theorem Stp.trans{A B C a b c u v}(s:Sim A a u.heap)(h:Stp A a u B b v)(k:Stp B b v C c w):Stp A a u C c w:=by
 refine⟨h.le.trans k.le,k.sim,?_,zS h.size k.size,?_,?_,k.tape.trans h.tape,k.os.trans h.os,k.output.trans h.output,zS h.drawn k.drawn⟩
 .intro x i j
  rw[k.keep x (Nat.lt_of_lt_of_le i h.size) (fun l=>(h.live x l).elim j (fun g=>absurd i (Nat.not_lt.2 g))),h.keep x i j]
 .intro x i
  rcases k.live x i with l|l
  .exact h.live x l
  .exact .inr (zS h.size l)
 .intro x i
  rcases k.inew x i with l|l|l
  .exact h.inew x l
  .exact .inr (h.live x l)
  .exact .inr (.inr (zS h.size l))
theorem Stp.drew(s:Sim G mu w.heap):Stp G mu w G mu w.drew:=
 ⟨.refl G,s,fun _ _ _=>rfl,qs _,fun _ h => .inl h,fun _ h => .inl h,rfl,rfl,rfl,Nat.le_succ _⟩
end
end Go.Ev
namespace Go.Ev
open Go Go.RowKit
section
variable {G:Gh}{mu:Mu}{w:qf}
theorem zL{C:Type}{l}{a x:C}{i}(h:(l++[a])[i]?=some x):(i<l.length/\l[i]?=some x)\/(i=l.length/\x=a):=by
 rcases Nat.lt_trichotomy i l.length with g|g|g
 .grind
 .grind
 grind
theorem wF(w:qf)(o b)(g:b<w.heap.size):(w.alloc o).heap[b]?=w.heap[b]?:=Below.heap_alloc w o b g
theorem Jg(w:qf)(o):(w.alloc o).heap[w.heap.size]?=some o:=by
 show (w.heap.push o)[w.heap.size]?=some o;simp
theorem V9(s:Sim G mu w.heap)(o):Ext G w.heap (w.alloc o).heap:=
 ⟨zSp,fun b g=>wF w o b (s.imm b g)⟩
theorem sB(s:Sim G mu w.heap)(o) :
  Stp G mu w ⟨fun b=>G.imm b\/b=w.heap.size,G.blk⟩ mu (w.alloc o):=by
 have p:G.le ⟨fun b=>G.imm b\/b=w.heap.size,G.blk⟩:=⟨fun b h => .inl h,fun _ _ h=>h⟩;have J:=V9 s o;have key:∀ b,Live G mu b->(w.alloc o).heap[b]?=w.heap[b]?:=fun b l=>wF w o b (s.livesize l)
 refine⟨p,⟨s.len,?_,?_,?_,s.inj,s.tab.mono p.imm J.keep⟩,fun b l _=>wF w o b l,zSp,fun b h => .inl h,fun b h=>h.elim .inl (fun e => .inr (.inr zOm)),rfl,rfl,rfl,qs _⟩
 .intro b l
  rcases l with l|l
  .have:=s.imm b l;simp;omega
  .simp;omega
 .intro i c j g r t C
  obtain⟨P,R,T⟩:=s.obj i c j g r t C;exact⟨P,by rw[key j ⟨i,_,g,r,t,C⟩];exact R,T.mono p J⟩
 .intro i c j g r t C I
  rcases I with I|I
  .exact s.live i c j g r t C I
  .have:=s.livesize ⟨i,c,g,r,t,C⟩;omega
theorem sR(s:Sim G mu w.heap)(o c t)
  (ha:c ≠ .dead->j0 G w.heap t o c) :
  Stp G mu w ⟨G.imm,G.blk++[(w.heap.size,t)]⟩ (mu++[c]) (w.alloc o):=by
 have C:G.le ⟨G.imm,G.blk++[(w.heap.size,t)]⟩:=⟨fun b h=>h,fun i x h=>by
  grind⟩
 have he:=V9 s o;have key:∀ b,Live G mu b->(w.alloc o).heap[b]?=w.heap[b]?:=fun b J=>wF w o b (s.livesize J)
 have a7:=s.len;refine⟨C,⟨by simp[s.len],?_,?_,?_,?_,s.tab.mono C.imm he.keep⟩,fun b J _=>wF w o b J,zSp,?_,fun b h => .inl h,rfl,rfl,rfl,qs _⟩
 .intro b J
  have:=s.imm b J;simp;omega
 .intro i c' r g hc P R
  rcases zL hc with ⟨T,p⟩|⟨T,p⟩
  .have l:G.blk[i]?=some (r,g):=by
    grind
   obtain⟨o',h1,h2⟩:=s.obj i c' r g p P l;exact⟨o',by rw[key r ⟨i,_,g,p,P,l⟩];exact h1,h2.mono C he⟩
  .have l:(r,g)=(w.heap.size,t):=by
    rcases zL R with ⟨h,_⟩|⟨_,h⟩
    .omega
    .exact h
   obtain⟨rfl,rfl⟩:=Prod.mk.inj l;subst p;exact⟨o,Jg w _,(ha P).mono C he⟩
 .intro i c' r g hc P R I
  rcases zL hc with ⟨T,p⟩|⟨T,p⟩
  .have l:G.blk[i]?=some (r,g):=by
    rcases zL R with ⟨_,h⟩|⟨h,_⟩
    .exact h
    .omega
   exact s.live i c' r g p P l I
  .have l:(r,g)=(w.heap.size,t):=by
    rcases zL R with ⟨h,_⟩|⟨_,h⟩
    .omega
    .exact h
   have:=s.imm r I;obtain⟨rfl,_⟩:=Prod.mk.inj l;omega
 .intro i j ci cj b ti tj T hj a3 a4 U a0
  rcases zL T with ⟨a5,a1⟩|⟨a5,a1⟩<;>rcases zL hj with ⟨a6,a2⟩|⟨a6,a2⟩
  .have a:G.blk[i]?=some (b,ti):=by
    rcases zL U with ⟨_,h⟩|⟨h,_⟩
    .exact h
    .omega
   have c:G.blk[j]?=some (b,tj):=by
    rcases zL a0 with ⟨_,h⟩|⟨h,_⟩
    .exact h
    .omega
   exact s.inj i j ci cj b ti tj a1 a2 a3 a4 a c
  .have a:G.blk[i]?=some (b,ti):=by
    rcases zL U with ⟨_,h⟩|⟨h,_⟩
    .exact h
    .omega
   have c:(b,tj)=(w.heap.size,t):=by
    rcases zL a0 with ⟨h,_⟩|⟨_,h⟩
    .omega
    .exact h
   have:=s.livesize ⟨i,ci,ti,a1,a3,a⟩;have:=(Prod.mk.inj c).1;omega
  .have a:G.blk[j]?=some (b,tj):=by
    rcases zL a0 with ⟨_,h⟩|⟨h,_⟩
    .exact h
    .omega
   have c:(b,ti)=(w.heap.size,t):=by
    rcases zL U with ⟨h,_⟩|⟨_,h⟩
    .omega
    .exact h
   have:=s.livesize ⟨j,cj,tj,a2,a4,a⟩;have:=(Prod.mk.inj c).1;omega
  .omega
 .intro b J
  obtain⟨i,c',t',hc,P,R⟩:=J;rcases zL hc with ⟨T,p⟩|⟨T,p⟩
  .have l:G.blk[i]?=some (b,t'):=by
    rcases zL R with ⟨_,h⟩|⟨h,_⟩
    .exact h
    .omega
   exact .inl ⟨i,c',t',p,P,l⟩
  .have l:(b,t')=(w.heap.size,t):=by
    rcases zL R with ⟨h,_⟩|⟨_,h⟩
    .omega
    .exact h
   exact .inr (zW1 ((Prod.mk.inj l).1))
theorem jJ{C:Type}{l:List C}{a x i j}(h:(l.set i a)[j]?=some x):(j=i/\x=a)\/(j≠i/\l[j]?=some x):=by
 rw[List.getElem?_set]at h;by_cases g:i=j
 .grind
 .rw [if_neg g]at h;grind
theorem sW{w'}(s:Sim G mu w.heap)(i c c' I J o)
  (T:mu[i]?=some c) (U:c ≠ .dead) (aa:c' ≠ .dead) (hk:G.blk[i]?=some (I,J))
  (hw:w'.heap.size=w.heap.size) (ho:w'.heap[I]?=some o) (r:∀ b,b≠I->w'.heap[b]?=w.heap[b]?)
  (ht:w'.tape=w.tape) (a5:w'.os=w.os) (a2:w'.output=w.output)
  (ha:j0 G w.heap J o c') (a6:w.drawn<=w'.drawn:=by exact qs _) :
  Stp G mu w G (mu.set i c') w':=by
 have a7:Live G mu I:=⟨i,c,J,T,U,hk⟩;have he:Ext G w.heap w'.heap:=⟨zOm,fun b hb=>r b (fun e=>by subst e;exact s.live i c b J T U hk hb)⟩;have ab:∀(j:Nat)(R:Cell) b t,j≠i->mu[j]?=some R->R ≠ .dead->G.blk[j]?=some (b,t)->b≠I:=by
  intro j R b t hj l p g e;subst e;exact hj (s.inj j i R c b t J l T p U g hk)
 refine⟨.refl G,⟨by simpa using s.len,?_,?_,?_,?_,s.tab.mono (fun _ h=>h) he.keep⟩,?_,zOm,?_,fun b h => .inl h,ht,a5,a2,a6⟩
 .intro b hb;have:=s.imm b hb;omega
 .intro j R b t l p g
  rcases jJ l with ⟨rfl,C⟩|⟨hj,C⟩
  .rw [hk]at g
   obtain⟨rfl,rfl⟩:=Prod.mk.inj (Option.some.inj g);subst C;exact⟨o,ho,ha.mono (.refl G) he⟩
  .obtain ⟨o',h1,h2⟩:=s.obj j R b t C p g
   exact⟨o',by grind,h2.mono (.refl G) he⟩
 .intro j R b t l p g
  rcases jJ l with ⟨rfl,C⟩|⟨hj,C⟩
  .rw [hk]at g
   obtain⟨rfl,rfl⟩:=Prod.mk.inj (Option.some.inj g);exact s.live j c _ _ T U hk
  .exact s.live j R b t C p g
 .intro a b ca cb P ta tb a8 a9 a3 a4 a0 a1
  rcases jJ a8 with ⟨rfl,C⟩|⟨hj,C⟩<;>rcases jJ a9 with ⟨rfl,hy⟩|⟨ad,hy⟩
  .rfl
  .exact s.inj a b c cb P ta tb T hy U a4 a0 a1
  .exact s.inj a b ca c P ta tb C T a3 U a0 a1
  .exact s.inj a b ca cb P ta tb C hy a3 a4 a0 a1
 .intro b hb hl
  exact r b (fun e=>hl (e ▸ a7))
 .intro b hb
  obtain⟨j,R,t,l,p,g⟩:=hb;rcases jJ l with ⟨rfl,C⟩|⟨hj,C⟩
  .exact .inl ⟨j,c,t,T,U,g⟩
  .exact .inl ⟨j,R,t,C,p,g⟩
theorem sX(s:Sim G mu w.heap)(i):Stp G mu w G (mu.set i .dead) w:=by
 refine⟨.refl G,⟨by simpa using s.len,s.imm,?_,?_,?_,s.tab⟩,fun _ _ _=>rfl,qs _,?_,fun b h => .inl h,rfl,rfl,rfl,qs _⟩
 .intro j r b t o g p
  rcases jJ o with ⟨rfl,l⟩|⟨P,l⟩
  .exact absurd l g
  .exact s.obj j r b t l g p
 .intro j r b t o g p hi
  rcases jJ o with ⟨rfl,l⟩|⟨P,l⟩
  .exact g l
  .exact s.live j r b t l g p hi
 .intro a b ca cb C ta tb R T I J U a0
  rcases jJ R with ⟨rfl,l⟩|⟨P,l⟩
  .exact absurd l I
  .rcases jJ T with ⟨rfl,hy⟩|⟨a1,hy⟩
   .exact absurd hy J
   .exact s.inj a b ca cb C ta tb l hy I J U a0
 .intro b hb
  obtain⟨j,r,t,o,g,p⟩:=hb;rcases jJ o with ⟨rfl,l⟩|⟨P,l⟩
  .exact absurd l g
  .exact .inl ⟨j,r,t,l,g,p⟩
end
end Go.Ev
namespace Go.Ev
open Go Go.RowKit
section
variable {cs:Array qg}{mu:Mu}{P:qb}{t:qd}{w:qf}
def szOf(P:qb)(t:qd):Option Nat:=(P.info? t).map (·.size)
def qT(P:qb)(t:qd):Option Bool:=(P.underlying t).map fun | .struct _ | .array .. => true|_=>false
def qz(P:qb)(t:qd):Option AV:=((P.info? t).bind (·.zero)).map ofV
def qA(P:qb)(t:qd):Option (qd×Nat×Nat):=
 match P.underlying t with
 |some (.slice e)=>(P.info? e).map fun i=>(e,i.size,i.bytes)
 |_=>none
def qC(P:qb)(s f:Nat):Option (Nat×qd×Nat):=
 match P.underlying s with
 |some (.struct i)=>(i[f]?).bind fun g=>match szOf P g.type with|some (n+1)=>some (g.offset,g.type,n+1)|_=>none
 |_=>none
def Qj(P:qb)(t:qd):Option (Nat×qd×Nat):=
 match P.underlying t with
 |some (.array n e)=>(szOf P e).map fun k=>(n,e,k)
 |_=>none
theorem Jh{b}(h:qT P t=some b)(w):(isAgg t).run P w = .ok b w:=by
 unfold qT at h;cases g:P.underlying t with
 |none=>simp[g]at h
 |some d =>
  simp only[g,qZ,qo]at h;subst h;simp only[isAgg,qE,run_underlying g,Result.andThen];cases d<;>rfl
theorem yJ{n}(h:szOf P t=some n)(w):(sizeOf t).run P w = .ok n w:=by
 unfold szOf at h;cases g:P.info? t with
 |none=>simp[g]at h
 |some d =>
  simp_all[qZ,qo,sizeOf,typeInfo]
theorem wG{x}(h:qz P t=some x)(w):∃ v,(zeroValue t).run P w = .ok v w/\x=ofV v:=by
 unfold qz at h;cases g:P.info? t with
 |none=>simp[g]at h
 |some d =>
  simp only[g,Option.bind_some,yA]at h;obtain⟨v,i,rfl⟩:=h;exact⟨v,by simp[zeroValue,typeInfo,g,i],rfl⟩
theorem wH{a:Addr}{e g}(i:w.heap[a.block]?=some (.cells cs e g))(j:a.spot=none)(k) :
  w.cell? (a.add k)=cs[a.off+k]?:=by
 grind [Addr.add,World.cell?]
@[go_sem] def jK(mu:Mu):AV->Nat->Option (List AV)
 | .ip g,n=>if n<=g.length then some (g.take n) else none
 | .ptr b off,n=>match mu[b]? with
  |some (.arr cells)=>if off+n<=cells.length then some ((cells.drop off).take n) else none
  |_=>none
 |_,_=>none
theorem X4{G}(s:Sim G mu w.heap){p v}(r:VRel G w.heap p v){n cs}(h:jK mu p n=some cs) :
  ∃(a:Addr) (rd:Nat->qg),v = .pointer (some a)/\cs.length=n/\∀(k) x,cs[k]?=some x->w.cell? (a.add k)=some (rd k)/\VRel G w.heap x (rd k):=by
 cases r with
 |ip o a arr e T rd l U hi hr hv =>
  simp only[jK]at h;split at h
  .rename_i t
   simp only[qo]at h;subst h;refine⟨a,rd,rfl,zSo,fun k x C=>?_⟩
   grind [absurd,wH]
  grind
 |ptr b off g j l =>
  simp only[jK]at h;split at h
  .rename_i cells I
   obtain⟨arr,e,J,h2,h3,P⟩:=s.arr b cells g j I l;split at h
   .rename_i t
    simp only[qo]at h;subst h;refine⟨⟨g,off,none⟩,fun k=>arr.getD (off+k) j2,rfl,zSo,fun k x C=>?_⟩;have i:cells[off+k]?=some x:=by
     grind
    refine⟨?_,(P _ _ i).2⟩;rw[wH (a:=⟨g,off,none⟩) J rfl];have R:off+k<cells.length:=(qi.1 i).1;have:off+k<arr.size:=zOm;simp[qK,this]
   grind
  grind
 |_=>grind [absurd,jK]
@[go_sem] def vO(P:qb)(mu:Mu)(t:qd)(p:AV):Option AV:=
 match qT P t,szOf P t with
 |some true,some n=>(jK mu p n).map .agg
 |some false,some _=>(jK mu p 1).bind fun | [x]=>some x|_=>none
 |_,_=>none
theorem X5{G}(s:Sim G mu w.heap){t p v}(r:VRel G w.heap p v){x}(h:vO P mu t p=some x) :
  ∃ a u,v = .pointer (some a)/\(loadVar t a).run P w = .ok u w/\VRel G w.heap x u:=by
 unfold vO at h;split at h
 .rename_i n J T
  cases g:jK mu p n with
  |none=>simp[g]at h
  |some i =>
   simp only[g,qZ,qo]at h;subst h;obtain⟨a,rd,rfl,l,o⟩:=X4 s r g;have R:=run_loadCells (P:=P) w a n rd (fun j U=>(o j i[j] (by simp[l,U])).1);refine⟨a,.agg ((qq n).map rd).toArray,rfl,?_,?_⟩
   .simp_all [loadVar,Jh,yJ]
   .refine .agg _ _ (zP1 l) (fun k x hx=>?_)
    have C:k<n:=by grind
    have:(((qq n).map rd).toArray).getD k j2=rd k:=by simp[qK,C]
    grind
 .rename_i n J T
  cases g:jK mu p 1 with
  |none=>simp[g]at h
  |some i =>
   simp only[g,Option.bind_some]at h
   match i,g,h with
   | [y],g,h =>
    simp only[qo]at h;subst h;obtain⟨a,rd,rfl,l,o⟩:=X4 s r g;have I:=o 0 y rfl;rw[show a.add 0=a by simp[Addr.add]]at I;exact⟨a,rd 0,rfl,by simp[loadVar,Jh J,I.1],I.2⟩
 grind
def qQ(cells:List AV)(off:Nat)(xs:List AV):List AV:=
 match xs with
 | [x]=>cells.set off x
 |xs=>cells.take off++xs++cells.drop (off+xs.length)
@[go_sem] theorem qnN(z o x):qQ z o [x]=z.set o x:=rfl
@[go_sem] theorem qnO(z o x y l):qQ z o (x :: y :: l)=z.take o++(x :: y :: l)++z.drop (o+(x :: y :: l).length):=rfl
@[go_sem] theorem qnP(z o):qQ z o []=z.take o++[]++z.drop (o+0):=rfl
theorem jk(cells off xs)(h:off+xs.length<=cells.length):qQ cells off xs=cells.take off++xs++cells.drop (off+xs.length):=by
 unfold qQ;split
 .rename_i x
  simp at h;rw[List.set_eq_take_append_cons_drop,if_pos zOm];simp
 .rfl
@[go_sem] def ZF(P:qb)(mu:Mu)(t:qd)(p x:AV):Option Mu:=
 match p,szOf P t with
 | .ptr b off,some n=>match mu[b]? with
  |some (.arr cells)=>if x.cells.length=n/\off+n<=cells.length/\x.cells.all AV.one=true then some (mu.set b (.arr (qQ cells off x.cells))) else none
  |_=>none
 |_,_=>none
theorem qbM{k v}(h:cs[k]?=some v):cs.getD k j2=v:=by simp[qK,h]
theorem qbN{G l}(s:Sim G mu w.heap){t p x v u}(r:VRel G w.heap p v)(rx:VRel G w.heap x u)(h:ZF P mu t p x=some l) :
  ∃ a w',v = .pointer (some a)/\(storeVar t a u).run P w = .ok () w'/\Stp G mu w G l w':=by
 unfold ZF at h;split at h
 .rename_i b off n hn
  split at h
  .rename_i cells hc
   split at h
   .rename_i C
    obtain⟨R,a3,a4⟩:=C;simp only[qo]at h;subst h;cases r with
    |ptr _ _ g T hb =>
     obtain⟨arr,e,h1,h2,h3,h4⟩:=s.arr b cells g T hc hb;obtain⟨I,i,J⟩:=rx.cells (fun c a5=>by grind);have U:=run_storeCells_at P g off e u.cells.toList 0 arr w h1 (by simp[I];omega) J;simp only[Nat.add_zero]at U;refine⟨⟨g,off,none⟩,w.setRow g (arr.toList.take off++u.cells.toList++arr.toList.drop (off+u.cells.toList.length)).toArray,rfl,?_,?_⟩
     .simp_all [storeVar,qE,yJ,qH,if_neg]
     .refine sW s b (.arr cells) _ g T (.cells (arr.toList.take off++u.cells.toList++arr.toList.drop (off+u.cells.toList.length)).toArray e (0,0)) hc zSp zSp hb zSp (setRow_heap w g arr _ e _ h1)
       (fun k hk=>setRow_other w g k _ hk) rfl rfl rfl ?_
      have a6:u.cells.toList.length=n:=by simp[I,R]
      refine⟨_,e,rfl,by simp[I];omega,by grind [jk],?_⟩;intro j y o;rw[jk _ _ _ zOm]at o;rw[zm]at o;by_cases a0:j<off
      .rw [ze zSo,yG,if_pos a0]at o
       have:=h4 j y o;refine⟨this.1,?_⟩;have e1:(((arr.toList.take off++u.cells.toList++arr.toList.drop (off+u.cells.toList.length)).toArray).getD j j2)=arr.getD j j2:=by
        simp only[qK,vt,zm];rw[ze zSo,yG,if_pos a0,uo]
       rw[e1];exact this.2
      .rw [zK zSo]at o
       have a1:(cells.take off).length=off:=zSo;rw[a1]at o;by_cases a7:j-off<n
       .rw [zGa]at o
        refine⟨by grind,?_⟩;have:=i (j-off) y o;have e1:(((arr.toList.take off++u.cells.toList++arr.toList.drop (off+u.cells.toList.length)).toArray).getD j j2)=u.cells.getD (j-off) j2:=by
         simp only[qK,vt,zm]
         grind
        rw[e1];exact this
       .rw [zK zOm,jX,R]at o
        have a2:cells[j]?=some y:=by grind
        have:=h4 j y a2;refine⟨this.1,?_⟩;have e1:(((arr.toList.take off++u.cells.toList++arr.toList.drop (off+u.cells.toList.length)).toArray).getD j j2)=arr.getD j j2:=by
         simp only[qK,vt,zm]
         grind
        rw[e1];exact this.2
   grind
  grind
 grind
end
end Go.Ev
namespace Go.Ev
open Go Go.RowKit
section
variable {x z:AV}{h:Array Obj}{G:Gh}{xs:List (List AV)}{sz:Nat}{P:qb}{t:qd}{u:qg}{w:qf}
def Good(P:qb)(G:Gh)(mu:Mu)(w:qf)(s:Sem qg)(x:AV)(l:Mu):Prop:=
 ∃ v g i,s.run P w = .ok v g/\Stp G mu w i l g/\VRel i g.heap x v
theorem sY{mu}(s:Sim G mu w.heap){c x v}(h:c.run P w = .ok v w)(r:VRel G w.heap x v):Good P G mu w c x mu:=
 ⟨v,w,G,h,.refl s,r⟩
theorem Ua:(∀ r,r∈xs->r.length=sz)->∀{i k r x},xs[i]?=some r->r[k]?=some x->xs.flatten[i*sz+k]?=some x:=by
 induction xs with
 |nil=>intro _ i k r x h;simp at h
 |cons y j l =>
  intro g i k r x h o;have p:=g y zSp;cases i with
  |zero =>
   grind
  |succ i =>
   grind
theorem yc(h:∀ r,r∈xs->r.length=sz):xs.flatten.length=xs.length*sz:=by
 induction xs with
 |nil=>simp
 |cons y g i =>
  grind
@[go_sem] def aInt(op:BinOp)(k:IntKind)(a b:Int):Option AV:=
 match op with
 | .add=>some (.sc (.int k (k.wrap (a+b))))
 | .sub=>some (.sc (.int k (k.wrap (a-b))))
 | .mul=>some (.sc (.int k (k.wrap (a*b))))
 | .quo=>if b=0 then none else some (.sc (.int k (k.wrap (a.tdiv b))))
 | .rem=>if b=0 then none else some (.sc (.int k (a.tmod b)))
 | .eql=>some (.sc (.bool (a == b)))
 | .neq=>some (.sc (.bool (a != b)))
 | .lss=>some (.sc (.bool (decide (a<b))))
 | .leq=>some (.sc (.bool (decide (a<=b))))
 | .gtr=>some (.sc (.bool (decide (a > b))))
 | .geq=>some (.sc (.bool (decide (a>=b))))
 |_=>none
@[go_sem] def aStr(op:BinOp)(x y:cL):Option AV:=
 match op with
 | .eql=>some (.sc (.bool (x.toList == y.toList)))
 | .neq=>some (.sc (.bool (!(x.toList == y.toList))))
 | .lss=>some (.sc (.bool (Op.bytesLess x.toList y.toList)))
 | .add=>if x.size+y.size<=9223372036854775807 then some (.sc (.string (x++y))) else none
 |_=>none
@[go_sem] def aEqs:List AV->List AV->Option Bool
 | [],[]=>some true
 | .sc (.int k a) :: J,.sc (.int g b) :: r=>if k=g then (if a == b then aEqs J r else some false) else none
 |_,_=>none
def Ub(P:qb)(t:qd):Bool:=match P.underlying t with|some .bool=>true|_=>false
def X6(P:qb)(t:qd):Bool:=match P.underlying t with|some (.int _)=>true|_=>false
def Qk(P:qb):List Field->Nat->Bool
  | [],_=>true
  | f :: g, i => f.offset == i && f.name != "_" && X6 P f.type && Qk P g (i + 1)
def Ji(P:qb)(t:qd):Option Nat:=
 match P.underlying t with
 |some (.struct g)=>if Qk P g.toList 0=true/\P.stoodInHeld t=false/\P.eqGuardType P.depth t=false then some g.size else none
 |some (.array n e)=>match P.underlying e,szOf P e with
  |some (.int _),some 1=>if P.eqGuardType P.depth t=false then some n else none
  |_,_=>none
 |_=>none
def X7(P:qb)(t:qd):Bool:=match P.underlying t with|some (.interface _)=>true|_=>false
def Uc(P:qb)(t:qd):Bool:=match P.underlying t with|some (.interface g)=>g.isEmpty|_=>false
def Ql(P:qb)(t:qd):Bool:=match P.underlying t with|some (.pointer _)=>true|_=>false
@[go_sem] def X8(op:BinOp)(k:IntKind)(a b:Int):Option AV:=
 if b<0 then none else match op with
  | .shl=>some (.sc (.int k (k.wrap (a*2 ^ (min b.toNat k.bits)))))
  | .shr=>some (.sc (.int k (a.fdiv (2 ^ (min b.toNat k.bits)))))
  |_=>none
@[go_sem] def aBin(P:qb)(op:BinOp)(t:qd)(x y:AV):Option AV:=
 match x,y with
 | .sc (.int k a),.sc (.int g b)=>if op = .shl\/op = .shr then X8 op k a b else if k=g then aInt op k a b else none
 | .sc (.bool a),.sc (.bool b)=>if Ub P t=true then (match op with | .eql=>some (.sc (.bool (a == b))) | .neq=>some (.sc (.bool (!(a == b))))|_=>none) else none
 | .sc (.string a),.sc (.string b)=>aStr op a b
 | .ifc _ _,.sc .nilIface=>if X7 P t=true then (match op with | .eql=>some (.sc (.bool false)) | .neq=>some (.sc (.bool true))|_=>none) else none
 | .sc .nilIface,.sc .nilIface=>if Uc P t=true then (match op with | .eql=>some (.sc (.bool true)) | .neq=>some (.sc (.bool false))|_=>none) else none
 | .sc (.pointer none),.sc (.pointer none)=>if Ql P t=true then (match op with | .eql=>some (.sc (.bool true)) | .neq=>some (.sc (.bool false))|_=>none) else none
 | .ip _,.sc (.pointer none)=>if Ql P t=true then (match op with | .eql=>some (.sc (.bool false)) | .neq=>some (.sc (.bool true))|_=>none) else none
 | .ptr _ _,.sc (.pointer none)=>if Ql P t=true then (match op with | .eql=>some (.sc (.bool false)) | .neq=>some (.sc (.bool true))|_=>none) else none
 |_,_=>none
theorem qbO{k a b}(g:¬b=0):(Op.intDiv .quo k a b).run P w=(Pure.pure (.int k (k.wrap (a.tdiv b))):Sem qg).run P w:=by
 unfold Op.intDiv;rw[if_neg g]
theorem qbP{k a b}(g:¬b=0):(Op.intDiv .rem k a b).run P w=(Pure.pure (.int k (a.tmod b)):Sem qg).run P w:=by
 unfold Op.intDiv;rw[if_neg g]
theorem qbQ(d){t u x g}(i:P.underlying t=some (.interface g)) :
  (Op.equalIn (d+1) t (.iface u x) .nilIface).run P w = .ok false w:=by
 simp[Op.equalIn,run_underlying i]
theorem qbR(d){t g}(i:P.underlying t=some (.interface g)) :
  (Op.equalIn (d+1) t .nilIface .nilIface).run P w = .ok true w:=by
 simp[Op.equalIn,run_underlying i]
theorem qbS(d){t g}(i:P.underlying t=some (.interface g))(j:g.isEmpty=true) :
  (Op.eqGuardIn (d+1) t .nilIface .nilIface).run P w = .ok false w:=by
 simp[Op.eqGuardIn,run_underlying i,j]
theorem qbT(d){t e a}(g:P.underlying t=some (.pointer e)) :
  (Op.equalIn (d+1) t (.pointer a) (.pointer none)).run P w = .ok a.isNone w:=by
 cases a<;>simp[Op.equalIn,run_underlying g]
theorem qbU(h:Ql P t=true):∃ e,P.underlying t=some (.pointer e):=by
 grind [Ql,absurd]
theorem Ud{op ox oy a b c}(g:Ql P t=true)(i:a.isNone=b)(j:(!b)=c){z G}
  (h:(match op with | .eql=>some (AV.sc (.bool b)) | .neq=>some (AV.sc (.bool c))|_=>none)=some z):∃ r,(do eqGuard op t ox oy (.pointer a) (.pointer none);binOp op t (.pointer a) (.pointer none):Sem qg).run P w = .ok r w/\VRel G w.heap z r:=by
 obtain⟨e,l⟩:=qbU g;have o:(eqGuard op t ox oy (.pointer a) (.pointer none)).run P w = .ok () w:=by
  unfold eqGuard;cases op<;>rfl
 simp only[qE,o,qH];have p:(Op.equal t (.pointer a) (.pointer none)).run P w = .ok a.isNone w:=qbT 9999 l;subst i;subst j;cases op<;>simp only[qo]at h<;>first
  | (simp at h;done)
  | (subst h;refine⟨_,?_,.sc _ rfl⟩;simp[binOp,p];done)
theorem qbV{op y ox oy v}(l:VRel G w.heap x u)(o:VRel G w.heap y v)(h:aBin P op t x y=some z) :
    ∃ r,(do eqGuard op t ox oy u v;binOp op t u v:Sem qg).run P w = .ok r w/\VRel G w.heap z r:=by
  unfold aBin at h;split at h
  ·
    rename_i k a U b;cases l;cases o;split at h
    · unfold X8 at h
      split at h
      · cases h
      · rename_i g
        have i:(eqGuard op t ox oy (.int k a) (.int U b)).run P w = .ok () w:=by
          unfold eqGuard;cases op<;>rfl
        simp only[qE,i,qH];cases op<;>simp only[qo]at h<;>first
          | (cases h;done)
          | (subst h;refine⟨_,?_,.sc _ rfl⟩;simp[binOp,Op.shift,g];done)
    · rename_i hs
      split at h
      · rename_i hk;subst hk
        have i:(eqGuard op t ox oy (.int k a) (.int k b)).run P w = .ok () w:=by
          unfold eqGuard;cases op<;>rfl
        simp only[qE,i,qH];unfold aInt at h;cases op<;>simp only[qo]at h<;>first
          | (simp at h;done)
          | (subst h;refine⟨_,?_,.sc _ rfl⟩;simp[binOp,Op.intArith,Op.intCmp];done)
          | (split at h
             · exact absurd h zSp
             · rename_i g
               simp only[qo]at h;subst h;refine⟨_,?_,.sc _ rfl⟩;simp[binOp,qbO g,qbP g];done)
          | (exfalso;simp at hs)
      grind
  · rename_i a b
    cases l;cases o;split at h
    · rename_i g
      have j:P.underlying t=some .bool:=by
        grind [Ub,absurd]
      have i:(eqGuard op t ox oy (.bool a) (.bool b)).run P w = .ok () w:=by
        unfold eqGuard;cases op<;>rfl
      simp only[qE,i,qH];cases op<;>simp only[qo]at h<;>first
        | (simp at h;done)
        | (subst h;refine⟨_,?_,.sc _ rfl⟩;simp[binOp,Op.equal,Op.maxDepth,run_equalIn_bool' w 9999 t a b j];done)
    grind
  · rename_i a b
    cases l;cases o;have i:(eqGuard op t ox oy (.string a) (.string b)).run P w = .ok () w:=by
      unfold eqGuard;cases op<;>rfl
    simp only[qE,i,qH];unfold aStr at h;cases op<;>simp only[qo]at h<;>first
      | (simp at h;done)
      | (subst h;refine⟨_,?_,.sc _ rfl⟩;simp[binOp,Op.stringOp];done)
      | (split at h
         · rename_i g
           simp only[qo]at h;subst h;refine⟨_,?_,.sc _ rfl⟩;have:¬(((a.size+b.size:Nat):Int) > qw.max):=by simp[IntKind.max,IntKind.signed,IntKind.bits];omega
           simp only[binOp,Op.stringOp,if_neg this,zg]
         · exact absurd h zSp)
  · rename_i R vv
    cases o;cases l with
    |ifc _ _ T hv =>
    split at h
    · rename_i g
      have j:∃ p,P.underlying t=some (.interface p):=by
        unfold X7 at g;split at g
        · exact⟨_,by assumption⟩
        · exact absurd g zSp
      obtain⟨p,j⟩:=j;have i:(eqGuard op t ox oy (.iface R T) .nilIface).run P w = .ok () w:=by
        unfold eqGuard;cases op<;>rfl
      simp only[qE,i,qH];have C:(Op.equal t (.iface R T) .nilIface).run P w = .ok false w:=qbQ 9999 j;cases op<;>simp only[qo]at h<;>first
        | (simp at h;done)
        | (subst h;refine⟨_,?_,.sc _ rfl⟩;simp[binOp,C];done)
    · exact absurd h zSp
  · cases l
    cases o;split at h
    · rename_i g
      have j:∃ p,P.underlying t=some (.interface p)/\p.isEmpty=true:=by
        unfold Uc at g;split at g
        · exact⟨_,by assumption,g⟩
        · exact absurd g zSp
      obtain⟨p,j,I⟩:=j;have i:(eqGuard op t ox oy .nilIface .nilIface).run P w = .ok () w:=by
        have J:(Op.eqGuardIn Op.maxDepth t .nilIface .nilIface).run P w = .ok false w:=qbS 9999 j I;unfold eqGuard;cases op<;>first|rfl | (simp only[qE,Sem.run_ite,J,qH];simp)
      simp only[qE,i,qH];have C:(Op.equal t .nilIface .nilIface).run P w = .ok true w:=qbR 9999 j;cases op<;>simp only[qo]at h<;>first
        | (simp at h;done)
        | (subst h;refine⟨_,?_,.sc _ rfl⟩;simp[binOp,C];done)
    · exact absurd h zSp
  · cases l
    cases o;split at h
    · rename_i g;exact Ud g rfl rfl h
    · exact absurd h zSp
  · cases o
    cases l;split at h
    · rename_i g;exact Ud g rfl rfl h
    · exact absurd h zSp
  · cases o
    cases l;split at h
    · rename_i g;exact Ud g rfl rfl h
    · exact absurd h zSp
  grind
@[go_sem] def aUn(op:UnOp):AV->Option AV
 | .sc (.bool b)=>match op with | .not=>some (.sc (.bool !b))|_=>none
 | .sc (.int k n)=>match op with | .neg=>some (.sc (.int k (k.wrap (0-n))))|_=>none
 |_=>none
theorem qbW{op}(g:VRel G w.heap x u)(h:aUn op x=some z) :
  ∃ r,(Op.unary op u).run P w = .ok r w/\VRel G w.heap z r:=by
 unfold aUn at h;split at h
 .cases g
  split at h
  .simp only[qo]at h;subst h
   exact⟨_,rfl,.sc _ rfl⟩
  grind
 .cases g
  split at h
  .simp only[qo]at h;subst h
   exact⟨_,rfl,.sc _ rfl⟩
  grind
 grind
@[go_sem] def ZG(P:qb)(src g:qd):AV->Option AV
 | .sc (.int _ n)=>match P.underlying g with|some (.int k)=>some (.sc (.int k (k.wrap n)))|_=>none
 | .lst _ [[.sc (.int .u8 n)]]=>match P.underlying src with
  |some (.slice e)=>match P.underlying e,P.underlying g with
   |some (.int .u8),some .string=>some (.sc (.string (ByteArray.empty.push (UInt8.ofNat n.toNat))))
   |_,_=>none
  |_=>none
 |_=>none
theorem qbX{src g}(J:VRel G w.heap x u)(o:∃ d,P.underlying src=some d)(h:ZG P src g x=some z) :
  ∃ r,(convert src g u).run P w = .ok r w/\VRel G w.heap z r:=by
 unfold ZG at h;obtain⟨d,o⟩:=o;split at h
 .cases J
  split at h
  .rename_i k U
   simp only[qo]at h;subst h;refine⟨_,?_,.sc _ rfl⟩;simp only[convert,qE,run_underlying o,run_underlying U,qH];simp[Conv.intToInt]
  grind
 .rename_i f n
  split at h
  .rename_i e i
   split at h
   .rename_i he t
    simp only[qo]at h;subst h;cases J with
    |lst _ _ p a cap cs e' fr rd hb C hl hc hi hz hr hv =>
     have R:VRel G w.heap (.sc (.int .u8 n)) (rd 0):=hv 0 _ rfl;have T:cs[a.off+0]?=some (rd 0):=hr 0 _ rfl;generalize rd 0=q at R T;cases R;refine⟨_,?_,.sc _ rfl⟩;rw[run_convert_bytes_string w src g e (some a) _ cap i he t];have I:=run_loadCells_list (P:=P) w a [.int .u8 n] (fun j v l=>by
      match j,l with
      | 0,l =>
       simp only[YT,qo]at l;subst l;rw[wH hb C];exact T)
     exact run_bytesToString (P:=P) w a 1 cap [n] I
   grind
  grind
 grind
theorem sH{cs a}(r:VRel G h (.ip cs) (.pointer (some a)))(n):VRel G h (.ip (cs.drop n)) (.pointer (some (a.add n))):=by
 cases r with
 |ip _ _ arr e i rd j l o t C =>
  have g:(a.add n).block=a.block:=by unfold Addr.add;split<;>rfl
  have p:(a.add n).spot=none:=by unfold Addr.add;split<;>simp[l]
  have I:(a.add n).off=a.off+n:=by unfold Addr.add;split<;>simp_all
  refine .ip _ _ arr e i (fun k=>rd (n+k)) (by rw[g];exact j) p (by rw[g];exact o) ?_ ?_
  .grind
  grind
theorem sU{b o a}(r:VRel G h (.ptr b o) (.pointer (some a)))(n):VRel G h (.ptr b (o+n)) (.pointer (some (a.add n))):=by
 cases r with
 |ptr _ _ g i j =>
  have:(⟨g,o,none⟩:Addr).add n=⟨g,o+n,none⟩:=by unfold Addr.add;split<;>simp_all
  rw[this];exact .ptr b (o+n) g i j
@[go_sem] def addA(p:AV)(n:Nat):Option AV:=
 match p with
 | .ip g=>some (.ip (g.drop n))
 | .ptr b o=>some (.ptr b (o+n))
 |_=>none
theorem X9{p v n}(r:VRel G h p v)(e:addA p n=some z):∃ a,v = .pointer (some a)/\VRel G h z (.pointer (some (a.add n))):=by
 unfold addA at e;split at e
 .simp only[qo]at e;subst e
  cases r with
  |ip _ a arr el l rd g o t C I=>exact⟨a,rfl,sH (.ip _ a arr el l rd g o t C I) n⟩
 .simp only[qo]at e;subst e
  cases r with
  |ptr _ _ i j g=>exact⟨_,rfl,sU (.ptr _ _ i j g) n⟩
 grind
@[go_sem] def ZH(P:qb)(s f:Nat)(p:AV):Option AV:=(qC P s f).bind fun (off,_,_)=>addA p off
theorem Ka{s f off n}(h:qC P s f=some (off,t,n)) :
  ∃(fs:Array Field) (g:Field),P.underlying s=some (.struct fs)/\fs[f]?=some g/\g.offset=off/\g.type=t/\szOf P t=some n/\n≠0:=by
 unfold qC at h;split at h
 .grind
 grind
theorem qbY{s f p v}(r:VRel G w.heap p v)(e:ZH P s f p=some z) :
  ∃ u,(Instr.fieldAt s v f).run P w = .ok u w/\VRel G w.heap z u:=by
 unfold ZH at e;cases hf:qC P s f with
 |none=>simp[hf]at e
 |some x =>
  obtain⟨off,t,n⟩:=x;simp only[hf,Option.bind_some]at e;obtain⟨a,rfl,j⟩:=X9 r e;obtain⟨C,I,l,g,rfl,rfl,i,o⟩:=Ka hf;refine⟨_,?_,j⟩;simp[Instr.fieldAt,run_underlying l,g,Instr.sureAddr,fieldPlace,yJ i,o]
@[go_sem] def ZI(P:qb)(t:qd)(x l:AV):Option AV:=
 match l with
 | .sc (.int _ i) =>
  match x,qA P t,Qj P t with
  | .lst _ J,some (_,g,_),_=>if 0<=i/\i<J.length then (match J[i.toNat]? with|some r=>if r.length=g/\g≠0 then some (.ip r) else none|none=>none) else none
  | .sl b j off len,some (_,g,_),_=>if 0<=i/\i<len/\(j=g\/j=0) then some (.ptr b (off+i.toNat*g)) else none
  |p,none,some (n,_,g)=>if 0<=i/\i<n then addA p (i.toNat*g) else none
  |_,_,_=>none
 |_=>none
theorem j5{e bt}(h:qA P t=some (e,sz,bt)):∃ i,P.underlying t=some (.slice e)/\P.info? e=some i/\i.size=sz/\i.bytes=bt:=by
 unfold qA at h;split at h
 .rename_i g l
  cases j:P.info? g with
  |none=>simp[j]at h
  |some i =>
   grind
 grind
theorem Kb{e n}(h:Qj P t=some (n,e,sz)):P.underlying t=some (.array n e)/\szOf P e=some sz:=by
 unfold Qj at h;split at h
 .rename_i l g o
  cases j:szOf P g with
  |none=>simp[j]at h
  |some i =>
   grind
 grind
theorem qbZ{ix v}(r:VRel G w.heap x v)(ri:VRel G w.heap ix u)(e:ZI P t x ix=some z) :
  ∃ y,(Instr.indexAt t v u).run P w = .ok y w/\VRel G w.heap z y:=by
 unfold ZI at e;split at e
 .rename_i k i
  cases ri;split at e
  .rename_i full J e' p bt hs
   split at e
   .rename_i I
    split at e
    .rename_i row j
     split at e
     .rename_i hz
      simp only[qo]at e;subst e;obtain⟨a1,R,l,C,a2⟩:=j5 hs;have o:szOf P e'=some p:=by simp[szOf,l,C]
      cases r with
      |nil=>simp at j
      |emp=>simp at j
      |lst _ _ g a cap cs el fr rd hb a3 hl hc T a4 hr hv =>
       have U:g=p:=by grind
       subst U;refine⟨.pointer (some (a.add (i.toNat*g))),?_,?_⟩
       .simp [Instr.indexAt,asIntOf,run_underlying R,I,yJ o]
       .have h1:(a.add (i.toNat*g)).block=a.block:=by unfold Addr.add;split<;>rfl
        have h2:(a.add (i.toNat*g)).spot=none:=by unfold Addr.add;split<;>simp[a3]
        have h3:(a.add (i.toNat*g)).off=a.off+i.toNat*g:=by unfold Addr.add;split<;>simp_all
        refine .ip _ _ cs el fr (fun k=>rd (i.toNat*g+k)) (by rw[h1];exact hb) h2 (by rw[h1];exact T) ?_ ?_
        .intro k x hx
         rw[h3,Nat.add_assoc];exact hr _ x (Ua a4 j hx)
        grind [Ua]
     grind
    grind
   grind
  .rename_i b g off len e' p bt hs
   split at e
   .rename_i I
    obtain⟨a5,a6,_⟩:=I;simp only[qo]at e;subst e;obtain⟨a1,R,l,C,a2⟩:=j5 hs;have o:szOf P e'=some p:=by simp[szOf,l,C]
    cases r with
    |sl _ _ _ _ a0 a7 cap hb ht hl =>
     refine⟨.pointer (some ((⟨a0,off,none⟩:Addr).add (i.toNat*p))),?_,sU (.ptr b off a0 a7 hb) _⟩;simp[Instr.indexAt,asIntOf,run_underlying R,a5,a6,yJ o]
   grind
  .rename_i n e' p ha
   split at e
   .rename_i I
    obtain⟨R,o⟩:=Kb ha;obtain⟨a,rfl,hz⟩:=X9 r e;refine⟨_,?_,hz⟩;simp[Instr.indexAt,asIntOf,run_underlying R,Instr.sureAddr,I,yJ o]
   .exact absurd e zSp
  grind
 grind
end
end Go.Ev
namespace Go.Ev
open Go Go.RowKit
section
variable {z:AV}{h:Array Obj}{G:Gh}{xs:List (List AV)}{g:Option Int}{vhi vlo vmx:Option qg}{P:qb}{t:qd}{w:qf}
@[go_sem] def Jj(P:qb)(t:qd)(cs:List AV)(off:Nat):Option AV:=
 match qT P t,szOf P t with
 |some true,some n=>if off+n<=cs.length then some (.agg ((cs.drop off).take n)) else none
 |some false,_=>cs[off]?
 |_,_=>none
theorem Kc{cs vs off}
  (r:vs.size=cs.length) (i:∀(k) x,cs[k]?=some x->VRel G w.heap x (vs.getD k j2)) (h:Jj P t cs off=some z) :
  ∃ u,(part t vs off).run P w = .ok u w/\VRel G w.heap z u:=by
 unfold Jj at h;split at h
 .rename_i n j l
  split at h
  .rename_i o
   simp only[qo]at h;subst h;refine⟨.agg (vs.extract off (off+n)),by simp[part,Jh j,yJ l],.agg _ _ zSo ?_⟩;intro k x g;rw[yG]at g;split at g
   .rename_i C
    rw[jX]at g;have:=i _ x g;have e:(vs.extract off (off+n)).getD k j2=vs.getD (off+k) j2:=by
     simp only[qK]
     grind
    rw[e];exact this
   grind
  grind
 .rename_i j
  have:=i off z h;have p:off<cs.length:=(qi.1 h).1;simp_all[j2,part,Jh,qK]
 grind
@[go_sem] def ZJ(P:qb)(s f:Nat)(x:AV):Option AV:=
 match x with
 | .agg g=>(qC P s f).bind fun (off,t,_)=>Jj P t g off
 |_=>none
theorem qb0{s f x v}(r:VRel G w.heap x v)(e:ZJ P s f x=some z) :
  ∃ u,(Instr.field s v f).run P w = .ok u w/\VRel G w.heap z u:=by
 unfold ZJ at e;split at e
 .rename_i C
  cases r with
  |agg _ j g i =>
  cases hf:qC P s f with
  |none=>simp[hf]at e
  |some y =>
   obtain⟨off,t,n⟩:=y;simp only[hf,Option.bind_some]at e;obtain⟨I,J,R,l,rfl,rfl,o,p⟩:=Ka hf;obtain⟨u,T,U⟩:=Kc g i e;simp_all[Instr.field,run_underlying,asAgg]
 grind
@[go_sem] def ZK(P:qb)(t:qd)(x g:AV):Option AV:=
 match g with
 | .sc (.int _ i) =>
  match x with
  | .agg j=>match Qj P t with
   |some (n,e,p)=>if 0<=i/\i<n then Jj P e j (i.toNat*p) else none
   |none=>none
  | .sc (.string s)=>match P.underlying t with
   |some .string=>if 0<=i then (match s.data[i.toNat]? with|some b=>some (.sc (.int .u8 b.toNat))|none=>none) else none
   |_=>none
  |_=>none
 |_=>none
theorem qb1{x C v u}(r:VRel G w.heap x v)(U:VRel G w.heap C u)(e:ZK P t x C=some z) :
  ∃ y,(Instr.index t v u).run P w = .ok y w/\VRel G w.heap z y:=by
 unfold ZK at e;split at e
 .rename_i k i
  cases U;split at e
  .rename_i cs
   cases r with
   |agg _ j hn hv =>
   split at e
   .rename_i n el p ha
    split at e
    .rename_i I
     obtain⟨J,a0⟩:=Kb ha;obtain⟨y,h1,R⟩:=Kc hn hv e;simp_all[Instr.index,asIntOf,run_underlying,yJ]
    grind
   grind
  .rename_i s
   cases r;split at e
   .rename_i J
    split at e
    .rename_i I
     split at e
     .rename_i b T
      simp only[qo]at e;subst e;refine⟨.int .u8 b.toNat,?_,.sc _ rfl⟩;have l:i.toNat<s.data.size:=(zU.1 T).1;have o:s[i.toNat]?=some b:=by
       have R:s.data[i.toNat]=b:=(zU.1 T).2;have g:i.toNat<s.size:=l;rw[getElem?_pos s i.toNat g];exact congrArg some R
      simp[Instr.index,asIntOf,run_underlying J,I,o]
     grind
    grind
   grind
  grind
 grind
@[go_sem] def optI:Option AV->Option (Option Int)
 |none=>some none
 |some (.sc (.int _ n))=>some (some n)
 |_=>none
@[go_sem] def ZL(P:qb)(t:qd)(x:AV)(lo g mx:Option AV):Option AV:=
 match optI lo,optI g,optI mx with
 |some lo,some g,some mx =>
  match x,P.underlying t with
  | .lst full J,some (.slice _) =>
   let n:Int:=J.length
   let h:=g.getD n
   let l:=lo.getD 0
   match mx with
   |none=>if 0<=l/\l<=h/\h<=n then some (.lst (full&&decide (h=n)) ((J.take h.toNat).drop l.toNat)) else none
   |some m=>if 0<=l/\l<=h/\h<=m/\m<=n/\g.isSome then some (.lst (decide (m=h)) ((J.take h.toNat).drop l.toNat)) else none
  | .sl b p off len,some (.slice e) =>
   let h:=g.getD len
   let l:=lo.getD 0
   match mx with
   |none=>if 0<=l/\l<=h/\h<=len/\(l=0\/l<len)/\szOf P e=some p then some (.sl b p (off+l.toNat*p) (h-l).toNat) else none
   |some _=>none
  | .ip i,some (.array n e) =>
   let h:=g.getD n
   let l:=lo.getD 0
   match mx with
   |none=>if 0<=l/\l<=h/\h<=n/\(l=0\/l<n)/\szOf P e=some 1/\i.length=n then some (.lst (decide (h=n)) (((i.take h.toNat).drop l.toNat).map fun c=>[c])) else none
   |some _=>none
  | .ptr b off,some (.array n e) =>
   match mx with
   |none=>if off=0/\lo.getD 0=0/\0<=g.getD n/\g.getD n<=n/\(szOf P e).isSome=true then some (.sl b 0 0 (g.getD n).toNat) else none
   |some _=>none
  | .sc (.string s),some .string =>
   let n:Int:=s.size
   let h:=g.getD n
   let l:=lo.getD 0
   match mx with
   |none=>if 0<=l/\l<=h/\h<=n then some (.sc (.string (s.extract l.toNat h.toNat))) else none
   |some _=>none
  |_,_=>none
 |_,_,_=>none
theorem ur{k}{i:Int}{y:Nat}{c}(g:0<=i)(j:i<=y):(Instr.sliceBound (.int k i) y c).run P w = .ok i.toNat w:=by
 simp[Instr.sliceBound,asIntOf,g,j]
theorem Ue{o}(e:optI o=some g) :
  ∀{v},(∀ x,o=some x->∃ u,v=some u/\VRel G h x u)->(o=none->v=none)->(g=none/\v=none)\/∃ k n,g=some n/\v=some (.int k n):=by
 intro v i j;unfold optI at e;split at e
 .grind
 .rename_i k n
  simp only[qo]at e;obtain⟨u,l,r⟩:=i _ rfl;cases r
  grind
 grind
theorem Qm{isSlice}{len cap:Nat}{lo mx}
  (j:(lo=none/\vlo=none)\/∃ k n,lo=some n/\vlo=some (.int k n)) (o:(g=none/\vhi=none)\/∃ k n,g=some n/\vhi=some (.int k n))
  (p:(mx=none/\vmx=none)\/∃ k n,mx=some n/\vmx=some (.int k n)) (r:mx.isSome=true->g.isSome=true)
  (U:0<=lo.getD 0) (h1:lo.getD 0<=g.getD len) (h2:g.getD len<=mx.getD cap) (h3:mx.getD cap<=cap) (T:len<=cap) :
  (Instr.sliceBounds isSlice len cap vlo vhi vmx).run P w = .ok ((lo.getD 0).toNat,(g.getD len).toNat,(mx.getD cap).toNat) w:=by
 rcases j with ⟨rfl,rfl⟩|⟨R,l,rfl,rfl⟩<;>rcases o with ⟨rfl,rfl⟩|⟨t,h,rfl,rfl⟩<;>rcases p with ⟨rfl,rfl⟩|⟨C,m,rfl,rfl⟩<;>simp only[Option.getD_none,Option.getD_some]at * <;>
  simp only[Option.isSome_none,Option.isSome_some,reduceCtorEq,imp_false,not_true_eq_false]at r
 .simp [Instr.sliceBounds]
 .grind [Instr.sliceBound,ur,Instr.sliceBounds,qE,zg,qH]
 .have I:(Instr.sliceBound (.int C m) cap (if isSlice then .slice3Acap else .slice3Alen)).run P w = .ok m.toNat w:=ur zOm zOm
  have i:(Instr.sliceBound (.int t h) m.toNat .slice3B).run P w = .ok h.toNat w:=ur zOm zOm;simp only[Instr.sliceBounds,qE,zg,qH,i,I];simp
 .grind [Instr.sliceBound,ur,Instr.sliceBounds,qE,zg,qH]
 .have i:(Instr.sliceBound (.int t h) cap (if isSlice then .sliceAcap else .sliceAlen)).run P w = .ok h.toNat w:=ur zOm zOm
  have J:(Instr.sliceBound (.int R l) h.toNat (if (none:Option qg).isSome then .slice3C else .sliceB)).run P w = .ok l.toNat w:=ur zOm zOm;simp only[Instr.sliceBounds,qE,zg,qH,J,i];simp
 .have I:(Instr.sliceBound (.int C m) cap (if isSlice then .slice3Acap else .slice3Alen)).run P w = .ok m.toNat w:=ur zOm zOm
  have i:(Instr.sliceBound (.int t h) m.toNat .slice3B).run P w = .ok h.toNat w:=ur zOm zOm;have J:(Instr.sliceBound (.int R l) h.toNat (if (some (Value.int C m)).isSome then .slice3C else .sliceB)).run P w = .ok l.toNat w:=ur zOm zOm;simp only[Instr.sliceBounds,qE,zg,qH,J,i,I]
theorem Ke{sz}:(∀ r,r∈xs->r.length=sz)->∀ l,(xs.drop l).flatten=xs.flatten.drop (l*sz):=by
 induction xs with
 |nil=>intro _ l;simp
 |cons y o g =>
  intro i l;cases l with
  |zero=>simp
  |succ l =>
   simp only[List.drop_succ_cons,uY];rw[g (fun r j=>i r (zP1 j)),Nat.succ_mul,Nat.add_comm,<-List.drop_drop]
   grind
theorem sV{full sz a cap l i m}
  (r:VRel G h (.lst full xs) (.slice a xs.length cap)) (J:∀ x,x∈xs->x.length=sz) (h1:l<=i) (P:i<=xs.length) (h3:i<=m) (hm:m<=cap) (j) (hf:j=true->m=i) :
  VRel G h (.lst j ((xs.take i).drop l)) (.slice (if m=l then a else a.map (·.add (l*sz))) (i-l) (m-l)):=by
 have a2:((xs.take i).drop l).length=i-l:=zSo;by_cases he:i=l
 .subst he
  have o:(xs.take i).drop i=[]:=jY zOm;rw[o,Nat.sub_self];cases a with
  |none =>
   have:xs=[]/\cap=0:=by cases r;exact⟨rfl,rfl⟩
   have R:m=0:=zOm;subst R;simp;exact .nil j
  |some a =>
   have:(if m=i then some a else (some a).map (·.add (i*sz)))=some (if m=i then a else a.add (i*sz)):=by split<;>rfl
   rw[this];exact .emp j _ _ (fun h=>zW1 (hf h))
 .have T:m≠l:=by omega
  rw[if_neg T];generalize a3:xs.length=n at r;cases r with
  |nil=>simp at P;omega
  |emp=>simp at P;omega
  |lst _ _ g a cap cs e fr rd hb hs hl hc U hz C hv =>
   have a0:xs≠[]:=by intro e;subst e;simp at P;omega
   obtain⟨y,hy⟩:∃ y,y∈xs:=List.exists_mem_of_ne_nil xs a0;have p:g=sz:=by rw[<-hz y hy,J y hy]
   subst p;have t:(a.add (l*g)).block=a.block:=by unfold Addr.add;split<;>rfl
   have a1:(a.add (l*g)).spot=none:=by unfold Addr.add;split<;>simp[hs]
   have a4:(a.add (l*g)).off=a.off+l*g:=by unfold Addr.add;split<;>simp_all
   have key:∀(k:Nat) x,((xs.take i).drop l).flatten[k]?=some x->xs.flatten[l*g+k]?=some x:=by
    intro k x I;rw[Ke (fun r C=>hz r (ja C)),jX]at I
    grind [List.flatten_append,un,ze,qi]
   have:=VRel.lst (G:=G) (h:=h) j ((xs.take i).drop l) g (a.add (l*g)) (m-l) cs e fr (fun k=>rd (l*g+k)) (by rw[t];exact hb) a1 zOm (fun h=>zW1 (hf h)) (by rw[t];exact U)
    (fun r C=>hz r (ja (List.mem_of_mem_drop C))) (fun k x I=>by grind) (fun k x I=>hv _ x (key k x I))
   grind
theorem VRel.lst_inv{full v}(r:VRel G h (.lst full xs) v) :
  ∃ a cap,v = .slice a xs.length cap/\xs.length<=cap/\(full=true->cap=xs.length)/\(∃ sz,∀ x,x∈xs->x.length=sz):=by
 cases r with
 |nil=>exact⟨none,0,rfl,qs _,fun _=>rfl,0,zSp⟩
 |emp _ a cap g=>exact⟨some a,cap,rfl,Nat.zero_le _,g,0,zSp⟩
 |lst _ _ sz a cap l e o rd p t i g C j I J=>exact⟨some a,cap,rfl,i,g,sz,j⟩
def yd(sz:Nat)(xs:List (List AV)):Prop:=∀ r,r∈xs->r.length=sz
theorem qb2{x lo hi mx v}(r:VRel G w.heap x v)
  (a6:∀ y,lo=some y->∃ u,vlo=some u/\VRel G w.heap y u) (a0:lo=none->vlo=none) (a7:∀ y,hi=some y->∃ u,vhi=some u/\VRel G w.heap y u) (a1:hi=none->vhi=none)
  (a8:∀ y,mx=some y->∃ u,vmx=some u/\VRel G w.heap y u) (a2:mx=none->vmx=none)
  (a9:∀ full xs,x = .lst full xs->∃ e sz bt,qA P t=some (e,sz,bt)/\yd sz xs)
  (e:ZL P t x lo hi mx=some z):∃ y,(Instr.sliceAt t v vlo vhi vmx).run P w = .ok y w/\VRel G w.heap z y:=by
 unfold ZL at e;split at e
 .rename_i g o ar aa ad ae
  have J:=Ue (G:=G) (h:=w.heap) aa a6 a0;have R:=Ue (G:=G) (h:=w.heap) ad a7 a1;have T:=Ue (G:=G) (h:=w.heap) ae a8 a2;clear aa ad ae a6 a0 a7 a1 a8 a2;split at e
  .rename_i full xs el U
   obtain⟨a,cap,rfl,af,ak,_⟩:=r.lst_inv;obtain⟨e',sz,bt,hs,ag⟩:=a9 full xs rfl;obtain⟨au,ah,ai,al,av⟩:=j5 hs;have an:e'=el:=by rw[U]at ah;simpa using ah.symm
   subst an;have C:szOf P e'=some sz:=by simp[szOf,ai,al]
   simp only at e;split at e
   .split at e
    .rename_i hc
     obtain⟨c1,c2,c3⟩:=hc;simp only[qo]at e;subst e;have i:=Qm (P:=P) (w:=w) (isSlice:=true) (len:=xs.length) (cap:=cap) J R T zSp c1 c2 zSo zSp af;refine⟨_,by simp only[Instr.sliceAt,Instr.slice,qE,run_underlying U,qH,i,yJ C,zg];rfl,?_⟩;have hl:(g.getD 0).toNat<=(o.getD xs.length).toNat:=zOm;simp only[Option.getD_none,Int.toNat_natCast];exact sV r ag hl zOm zOm (qs _) _ (fun hf=>by
      simp only[qu,decide_eq_true_eq]at hf;have:=ak hf.1;omega)
    .exact absurd e zSp
   .rename_i m
    split at e
    .rename_i hc
     obtain⟨c1,c2,c3,c4,c5⟩:=hc;simp only[qo]at e;subst e;have i:=Qm (P:=P) (w:=w) (isSlice:=true) (len:=xs.length) (cap:=cap) J R T (fun _=>c5) c1 c2 (by simpa using c3) zSo af;refine⟨_,by simp only[Instr.sliceAt,Instr.slice,qE,run_underlying U,qH,i,yJ C,zg];rfl,?_⟩;have hl:(g.getD 0).toNat<=(o.getD xs.length).toNat:=zOm;simp only[Option.getD_some];exact sV r ag hl zOm zOm zOm _ (fun hf=>by
      simp only[decide_eq_true_eq]at hf;omega)
    .exact absurd e zSp
  .rename_i b sz off len el U
   simp only at e;split at e
   .split at e
    .rename_i hc
     obtain⟨c1,c2,c3,c4,C⟩:=hc;simp only[qo]at e;subst e;cases r with
     |sl _ _ _ _ p a4 cap hb ht hl =>
     have i:=Qm (P:=P) (w:=w) (isSlice:=true) (len:=len) (cap:=cap) J R T zSp c1 c2 zSo zSp hl;refine⟨_,by simp only[Instr.sliceAt,Instr.slice,qE,run_underlying U,qH,i,yJ C,zg];rfl,?_⟩;simp only[Option.getD_none,Int.toNat_natCast];have e1:(if cap=(g.getD 0).toNat then some (⟨p,off,none⟩:Addr) else (some (⟨p,off,none⟩:Addr)).map (·.add ((g.getD 0).toNat*sz)))=some ⟨p,off+(g.getD 0).toNat*sz,none⟩:=by
      split
      .rename_i aj
       have:(g.getD 0).toNat=0:=zOm;simp[this]
      .simp only[qZ,Addr.add]
       split<;>simp_all
     rw[e1,show (o.getD (len:Int)).toNat-(g.getD 0).toNat=(o.getD (len:Int)-g.getD 0).toNat by omega];refine .sl b sz _ _ p a4 _ hb ?_ zOm;have aw:(g.getD 0).toNat<=cap:=zOm;refine zS (Nat.le_of_eq ?_) ht;rw[Nat.add_assoc,<-Nat.add_mul];congr 2;omega
    .exact absurd e zSp
   .exact absurd e zSp
  .rename_i cs n el U
   simp only at e;split at e
   .split at e
    .rename_i hc
     obtain⟨c1,c2,c3,c4,C,ax⟩:=hc;simp only[qo]at e;subst e;cases r with
     |ip _ a arr e' fr rd hb hs hi hr hv =>
     obtain⟨ab,ao,ay⟩:=a;simp only at hb hs hi hr;subst hs;have i:=Qm (P:=P) (w:=w) (isSlice:=false) (len:=n) (cap:=n) J R T zSp c1 c2 zSo zSp (qs n);refine⟨_,by simp only[Instr.sliceAt,Instr.sureAddr,qE,run_underlying U,qH,i,yJ C,zg];rfl,?_⟩;simp only[Option.getD_none,Int.toNat_natCast,Nat.mul_one];have e1:(some (if n=(g.getD 0).toNat then (⟨ab,ao,none⟩:Addr) else (⟨ab,ao,none⟩:Addr).add (g.getD 0).toNat))=some ⟨ab,ao+(g.getD 0).toNat,none⟩:=by
      split
      .rename_i aj
       have:(g.getD 0).toNat=0:=zOm;simp[this]
      .simp only[Addr.add]
       split<;>simp_all
     rw[e1];have I:(((cs.take (o.getD (n:Int)).toNat).drop (g.getD 0).toNat).map fun c=>[c]).length=(o.getD (n:Int)).toNat-(g.getD 0).toNat:=by
      simp only[yi,List.length_drop,uZ];omega
     have a5:∀ l:List AV,(l.map fun c=>[c]).flatten=l:=by
      intro l;induction l with
      |nil=>rfl
      |cons x l ih=>simp[ih]
     by_cases h0:(o.getD (n:Int)).toNat-(g.getD 0).toNat=0
     .rw [h0]
      have:(((cs.take (o.getD (n:Int)).toNat).drop (g.getD 0).toNat).map fun c=>[c])=[]:=jY (by rw[I,h0]);rw[this];exact .emp _ _ _ (fun h=>by rw[decide_eq_true_eq]at h;omega)
     .rw [<-I]
      have a3:∀(k:Nat) x,(((cs.take (o.getD (n:Int)).toNat).drop (g.getD 0).toNat).map fun c=>[c]).flatten[k]?=some x->cs[(g.getD 0).toNat+k]?=some x:=by
       intro k x hx;rw[a5,jX,yG]at hx;split at hx
       .exact hx
       .exact absurd hx zSp
      refine .lst _ _ 1 ⟨ab,ao+(g.getD 0).toNat,none⟩ _ arr e' fr (fun k=>rd ((g.getD 0).toNat+k)) hb rfl (by rw[I];omega) (fun h=>by rw[decide_eq_true_eq]at h;rw[I];omega) hi ?_ ?_ ?_
      .intro r aq
       obtain⟨c,_,rfl⟩:=qp.1 aq;rfl
      .intro k x hx
       have:=hr _ x (a3 k x hx);simpa[Nat.add_assoc] using this
      .intro k x hx
       exact hv _ x (a3 k x hx)
    .exact absurd e zSp
   .exact absurd e zSp
  .rename_i b off n el U
   split at e
   .split at e
    .rename_i hc
     obtain⟨rfl,c1,c2,c3,c4⟩:=hc;obtain⟨sz,C⟩:=Option.isSome_iff_exists.1 c4;simp only[qo]at e;subst e;cases r with
     |ptr _ _ p a4 hb =>
     have i:=Qm (P:=P) (w:=w) (isSlice:=false) (len:=n) (cap:=n) J R T zSp zOm zOm zSo zSp (qs n);refine⟨_,by simp only[Instr.sliceAt,Instr.sureAddr,qE,run_underlying U,qH,i,yJ C,zg];rfl,?_⟩;simp only[Option.getD_none,Int.toNat_natCast,c1,Int.toNat_zero,Nat.zero_mul,Nat.sub_zero];have e1:(some (if n=0 then (⟨p,0,none⟩:Addr) else (⟨p,0,none⟩:Addr).add 0))=some ⟨p,0,none⟩:=by
      split
      .rfl
      .simp only[Addr.add]
       split<;>simp_all
     rw[e1];exact .sl b 0 0 _ p a4 n hb zSp zOm
    .exact absurd e zSp
   .exact absurd e zSp
  .rename_i s U
   cases r;simp only at e;split at e
   .split at e
    .rename_i hc
     obtain⟨c1,c2,c3⟩:=hc;simp only[qo]at e;subst e;rcases T with ⟨_,rfl⟩|⟨_,_,h,_⟩
     .have i:=Qm (P:=P) (w:=w) (isSlice:=false) (len:=s.size) (cap:=s.size) J R (mx:=none) (vmx:=none) (.inl ⟨rfl,rfl⟩) zSp c1 c2 (by simp<;>omega) zSp (qs _)
      exact⟨_,by simp only[Instr.sliceAt,Instr.slice,qE,run_underlying U,qH,i,zg,Option.isSome_none,Bool.false_eq_true,if_false],.sc _ rfl⟩
     .exact absurd h zSp
    .exact absurd e zSp
   .exact absurd e zSp
  .exact absurd e zSp
 .exact absurd e zSp
end
end Go.Ev
namespace Go.Ev
open Go Go.RowKit
theorem qb3(off):∀(l:List qg)(s cs),((l.zipIdx s).foldl (fun (cs:Array qg) (x:qg×Nat)=>cs.setIfInBounds (off+x.2) x.1) cs).size=cs.size:=by
 intro l;induction l with
 |nil=>intro s cs;rfl
 |cons y r g=>simp_all
theorem qb4(off):∀(l:List qg)(s cs k),off+s+l.length<=cs.size ->
  ((l.zipIdx s).foldl (fun (cs:Array qg) (x:qg×Nat)=>cs.setIfInBounds (off+x.2) x.1) cs).getD k j2 =
   if off+s<=k/\k<off+s+l.length then l.getD (k-(off+s)) j2 else cs.getD k j2:=by
 intro l;induction l with
 |nil=>simp_all[if_neg,List.length_nil]
 |cons y r i =>
  intro s cs k h;simp only[zC]at h;simp only[List.zipIdx_cons,List.foldl_cons];rw[i (s+1) _ k zSo];by_cases g:off+(s+1)<=k/\k<off+(s+1)+r.length
  .rw [if_pos g,if_pos (by grind)]
   rw[show k-(off+s)=(k-(off+(s+1)))+1 by omega];simp
  .rw [if_neg g]
   by_cases j:k=off+s
   .subst j
    rw[if_pos zSp];simp[qK,show off+s<cs.size by omega]
   .rw [if_neg (by grind)]
    simp only[qK]
    grind
@[go_sem] def u3(place:Nat->Option (Nat×Nat))(cells:List AV):List (Nat×AV)->Option (List AV)
 | []=>some cells
 | (i,v) :: g =>
  match place i with
  |none=>none
  |some (off,size)=>if v.cells.length=size/\off+size<=cells.length/\v.cells.all AV.one=true then u3 place (qQ cells off v.cells) g else none
theorem Kf(cells off xs)(h:off+xs.length<=cells.length):(qQ cells off xs).length=cells.length:=by
 grind [jk]
theorem qb5(cells off xs)(h:off+xs.length<=cells.length)(k) :
  (qQ cells off xs)[k]?=if off<=k/\k<off+xs.length then xs[k-off]? else cells[k]?:=by
 rw[jk _ _ _ h,zm];by_cases g:k<off
 .rw [zIn,ze zSo,yG,if_pos g]
 .have i:(cells.take off).length=off:=by simp;omega
  rw[zK zOm,i];by_cases j:k<off+xs.length
  .rw [if_pos zOm,zGa]
  .rw [zIn,zK zOm,jX]
   congr 1;omega
def ZM(G:Gh)(h:Array Obj):List (Nat×AV)->List (Nat×qg)->Prop
 | [],[]=>True
 | (i,x) :: J,(j,v) :: g=>i=j/\VRel G h x v/\ZM G h J g
 |_,_=>False
theorem Kg{G h place}:∀ ps vs cells arr z,ZM G h ps vs ->
  arr.size=cells.length->(∀(k) x,cells[k]?=some x->VRel G h x (arr.getD k j2))->u3 place cells ps=some z ->
  ∃ r,Instr.fill place arr vs=some r/\r.size=z.length/\z.length=cells.length/\∀(k) x,z[k]?=some x->VRel G h x (r.getD k j2):=by
 intro ps;induction ps with
 |nil =>
  intro vs cells arr z l t I h;cases vs with
  |nil =>
   simp only[u3,qo]at h;subst h;exact⟨arr,rfl,t,rfl,I⟩
  |cons=>exact l.elim
 |cons p ps J =>
  intro vs cells arr z l t I h;obtain⟨i,x⟩:=p;cases vs with
  |nil=>exact l.elim
  |cons q vs =>
   obtain⟨j,v⟩:=q;obtain⟨rfl,P,l⟩:=l;simp only[u3]at h;split at h
   .grind
   .rename_i off size R
    split at h
    .rename_i g
     obtain⟨c1,c2,c3⟩:=g;obtain⟨T,o,C⟩:=P.cells (fun c U=>by grind);have hl:v.cells.toList.length=size:=zSo;obtain⟨r,h1,h2,h3,h4⟩:=J vs (qQ cells off x.cells) (v.cells.zipIdx.foldl (fun cs (x:qg×Nat)=>cs.setIfInBounds (off+x.2) x.1) arr) z l
      (by rw[Kf _ _ _ zOm,<-Array.foldl_toList,Array.toList_zipIdx,qb3,t])
      (by
       intro k y hk;rw[qb5 _ _ _ zOm]at hk;rw[<-Array.foldl_toList,Array.toList_zipIdx,qb4 off _ 0 arr k zOm];by_cases a0:off<=k/\k<off+x.cells.length
       .simp_all
       grind) h
     simp_all[Kf,Instr.fill,if_neg]
    grind
def yK(P:qb)(t:qd):Option (Nat->Option (Nat×Nat)):=
 match P.underlying t with
 |some (.array _ e)=>(szOf P e).map fun s=>fun i=>some (i*s,s)
 |some (.struct j)=>(j.toList.mapM (fun f=>(P.info? f.type).map fun i=>(f.offset,i.size))).map fun g=>fun i=>g.toArray[i]?
 |_=>none
@[go_sem] def ZN(P:qb)(t:qd)(ps:List (Nat×AV)):Option AV:=
 match qz P t,yK P t with
 |some z,some place=>(u3 place z.cells ps).map .agg
 |_,_=>none
theorem ZO{G h}(v)(g:∀ c,c∈(ofV v).cells->c.one=true) :
  v.cells.size=(ofV v).cells.length/\∀(k) x,(ofV v).cells[k]?=some x->VRel G h x (v.cells.getD k j2):=
 let ⟨i,j,_⟩:=(VRel.ofV (G:=G) (h:=h) v).cells g
 ⟨i,j⟩
theorem qb6{P G w t ps vs z}(I:ZM G w.heap ps vs.toList)
  (J:∀ y,qz P t=some y->y.cells.all AV.one=true) (e:ZN P t ps=some z):∃ u,(Instr.build t vs).run P w = .ok u w/\VRel G w.heap z u:=by
 unfold ZN at e;split at e
 .rename_i p place g j
  cases hf:u3 place p.cells ps with
  |none=>simp[hf]at e
  |some r =>
   simp only[hf,qZ,qo]at e;subst e;have R:=J p g;unfold qz at g;cases l:P.info? t with
   |none=>simp[l]at g
   |some it =>
    simp only[l,Option.bind_some,yA]at g;obtain⟨v,hv,rfl⟩:=g;obtain⟨g1,T⟩:=ZO (G:=G) (h:=w.heap) v (fun c hc=>by grind);obtain⟨C,h1,U,h3,h4⟩:=Kg ps vs.toList _ v.cells r I g1 T hf;refine⟨.agg C,?_,.agg _ _ U h4⟩;refine run_build w t vs C ?_;unfold yK at j;unfold Program.built;split at j
    .rename_i n el hu
     cases a0:P.info? el with
     |none=>grind [szOf]
     |some ie =>
      grind [szOf,qo]
    .rename_i fs hu
     cases hm:fs.toList.mapM (fun f=>(P.info? f.type).map fun i=>(f.offset,i.size)) with
     |none=>simp[hm]at j
     |some o =>
      grind
    grind
 grind
end Go.Ev
namespace Go.Ev
open Go Go.RowKit
section
variable {G:Gh}{xs:List (List AV)}{mu:Mu}{sz:Nat}{P:qb}{w:qf}
def zb(sz:Nat)(xs:List (List AV)):Prop:=∀ r,r∈xs->r.length=sz/\r.all AV.one=true
theorem zb.ok(h:zb sz xs):yd sz xs:=fun r g=>(h r g).1
theorem zb.one(h:zb sz xs):∀ c,c∈xs.flatten->c.one=true:=by
 intro c i;obtain⟨r,j,g⟩:=V5.1 i;exact by simpa using q8.1 (h r j).2 c g
theorem Uf(l:List qg)(k):l.toArray.getD k j2=l.getD k j2:=by
 simp[qK,zf]
theorem Kh(s:Sim G mu w.heap){x v}(t)(r:VRel G w.heap x v)(o:x.cells.all AV.one=true) :
  ∃ G',(newVar t v).run P w = .ok ⟨w.heap.size,0,none⟩ (w.alloc (.cells v.cells t))/\Stp G mu w G' (mu++[.arr x.cells]) (w.alloc (.cells v.cells t)) /\
   VRel G' (w.alloc (.cells v.cells t)).heap (.ptr mu.length 0) (.pointer (some ⟨w.heap.size,0,none⟩)):=by
 obtain⟨i,g,_⟩:=r.cells (fun c p=>by grind);refine⟨_,rfl,sR s (.cells v.cells t) (.arr x.cells) v.cells.size ?_,.ptr _ 0 w.heap.size v.cells.size ?_⟩
 .intro _
  refine⟨v.cells,t,rfl,rfl,zOm,fun j y l=>⟨by grind,g j y l⟩⟩
 .show (G.blk++[_])[mu.length]?=_
  rw[<-s.len];simp
theorem qb7(s:Sim G mu w.heap){x v}(t)(r:VRel G w.heap x v)(l:x.cells.all AV.one=true) :
  ∃ G',(newVar t v).run P w = .ok ⟨w.heap.size,0,none⟩ (w.alloc (.cells v.cells t))/\Stp G mu w G' mu (w.alloc (.cells v.cells t)) /\
   VRel G' (w.alloc (.cells v.cells t)).heap (.ip x.cells) (.pointer (some ⟨w.heap.size,0,none⟩)):=by
 obtain⟨i,g,_⟩:=r.cells (fun c o=>by grind);have st:=sB s (.cells v.cells t);refine⟨_,rfl,st,.ip _ _ v.cells t (0,0) (fun k=>v.cells.getD k j2) (Jg w _) rfl (.inr rfl) ?_ ?_⟩
 .simp_all [qi,qK]
 .intro k y j
  exact st.vrel s (g k y j)
theorem Ki(z n){k}{x:AV}(h:((zo n z).flatten)[k]?=some x):z[k % z.length]?=some x:=by
 induction n generalizing k with
 |zero=>simp at h
 |succ n g =>
  grind [uY,ze,Nat.mod_eq_of_lt,zK,Nat.mod_eq_sub_mod]
theorem Kj(z:List AV)(n):((zo n z).flatten).length=n*z.length:=by simp
@[go_sem] def Qn(sz:Nat):List (List AV)->List (Nat×AV)->Option (List (List AV))
 |rows,[]=>some rows
 |rows,(i,v) :: g=>if v.cells.length=sz/\i<rows.length/\v.cells.all AV.one=true then Qn sz (rows.set i v.cells) g else none
theorem Jk:∀ rows i r,yd sz rows->r.length=sz->i<rows.length->(rows.set i r).flatten=qQ rows.flatten (i*sz) r:=by
 intro rows;induction rows with
 |nil=>grind
 |cons y j C =>
  intro i r l p I;have P:y.length=sz:=l y zSp;have R:(y :: j).flatten.length=(j.length+1)*sz:=yc (xs:=y :: j) l;cases i with
  |zero =>
   grind [jk,Nat.succ_mul]
  |succ i =>
   simp only[List.set_cons_succ,uY];have o:i<j.length:=zUs I;have g:yd sz j:=fun r p=>l r (zP1 p)
   rw[C i r g p o];have t:i*sz+r.length<=j.flatten.length:=by
    rw[yc g,p];have:(i+1)*sz<=j.length*sz:=Nat.mul_le_mul_right _ o;rw[Nat.succ_mul]at this;exact this
   rw[jk _ _ _ t,jk _ _ _ (by simp only[qW,P,Nat.succ_mul];omega)];simp_all[Nat.succ_mul,Nat.add_comm,List.take_append,List.drop_append,List.take,List.take_of_length_le,List.drop]
theorem qb8:∀ ps rows g,yd sz rows->Qn sz rows ps=some g ->
  u3 (fun i=>some (i*sz,sz)) rows.flatten ps=some g.flatten/\yd sz g/\g.length=rows.length:=by
 intro ps;induction ps with
 |nil =>
  intro rows g j h;simp only[Qn,qo]at h;subst h;exact⟨rfl,j,rfl⟩
 |cons p ps t =>
  intro rows g j h;obtain⟨i,v⟩:=p;simp only[Qn]at h;split at h
  .rename_i C
   obtain⟨c1,c2,c3⟩:=C;have l:yd sz (rows.set i v.cells):=by
    intro r I;rcases List.mem_or_eq_of_mem_set I with h|h
    .exact j r h
    grind
   obtain⟨J,P,R⟩:=t _ g l h;refine⟨?_,P,by rw[R];simp⟩;simp only[u3];have o:i*sz+sz<=rows.flatten.length:=by
    rw[yc j];have:(i+1)*sz<=rows.length*sz:=Nat.mul_le_mul_right _ c2
    grind
   rw[if_pos ⟨c1,o,c3⟩,<-Jk rows i v.cells j c1 c2];exact J
  grind
@[go_sem] def ZP(P:qb)(t:qd)(len:Nat)(ps:List (Nat×AV)):Option AV:=
 match qA P t with
 |some (e,p,_) =>
  match qz P e with
  |some z=>if len*p<=16777216/\z.cells.length=p/\z.cells.all AV.one=true then (Qn p (zo len z.cells) ps).map (.lst true) else none
  |none=>none
 |none=>none
theorem Jl{t z}(h:qz P t=some z):∃ i v,P.info? t=some i/\i.zero=some v/\z=ofV v:=by
 unfold qz at h;cases g:P.info? t with
 |none=>simp[g]at h
 |some it =>
  simp only[g,Option.bind_some,yA]at h;obtain⟨v,j,rfl⟩:=h
  grind
theorem sJ{h b cap cs e g}(full)(i:h[b]?=some (.cells cs e g))(j:xs.length<=cap)(l:full=true->cap=xs.length)
  (o:G.imm b) (p:yd sz xs) (t:xs.flatten.length<=cs.size) (r:∀(k) x,xs.flatten[k]?=some x->VRel G h x (cs.getD k j2)):VRel G h (.lst full xs) (.slice (some ⟨b,0,none⟩) xs.length cap):=by
 refine .lst full xs sz ⟨b,0,none⟩ cap cs e g (fun k=>cs.getD k j2) i rfl j l o p ?_ r;intro k x C;have:k<cs.size:=by grind
 simp[qK,this]
theorem Kk{z:Array qg}{n k}(g:k<n)(i:0<z.size):(((Array.range n).map (z[· % z.size]!)).getD k j2)=z.getD (k % z.size) j2:=by
 simp_all[Nat.mod_lt,qK,getElem!_pos]
theorem qb9(s:Sim G mu w.heap){t len ps vs x}(hp:ZM G w.heap ps vs.toList)
  (e:ZP P t len ps=some x):Good P G mu w (Instr.buildSlice t len vs) x mu:=by
 unfold ZP at e;split at e
 .rename_i el p bt hs
  split at e
  .rename_i z hz
   split at e
   .rename_i hc
    obtain⟨c1,c2,c3⟩:=hc;cases o:Qn p (zo len z.cells) ps with
    |none=>simp[o]at e
    |some rows =>
     simp only[o,qZ,qo]at e;subst e;obtain⟨a4,hu,a3,a5,a6⟩:=j5 hs;have R:szOf P el=some p:=by grind [szOf]
     obtain⟨it,j,T,U,rfl⟩:=Jl hz;have C:yd p (zo len (ofV j).cells):=by
      intro r o;rw[List.eq_of_mem_replicate o];exact c2
     obtain⟨f1,f2,f3⟩:=qb8 ps _ rows C o;have g:=ZO (G:=G) (h:=w.heap) j (fun c hc=>by grind);have l:((zo len (ofV j).cells).flatten).length=len*p:=by rw[Kj,c2]
     obtain⟨arr,k1,k2,k3,k4⟩:=Kg (G:=G) (h:=w.heap) ps vs.toList _ ((Array.range (len*p)).map ((if len*p=0 then #[] else j.cells)[· % (if len*p=0 then #[] else j.cells).size]!)) _ hp (by simp[l])
      (by
       intro k y hk;have a0:k<len*p:=by grind
       have a1:¬len*p=0:=zOm;have:=Ki _ _ hk;rw[c2]at this;simp only[if_neg a1];have I:j.cells.size=p:=by rw[g.1,c2]
       rw[Kk a0 (by grind),I]
       grind) f1
     have st:=sB s (.cells arr el);have i:rows.length=len:=by rw[f3];simp
     refine⟨.slice (some ⟨w.heap.size,0,none⟩) len len,_,_,?_,st,?_⟩
     .have a7:(zeroValue el).run P w = .ok j w:=by simp[zeroValue,typeInfo,T,U]
      have a2:¬(len*p > 2 ^ 24):=zOm;simp only[Instr.buildSlice,qE,run_underlying hu,qH,yJ R,if_neg a2];by_cases h0:len*p=0
      .simp_all [if_pos,qE,qH,zg,newRow,run_newObj]
      simp_all[if_neg,qE,qH,zg,newRow,run_newObj]
     .have:=sJ (G:=⟨fun b=>G.imm b\/b=w.heap.size,G.blk⟩) (h:=(w.alloc (.cells arr el)).heap) (xs:=rows) (sz:=p) (b:=w.heap.size) (cap:=len) true (Jg w _) zOm (fun _=>i.symm) (.inr rfl) f2 zOm
       (fun k y hk=>st.vrel s (k4 k y hk))
      rw[i]at this;exact this
   grind
  grind
 grind
end
end Go.Ev
namespace Go.Ev
open Go Go.RowKit
theorem Stp.move{G mu w}(s:Sim G mu w.heap)(i c p o)(hc:mu[i]?=some c)(hd:c ≠ .dead)(hk:G.blk[i]?=some (p,o)) :
  Stp G mu w ⟨G.imm,G.blk++[(p,o)]⟩ (mu.set i .dead++[c]) w:=by
 have P:G.le ⟨G.imm,G.blk++[(p,o)]⟩:=⟨fun b h=>h,fun j x h=>by
  grind⟩
 have a3:=s.len;have a0:(mu.set i Cell.dead).length=mu.length:=zSp
 have r:∀(j:Nat)(l:Cell) b t,(mu.set i Cell.dead++[c])[j]?=some l->l ≠ .dead->(G.blk++[(p,o)])[j]?=some (b,t) ->
   (j<mu.length/\j≠i/\mu[j]?=some l/\G.blk[j]?=some (b,t))\/(j=mu.length/\l=c/\b=p/\t=o):=by
  intro j l b t J g R;rcases zL J with ⟨I,C⟩|⟨I,C⟩
  .grind
  .rcases zL R with ⟨h',_⟩|⟨_,h'⟩
   .omega
   .obtain ⟨rfl,rfl⟩:=Prod.mk.inj h'
    exact .inr ⟨zOm,C,rfl,rfl⟩
 refine⟨P,⟨by simp[s.len],s.imm,?_,?_,?_,s.tab⟩,fun _ _ _=>rfl,qs _,?_,fun b h => .inl h,rfl,rfl,rfl,qs _⟩
 .intro j l b t J g R
  rcases r j _ b t J g R with ⟨_,_,I,C⟩|⟨_,rfl,rfl,rfl⟩
  .obtain ⟨o',g1,g2⟩:=s.obj j l b t I g C
   exact⟨o',g1,g2.le P⟩
  .obtain ⟨o',g1,g2⟩:=s.obj i l b t hc hd hk
   exact⟨o',g1,g2.le P⟩
 .intro j l b t J g R
  rcases r j _ b t J g R with ⟨_,_,I,C⟩|⟨_,rfl,rfl,rfl⟩
  .exact s.live j l b t I g C
  .exact s.live i l b t hc hd hk
 .intro j k l ck b t t' J a1 g T U a2
  rcases r j _ b t J g U with ⟨l1,n1,I,C⟩|⟨l1,e1,e2,e3⟩<;>rcases r k _ b t' a1 T a2 with ⟨l2,n2,h3,h4⟩|⟨l2,e4,e5,e6⟩
  .exact s.inj j k l ck b t t' I h3 g T C h4
  .subst e5
   exact absurd (s.inj j i l c b t o I hc g hd C hk) n1
  .subst e2
   exact absurd (s.inj k i ck c b t' o h3 hc T hd h4 hk) n2
  .omega
 .intro b R
  obtain⟨j,l,t,J,g,U⟩:=R;rcases r j _ b t J g U with ⟨_,_,I,C⟩|⟨_,rfl,rfl,rfl⟩
  .exact .inl ⟨j,l,t,I,g,C⟩
  .exact .inl ⟨i,l,t,hc,hd,hk⟩
@[go_sem] def ZQ(n:Nat)(z:List AV):List AV:=
 match z with
 | [x]=>zo n x
 |z=>(zo n z).flatten
theorem Kl(n z):ZQ n z=(zo n z).flatten:=by
 unfold ZQ;split
 .simp
 .rfl
@[go_sem] def Qo(P:qb)(mu:Mu)(t:qd)(len cap:AV):Option (AV×Mu):=
 match len,cap,qA P t with
 | .sc (.int .i64 l),.sc (.int .i64 c),some (e,p,g) =>
  match qz P e with
  |some z=>if 0<=l/\l<=c/\c<=4294967296/\g<=16384/\z.cells.length=p/\z.cells.all AV.one=true/\p≠0 then
    some (.sl mu.length p 0 l.toNat,mu++[.arr (ZQ l.toNat z.cells)]) else none
  |none=>none
 |_,_,_=>none
theorem jb{n}(g : -9223372036854775808<=n)(i:n<=9223372036854775807):qw.wrap n=n:=IntWalk.i64_in n ⟨g,i⟩
theorem zWr{x}(g:-9223372036854775808<=x:=by omega)(i:x<=9223372036854775807:=by omega):qw.wrap x=x:=jb g i
theorem zWk(k:Nat)(g:-9223372036854775808<=(k:Int)+1:=by omega)(i:(k:Int)+1<=9223372036854775807:=by omega):qw.wrap ((k:Int)+1)=(k:Int)+1:=jb g i
theorem qcA{P G mu C w}(s:Sim G mu w.heap){t len cap x vl vc}(rl:VRel G w.heap len vl)(rc:VRel G w.heap cap vc)
  (e:Qo P mu t len cap=some (x,C)):Good P G mu w (Instr.makeSlice t vl vc) x C:=by
 unfold Qo at e;split at e
 .rename_i l c el p bt hs
  cases rl;cases rc;split at e
  .rename_i z hz
   split at e
   .rename_i hc
    obtain⟨c1,c2,c3,c4,c5,c6,c7⟩:=hc;simp only[qo,vu]at e;obtain⟨rfl,rfl⟩:=e;obtain⟨i,hu,I,a8,U⟩:=j5 hs;have a0:szOf P el=some p:=by grind [szOf]
    obtain⟨it,o,a1,a2,rfl⟩:=Jl hz;have g:=ZO (G:=G) (h:=w.heap) o (fun c hc=>by grind);have a3:(zeroValue el).run P w = .ok o w:=by simp[zeroValue,typeInfo,a1,a2]
    have a4:qw.wrap l=l:=zWr;have a5:qw.wrap c=c:=zWr;have a9:((i.bytes:Nat):Int)*c<=2 ^ 48:=by
     rw[U];have h1:(bt:Int)*c<=16384*4294967296:=Int.mul_le_mul zOm zOm zOm zOm;omega
    have J:o.cells.size=p:=by rw[g.1,c5]
    let arr:Array qg:=(Array.range (c.toNat*p)).map ((if c.toNat*p=0 then #[] else o.cells)[· % (if c.toNat*p=0 then #[] else o.cells).size]!)
    have R:arr.size=c.toNat*p:=by simp[arr]
    have aa:l.toNat*p<=c.toNat*p:=Nat.mul_le_mul_right _ zOm;have ab:(ZQ l.toNat (ofV o).cells).length=l.toNat*p:=by rw[Kl,Kj,c5]
    have st:=sR s (.cells arr el) (.arr (ZQ l.toNat (ofV o).cells)) (c.toNat*p) (by
     intro _;refine⟨arr,el,rfl,R,zOm,fun j y hj=>?_⟩;have ad:j<l.toNat*p:=by grind
     have a6:¬c.toNat*p=0:=zOm;rw[Kl]at hj;have hy:=Ki _ _ hj;refine⟨by grind,?_⟩;have:=g.2 _ y hy;simp only[arr,if_neg a6];rw[Kk zOm zOm,J,<-c5];exact this)
    refine⟨.slice (some ⟨w.heap.size,0,none⟩) l.toNat c.toNat,_,_,?_,st,?_⟩
    .have a7:(typeInfo el).run P w = .ok i w:=by simp[typeInfo,I]
     have n1:¬(((i.bytes:Nat):Int)*c > 2 ^ 48):=zOm;have r:((decide (c<0)||decide (((i.bytes:Nat):Int)*c > 2 ^ 48))||decide (l<0)||decide (l > c))=false:=by
      grind
     simp only[Instr.makeSlice,qE,run_underlying hu,qH,asInt,asIntOf,zg,a7,a4,a5,r,Bool.false_eq_true,if_false,run_askRoom,yJ a0];by_cases T:c.toNat*p=0
     .simp only[if_pos T,qE,zg,qH,newRow,run_newObj]
      simp only[arr,if_pos T];rfl
     .simp only[if_neg T,qE,a3,zg,qH,newRow,run_newObj]
      simp only[arr,if_neg T];rfl
    .refine .sl _ p 0 _ w.heap.size (c.toNat*p) c.toNat ?_ zOm zOm
     show (G.blk++[_])[mu.length]?=_;rw[<-s.len];simp
   grind
  grind
 grind
end Go.Ev
namespace Go.Ev
open Go Go.RowKit
section
variable {P:qb}{w:qf}
def qF(mu:Mu):AV->Option (List (List AV))
 | .lst _ J=>some J
 | .sl b p off len=>match mu[b]? with
  |some (.arr cells)=>if off+len*p<=cells.length then some ((qq len).map fun i=>(cells.drop (off+i*p)).take p) else none
  |_=>none
 |_=>none
theorem Ug(sz):∀(len)(cells:List AV),len*sz<=cells.length->((qq len).map fun i=>(cells.drop (i*sz)).take sz).flatten=cells.take (len*sz):=by
 intro len;induction len with
 |zero=>intro cells _;simp
 |succ n g =>
  intro cells h;rw[List.range_succ,zF,List.flatten_append,g cells (by rw[Nat.succ_mul]at h;omega)];simp only[List.map_cons,List.map_nil,uY,List.flatten_nil,List.append_nil,Nat.succ_mul];rw[List.take_add]
theorem Jm{G mu}(s:Sim G mu w.heap){x v ys sz}(r:VRel G w.heap x v)(h:qF mu x=some ys)(R:zb sz ys) :
  ∃(a:Option Addr) (cap:Nat) (news:List qg),v = .slice a ys.length cap/\news.length=ys.length*sz/\(∀ u∈news,u.oneCell'=true) /\
   (∀(k) y,ys.flatten[k]?=some y->VRel G w.heap y (news.getD k j2))/\(Builtin.firstCells sz ys.length v).run P w = .ok news.toArray w/\(Builtin.firstCells sz ys.length v).run P w.drew = .ok news.toArray w.drew:=by
 have fin:∀(a:Addr)(cap:Nat)(rd:Nat->qg),(∀(k:Nat) y,ys.flatten[k]?=some y->w.cell? (a.add k)=some (rd k)/\VRel G w.heap y (rd k))->v = .slice (some a) ys.length cap ->
   ∃(a:Option Addr) (cap:Nat) (news:List qg),v = .slice a ys.length cap/\news.length=ys.length*sz/\(∀ u∈news,u.oneCell'=true) /\
   (∀(k:Nat) y,ys.flatten[k]?=some y->VRel G w.heap y (news.getD k j2))/\(Builtin.firstCells sz ys.length v).run P w = .ok news.toArray w/\(Builtin.firstCells sz ys.length v).run P w.drew = .ok news.toArray w.drew:=by
  intro a cap rd T U;subst U;have l:=yc R.ok;have p:∀ k,k<ys.length*sz->∃ y,ys.flatten[k]?=some y:=fun k hk=>⟨ys.flatten[k]' zOm,by simp[l,hk]⟩
  refine⟨some a,cap,(qq (ys.length*sz)).map rd,rfl,zSp,?_,?_,?_,?_⟩
  .intro u hu
   obtain⟨k,hk,rfl⟩:=qp.1 hu;obtain⟨y,i⟩:=p k (zUs hk);exact(T k y i).2.one (R.one y (zh i))
  .grind
  .grind [Builtin.firstCells,run_loadCells]
  .simp only[Builtin.firstCells]
   exact run_loadCells w.drew a _ rd (fun j hj=>by simp_all)
 unfold qF at h;split at h
 .rename_i full J
  simp only[qo]at h;subst h;cases r with
  |nil=>exact⟨none,0,[],rfl,zSp,zSp,zSp,by simp[Builtin.firstCells],by simp[Builtin.firstCells]⟩
  |emp _ a cap hc=>simp_all
  |lst _ _ g a cap cs e fr rd hb hs hl hc hi a2 hr U =>
   exact fin a cap rd (fun k y i=>⟨by rw[wH hb hs];exact hr k y i,U k y i⟩) rfl
 .rename_i b g off len
  split at h
  .rename_i cells hc
   split at h
   .rename_i a3
    simp only[qo]at h;cases r with
    |sl _ _ _ _ o a0 cap hb ht hl =>
    obtain⟨arr,e,h1,h2,h3,h4⟩:=s.arr b cells o a0 hc hb;have t:ys.length=len:=by rw[<-h];simp
    subst t;by_cases h0:ys.length=0
    .simp_all
    .have C:g=sz:=by
      have I:0<ys.length:=zOm;have hm:(cells.drop (off+0*g)).take g∈ys:=by
       rw[<-h];exact qp.2 ⟨0,zUs I,rfl⟩
      have:=(R _ hm).1;have a1:g<=ys.length*g:=Nat.le_mul_of_pos_left _ I;simp at this;omega
     subst C;have l:ys.flatten=(cells.drop off).take (ys.length*g):=by
      rw[<-h];have:=Ug g ys.length (cells.drop off) zSo;simp only[List.drop_drop]at this;simpa using this
     refine fin ⟨o,off,none⟩ cap (fun k=>arr.getD (off+k) j2) (fun k y i=>?_) rfl;rw[l,yG]at i;split at i
     .rw [jX]at i
      refine⟨?_,(h4 _ y i).2⟩;rw[wH (a:=⟨o,off,none⟩) h1 rfl];have a4:off+k<cells.length:=(qi.1 i).1;have:off+k<arr.size:=zOm;simp[qK,this]
     grind
   grind
  grind
 grind
def yB(P:qb)(mu:Mu)(g:Array qd)(s x:AV)(K:AV->Mu->Prop):Prop:=
  ∃ t j e p l r,g=#[t,j]/\qA P t=some (e,p,l)/\(qA P j).isSome=true/\(∃ i,qz P e=some i/\i.cells.length=p/\i.cells.all AV.one=true)/\p≠0/\l<=16384/\qF mu x=some r/\zb p r /\
    ((∃ J,s = .lst true J/\zb p J/\J.length+r.length<=4294967296/\(r=[]->K s mu)/\(r≠[]->K (.sl mu.length p 0 (J.length+r.length)) (mu++[.arr (J++r).flatten]))) \/
     (∃ b len cells,s = .sl b p 0 len/\mu[b]?=some (.arr cells)/\len*p<=cells.length/\len+r.length<=4294967296 /\
        K (.sl mu.length p 0 (len+r.length)) (mu.set b .dead++[.arr (cells.take (len*p)++r.flatten)])))
theorem Km{t C ty e i d}(I:P.underlying t=some (.slice e))(o:P.underlying C=some (.slice d))(J:P.info? e=some i)
  {base} {g j n cap} {a} {news} {w'}
  (hf:(Builtin.firstCells i.size n (.slice a n cap)).run P w = .ok news.toArray w) (l:g+n<=j)
  (p:∀ b,base=some b->(storeCells (b.add (g*i.size)) news).run P w = .ok () w') (r:base=none->w'=w) :
  (Builtin.append_ #[t,C] ty #[.slice base g j,.slice a n cap]).run P w = .ok (.slice base (g+n) j) w':=by
 cases base with
 |none =>
  have:=r rfl;subst this;simp[Builtin.append_,run_underlying I,run_underlying o,sizeOf,typeInfo,J,Builtin.lenOf,l,hf]
 |some b =>
  have:=p b rfl;simp[Builtin.append_,run_underlying I,run_underlying o,sizeOf,typeInfo,J,Builtin.lenOf,l,hf,this]
theorem qcB{t I ty e i z d}(R:P.underlying t=some (.slice e))(r:P.underlying I=some (.slice d))(T:P.info? e=some i)(U:i.zero=some z)
  {base a} {g j n cap} {l news}
  (C:(Builtin.firstCells i.size g (.slice base g j)).run P w.drew = .ok l.toArray w.drew) (hf:(Builtin.firstCells i.size n (.slice a n cap)).run P w.drew = .ok news.toArray w.drew)
  (hg:j<g+n) (a0:((g+n:Nat):Int)<=9223372036854775807) (J:Builtin.nextslicecap (g+n) j*i.bytes<=281474976710656) :
  (Builtin.append_ #[t,I] ty #[.slice base g j,.slice a n cap]).run P w =
   .ok (.slice (some ⟨w.heap.size,0,none⟩) (g+n) (grownCap w (g+n) j e))
    (w.drew.alloc (.cells (l++(news++(zp z.cells (grownCap w (g+n) j e-(g+n))).toList)).toArray e)):=by
 have hn:¬(g+n<=j):=zOm;have o:¬(9223372036854775807<((g:Int)+(n:Int))):=zOm;have p:¬(281474976710656<Builtin.nextslicecap (g+n) j*i.bytes):=zOm;simp[Builtin.append_,run_underlying R,run_underlying r,sizeOf,typeInfo,zeroValue,T,U,Builtin.lenOf,hn,o,p,Question.forced,hf,C,newRow,grownCap];congr 2;apply Array.ext';simp
theorem Qq(w g i e):g<=grownCap w g i e:=by
 simp only[grownCap,Question.cut];omega
theorem Kn{g cap bt}(h:cap<g)(i:g<=4294967296)(j:bt<=16384):Builtin.nextslicecap g cap*bt<=281474976710656:=by
 refine growslice_fits h ?_;have:g*bt<=4294967296*16384:=Nat.mul_le_mul i j;omega
theorem Ko{G mu}(s:Sim G mu w.heap){R ty sv xv vs vx}(rs:VRel G w.heap sv vs)(rx:VRel G w.heap xv vx){K}
  (h:yB P mu R sv xv K):∃ z l,K z l/\Good P G mu w (Builtin.append_ R ty #[vs,vx]) z l:=by
 obtain⟨t,t',e,p,bt,ys,rfl,aw,bl,⟨zv,ax,ay,az⟩,bm,b0,b1,aa,h⟩:=h;obtain⟨i,hu,hi,rfl,rfl⟩:=j5 aw;obtain⟨d,ah⟩:∃ d,P.underlying t'=some (.slice d):=by
  grind [qA,j5]
 obtain⟨i',z,b2,hz,rfl⟩:=Jl ax;obtain rfl:i=i':=Option.some.inj (hi.symm.trans b2);have al:z.cells.size=i.size:=by rw[(ZO (G:=G) (h:=w.heap) z (fun c hc=>by simpa using q8.1 az c hc)).1,ay]
 obtain⟨a,cap,o,rfl,ai,an,a6,hf,b3⟩:=Jm (P:=P) s rx b1 aa;have b4:=yc aa.ok
 have grow:∀(base:Option Addr)(g T:Nat)(C:List qg)(oc:List AV)(b5:Mu)(G1:Gh),g*i.size=oc.length->C.length=oc.length->(∀(k:Nat) y,oc[k]?=some y->y.one=true/\VRel G w.heap y (C.getD k j2)) ->
   (Builtin.firstCells i.size g (.slice base g T)).run P w.drew = .ok C.toArray w.drew->T<g+ys.length->g+ys.length<=4294967296 ->
   Good P G mu w (Builtin.append_ #[t,t'] ty #[.slice base g T,.slice a ys.length cap]) (.sl mu.length i.size 0 (g+ys.length)) (mu++[.arr (oc++ys.flatten)]):=by
  intro base g T C oc b5 G1 b6 a3 U ab hg a7;have a2:=qcB (ty:=ty) hu ah hi hz ab b3 hg zOm (Kn hg a7 b0);have b7:=Qq w (g+ys.length) T e;generalize grownCap w (g+ys.length) T e=gc at a2 b7;have b8:(zp z.cells (gc-(g+ys.length))).toList.length=(gc-(g+ys.length))*z.cells.size:=by simp[size_zeroCells]
  have sd:Sim G mu w.drew.heap:=s;have st:=sR sd (.cells (C++(o++(zp z.cells (gc-(g+ys.length))).toList)).toArray e) (.arr (oc++ys.flatten)) ((C++(o++(zp z.cells (gc-(g+ys.length))).toList)).length) (by
   intro _;refine⟨_,e,rfl,zSp,by simp only[qW];omega,fun j y hj=>?_⟩;rw[Uf,zf];by_cases ad:j<oc.length
   .rw [ze ad]at hj
    rw[zGa,<-zf];exact U j y hj
   .rw [zK zOm]at hj
    rw[zK zOm,a3];have:j-oc.length<ys.flatten.length:=(qi.1 hj).1;rw[zGa,<-zf];exact⟨aa.one y (zh hj),a6 _ y hj⟩)
  have ao:(C++(o++(zp z.cells (gc-(g+ys.length))).toList)).length=gc*i.size:=by
   simp only[qW,b8,al,a3,<-b6,ai,<-Nat.add_mul];congr 1;omega
  rw[ao]at st;refine⟨_,_,_,a2,(Stp.drew s).trans s st,?_⟩;refine .sl _ i.size 0 _ w.heap.size (gc*i.size) gc ?_ zOm zOm;show (G.blk++[_])[mu.length]?=_;rw[<-s.len];simp
 rcases h with ⟨J,rfl,aj,a7,b9,bb⟩|⟨b,len,cells,rfl,hc,aq,a7,hk⟩
 .obtain ⟨a0,af,C,rfl,a3,_,U,ab,a5⟩:=Jm (P:=P) s rs (ys:=J) rfl aj
  have ar:af=J.length:=by
   obtain⟨a1,c1,h1,_,h2,_⟩:=rs.lst_inv;cases h1;exact h2 rfl
  subst ar;by_cases hy:ys=[]
  .subst hy
   refine⟨_,_,b9 rfl,_,_,_,?_,Stp.refl s,rs⟩;have hn:o=[]:=jY (zUs ai);subst hn;exact Km (ty:=ty) hu ah hi hf zSp (fun b hb=>rfl) (fun _=>rfl)
  .have bn:0<ys.length:=List.length_pos_iff.2 hy
   have au:=yc aj.ok;have:=grow a0 J.length J.length C J.flatten mu G au.symm (by rw[a3,au]) (fun k y hk=>⟨aj.one y (zh hk),U k y hk⟩) a5 zOm a7;rw[<-List.flatten_append]at this;exact⟨_,_,bb hy,this⟩
 .refine ⟨_,_,hk,?_⟩
  have ak:qF mu (.sl b i.size 0 len)=some ((qq len).map fun j=>(cells.drop (j*i.size)).take i.size):=by
   simp only[qF,hc,Nat.zero_add];rw[if_pos aq]
  have bc:=rs;cases rs with
  |sl _ _ _ _ I ae a8 hb ht hl =>
  obtain⟨arr,e',h1,h2,h3,h4⟩:=s.arr b cells I ae hc hb;have av:zb i.size ((qq len).map fun j=>(cells.drop (j*i.size)).take i.size):=by
   intro r hr;obtain⟨j,hj,rfl⟩:=qp.1 hr;have be:j<len:=zUs hj;have:(j+1)*i.size<=len*i.size:=Nat.mul_le_mul_right _ be;rw[Nat.succ_mul]at this;refine⟨zSo,?_⟩;rw[q8];intro c bg;obtain⟨k,hk⟩:=List.mem_iff_getElem?.1 (List.mem_of_mem_drop (ja bg));exact(h4 k c hk).1
  have bh:=Ug i.size len cells aq;obtain⟨a0,af,C,hv,a3,_,U,ab,a5⟩:=Jm (P:=P) s bc ak av;rw[bh]at U;simp only[yi,List.length_range]at hv a3 ab a5;by_cases a4:len+ys.length<=a8
  ·
   have bo:len*i.size+o.length<=arr.size:=by
    have h5:=Nat.mul_le_mul_right i.size a4;rw[Nat.add_mul]at h5;rw[ai,h2];omega
   have a2:=run_storeCells_at P I (len*i.size) e' o 0 arr w h1 zOm an;simp only[Nat.add_zero]at a2;have bi:=Km (ty:=ty) (w':=w.setRow I (arr.toList.take (len*i.size)++o++arr.toList.drop (len*i.size+o.length)).toArray) hu ah hi hf a4 (base:=some ⟨I,0,none⟩)
    (fun b' bj=>by
     cases bj;have:(⟨I,0,none⟩:Addr).add (len*i.size)=⟨I,len*i.size,none⟩:=by unfold Addr.add;split<;>simp_all
     rw[this];exact a2) zSp
   have st1:=sW (w':=w.setRow I (arr.toList.take (len*i.size)++o++arr.toList.drop (len*i.size+o.length)).toArray) s b (.arr cells) (.arr (cells.take (len*i.size)++ys.flatten)) I ae
    (.cells (arr.toList.take (len*i.size)++o++arr.toList.drop (len*i.size+o.length)).toArray e' (0,0)) hc zSp zSp hb zSp (setRow_heap w I arr _ e' _ h1) (fun k hk=>setRow_other w I k _ hk) rfl rfl rfl
    (by
     have ag:(cells.take (len*i.size)).length=len*i.size:=zSo;have bk:(arr.toList.take (len*i.size)).length=len*i.size:=zSo;refine⟨_,e',rfl,zSo,by simp only[qW,ag,b4];omega,fun j y hj=>?_⟩;rw[Uf,zf,zm];by_cases ad:j<len*i.size
     .rw [zGa,yG,if_pos ad]at hj
      rw[zGa,yG,if_pos ad,uo,<-qK];exact h4 j y hj
     .rw [zK zOm,ag]at hj
      rw[zK zOm,bk];have:j-len*i.size<ys.flatten.length:=(qi.1 hj).1;rw[zGa,<-zf];exact⟨aa.one y (zh hj),a6 _ y hj⟩)
   have a9:b<mu.length:=(qi.1 hc).1;have st2:=Stp.move st1.sim b (.arr (cells.take (len*i.size)++ys.flatten)) I ae (zP1 a9) zSp hb;rw[List.set_set]at st2;refine⟨_,_,_,bi,st1.trans s st2,?_⟩;refine .sl _ i.size 0 _ I ae a8 ?_ ht a4;show (G.blk++[_])[mu.length]?=_;rw[<-s.len];simp
  .obtain ⟨v,w',G',k1,k2,k3⟩:=grow (some ⟨I,0,none⟩) len a8 C (cells.take (len*i.size)) mu G zSo (by rw[a3];simp;omega) (fun k y hk=>by
    refine⟨?_,U k y hk⟩;rw[yG]at hk;split at hk
    .exact (h4 k y hk).1
    .exact absurd hk zSp) a5 zOm a7
   have st2:=sX k2.sim b;have a9:b<mu.length:=(qi.1 hc).1;rw[List.set_append_left _ _ a9]at st2;exact⟨v,w',G',k1,k2.trans s st2,k3⟩
end
end Go.Ev
namespace Go.Ev
open Go Go.RowKit
section
variable {es:List (AV×AV)}{xs:List (List AV)}{cs:List AV}
structure St where
 tm:Nat->AV
 mu:Mu
def St.put(st:St)(d:Option Tmp)(v:AV)(m:Mu):St:=
 ⟨match d with|some d=>fun i=>if i=d then v else st.tm i|none=>st.tm,m⟩
def St.ev(st:St):zA->AV
 | .tmp t=>st.tm t
 | .const v=>ofV v
 | .global _ => .any
 | .func f => .fn (.func f) [] []
structure Pol where
 mt:List Nat:=[]
inductive AEnd where
 |ret (v:AV)
 |pan (v:AV)
def zw(G:Gh)(h:Array Obj)(args:List AV)(vs:Array qg):Prop:=
 vs.size=args.length/\∀(k:Nat) x,args[k]?=some x->VRel G h x (vs.getD k j2)
def yk(P:qb)(f:j1):Prop:=∀(args:Array qg)(w:qf),(callFunc f args).run P w = .ok (.enter f args) w
def qU(P:qb)(f:j1)(args:List AV)(mu:Mu)(R:AEnd->Mu->Prop):Prop:=yk P f /\
 ∀(G:Gh)(w:qf)(j:Array qg),Sim G mu w.heap->zw G w.heap args j ->
  Calls P f j w fun e i=>∃ o l,Stp G mu w o l i /\
   ((∃ r v,R (.ret r) l/\e = .returned v/\VRel o i.heap r v)\/(∃ r v,R (.pan r) l/\e = .panicked [{ v,recovered:=false }]/\VRel o i.heap r v))
structure ZR (B:Nat) (w w':qf):Prop extends Below B w w' where
 drawn:w.drawn<=w'.drawn
def qh(P:qb)(f:j1)(args:List AV)(r:AV):Prop:=yk P f /\
 ∀(i:Nat->Prop)(w:qf)(j:Array qg),Sim ⟨i,[]⟩ [] w.heap->zw ⟨i,[]⟩ w.heap args j ->
  Calls P f j w fun e l=>∃ g v,e = .returned v/\(∀ b,i b->g b)/\(∀ b,g b->b<l.heap.size/\(i b\/w.heap.size<=b))/\ZR w.heap.size w l/\VRel ⟨g,[]⟩ l.heap r v
def qcC(P:qb)(f:j1)(args:List AV)(r:AV):Prop:=yk P f /\
 ∀(g:Nat->Prop)(w:qf)(j:Array qg),Sim ⟨g,[]⟩ [] w.heap->zw ⟨g,[]⟩ w.heap args j ->
  Calls P f j w fun e i=>∃ l v,e = .returned v/\(∀ b,l b->w.heap.size<=b/\b<i.heap.size)/\ZR w.heap.size w i/\VRel ⟨l,[]⟩ i.heap r v
def HF(x:AV):Prop:=∀(G:Gh)(h:Array Obj)(v:qg),VRel G h x v->VRel ⟨G.imm,[]⟩ h x v
def FL(x:AV):Prop:=∀(G g:Gh)(h i:Array Obj)(v:qg),VRel G h x v->VRel g i x v
theorem HF.any:HF .any:=fun _ _ v _ => .any v
theorem HF.sc(v):HF (.sc v):=fun _ _ u r=>by cases r with|sc _ g=>exact .sc _ g
theorem HF.agg(h:∀ c,c∈cs->HF c):HF (.agg cs):=fun G i u r=>by
 cases r with
 |agg _ j l o=>exact .agg _ _ l (fun k x g=>h x (zh g) G i _ (o k x g))
theorem HF.tup(h:∀ c,c∈cs->HF c):HF (.tup cs):=fun G i u r=>by
 cases r with
 |tup _ j l o=>exact .tup _ _ l (fun k x g=>h x (zh g) G i _ (o k x g))
theorem HF.ip(h:∀ c,c∈cs->HF c):HF (.ip cs):=fun G i u r=>by
 cases r with
 |ip _ a arr e j rd l o p t C=>exact .ip _ a arr e j rd l o p t (fun k x g=>h x (zh g) G i _ (C k x g))
theorem HF.ifc{t x}(h:HF x):HF (.ifc t x):=fun G g u r=>by
 cases r with
 |ifc _ _ v i=>exact .ifc _ _ _ (h G g v i)
theorem HF.lst{full}(h:∀ r,r∈xs->∀ c,c∈r->HF c):HF (.lst full xs):=fun G j u r=>by
 cases r with
 |nil=>exact .nil _
 |emp _ a cap g=>exact .emp _ a cap g
 |lst _ _ p a cap l e o rd t C I g J P R T =>
  refine .lst _ _ p a cap l e o rd t C I g J P R (fun k x i=>?_);obtain⟨row,U,h2⟩:=V5.1 (zh i);exact h row U x h2 G j _ (T k x i)
theorem HF.fn{f first caps}(l:∀ c,c∈first->HF c)(o:∀ c,c∈caps->HF c):HF (.fn f first caps):=fun G i u r=>by
 cases r with
 |fn _ _ _ j p t C I J=>exact .fn _ _ _ j p t C (fun k x g=>l x (zh g) G i _ (I k x g)) (fun k x g=>o x (zh g) G i _ (J k x g))
theorem HF.im(h:∀ p,p∈es->HF p.1/\HF p.2):HF (.im es):=fun G j u r=>by
 cases r with
 |im _ i ce clock l o t C I J=>exact .im _ i ce clock l o t (fun k x g=>(h x (zh g)).1 G j _ (C k x g)) (fun k x g=>(h x (zh g)).2 G j _ (I k x g)) J
theorem HF.ims(h:∀ p,p∈es->HF p.1/\HF p.2):HF (.ims es):=fun G C u r=>by
 cases r with
 |ims _ i I J _ g P r =>
  refine .ims _ i I J _ g P (HF.im (fun p l=>?_) G C _ r);obtain⟨j,o⟩:=List.mem_iff_getElem?.1 l;have t:j<es.length:=by rw[<-g.1];exact(qi.1 o).1
  rw[g.back t]at o;exact h p (zh o)
theorem FL.sc(v):FL (.sc v):=fun _ _ _ _ u r=>by cases r with|sc _ g=>exact .sc _ g
theorem FL.agg(h:∀ c,c∈cs->FL c):FL (.agg cs):=fun G l o g u r=>by
 cases r with
 |agg _ j p t=>exact .agg _ _ p (fun k x i=>h x (zh i) G l o g _ (t k x i))
theorem FL.tup(h:∀ c,c∈cs->FL c):FL (.tup cs):=fun G l o g u r=>by
 cases r with
 |tup _ j p t=>exact .tup _ _ p (fun k x i=>h x (zh i) G l o g _ (t k x i))
theorem FL.ifc{t x}(h:FL x):FL (.ifc t x):=fun G i j g u r=>by
 cases r with
 |ifc _ _ v l=>exact .ifc _ _ _ (h G i j g v l)
inductive Rd (mu:Mu):AV->AV->Prop
 |hf (x:AV) (h:HF x):Rd mu x x
 |sl (b sz off len:Nat) (cells:List AV) (ys:List (List AV)) (hc:mu[b]?=some (.arr cells)) (hl:off+len*sz<=cells.length) (hn:ys.length=len) (hz:yd sz ys)
   (h:∀(k:Nat) x y,cells[off+k]?=some x->ys.flatten[k]?=some y->Rd mu x y):Rd mu (.sl b sz off len) (.lst false ys)
 |ptr (b off:Nat) (cells ys:List AV) (hc:mu[b]?=some (.arr cells)) (hn:off+ys.length<=cells.length) (h:∀(k:Nat) x y,cells[off+k]?=some x->ys[k]?=some y->Rd mu x y):Rd mu (.ptr b off) (.ip ys)
 |mp (b:Nat) (es fs:List (AV×AV)) (hc:mu[b]?=some (.mp es)) (hn:fs.length=es.length) (hk:∀(k:Nat) x y,es[k]?=some x->fs[k]?=some y->Rd mu x.1 y.1) (hv:∀(k:Nat) x y,es[k]?=some x->fs[k]?=some y->Rd mu x.2 y.2):Rd mu (.mp b) (.im fs)
 |md (b:Nat) (es fs:List (AV×AV)) (hc:mu[b]?=some (.md es)) (hn:fs.length=es.length) (hk:∀(k:Nat) x y,es[k]?=some x->fs[k]?=some y->Rd mu x.1 y.1) (hv:∀(k:Nat) x y,es[k]?=some x->fs[k]?=some y->Rd mu x.2 y.2):Rd mu (.mp b) (.im fs)
 |agg (xs ys:List AV) (hn:ys.length=xs.length) (h:∀(k:Nat) x y,xs[k]?=some x->ys[k]?=some y->Rd mu x y):Rd mu (.agg xs) (.agg ys)
 |tup (xs ys:List AV) (hn:ys.length=xs.length) (h:∀(k:Nat) x y,xs[k]?=some x->ys[k]?=some y->Rd mu x y):Rd mu (.tup xs) (.tup ys)
 |lst (full:Bool) (xs ys:List (List AV)) (hn:ys.length=xs.length) (hz:∀(k:Nat) x y,xs[k]?=some x->ys[k]?=some y->x.length=y.length) (h:∀(k:Nat) x y,xs.flatten[k]?=some x->ys.flatten[k]?=some y->Rd mu x y):Rd mu (.lst full xs) (.lst full ys)
 |fn (f:Fn) (first first' caps caps':List AV) (hn:first'.length=first.length) (hm:caps'.length=caps.length) (h:∀(k:Nat) x y,first[k]?=some x->first'[k]?=some y->Rd mu x y) (h':∀(k:Nat) x y,caps[k]?=some x->caps'[k]?=some y->Rd mu x y) :
   Rd mu (.fn f first caps) (.fn f first' caps')
 |ifc (t:qd) (x y:AV) (h:Rd mu x y):Rd mu (.ifc t x) (.ifc t y)
 |wk (x:AV) (full:Bool) (ys:List (List AV)) (h:Rd mu x (.lst full ys)):Rd mu x (.lst false ys)
 |ims (x:AV) (es es':List (AV×AV)) (σ τ:Nat->Nat) (hp:PIx σ τ es es') (hd:(es.map Prod.fst).Nodup) (h:Rd mu x (.im es')):Rd mu x (.ims es)
theorem Rd.zsc{mu}(v):Rd mu (.sc v) (.sc v):=.hf _ (HF.sc _)
theorem Kq{ys:List (List AV)}(g:ys.length=xs.length)(i:∀(k:Nat) x y,xs[k]?=some x->ys[k]?=some y->x.length=y.length):xs.flatten.length=ys.flatten.length:=by
 induction xs generalizing ys with
 |nil=>grind
 |cons x xs j =>
  cases ys with
  |nil=>simp at g
  |cons y ys =>
   have p:=i 0 x y rfl rfl;have:=j (ys:=ys) (zUs g) (fun k a b l o=>i (k+1) a b (zUs l) (zUs o))
   grind
theorem Rd.sound{G mu h}(s:Sim G mu h){x y}(r:Rd mu x y):∀{v},VRel G h x v->VRel ⟨fun b=>G.imm b\/Live G mu b,[]⟩ h y v:=by
 have a4:Gh.le ⟨G.imm,[]⟩ ⟨fun b=>G.imm b\/Live G mu b,[]⟩:=⟨fun b h => .inl h,fun _ _ h=>h⟩;induction r with
 |hf x R=>intro v r;exact(R G h v r).le a4
 |sl b p off len cells C I hl hn hz g ih =>
  intro v r;subst hn;cases r with
  |sl _ _ _ _ i l cap P ht a3 =>
  obtain⟨arr,e,h1,h2,h3,h4⟩:=s.arr b cells i l I P;by_cases h0:C=[]
  .subst h0;exact .emp false _ cap zSp
  .have a5:=yc hz
   have o:∀(k:Nat) y,C.flatten[k]?=some y->∃ x,cells[off+k]?=some x:=by
    grind
   refine .lst false C p ⟨i,off,none⟩ cap arr e (0,0) (fun k=>arr.getD (off+k) j2) h1 rfl a3 zSp (.inr ⟨b,_,l,I,zSp,P⟩) hz ?_ ?_
   .intro k y U
    obtain⟨x,R⟩:=o k y U;have:off+k<arr.size:=by grind
    simp[qK,this]
   grind
 |ptr b off cells C I hn g ih =>
  intro v r;cases r with
  |ptr _ _ i l P =>
  obtain⟨arr,e,h1,h2,h3,h4⟩:=s.arr b cells i l I P;have o:∀(k:Nat) y,C[k]?=some y->∃ x,cells[off+k]?=some x:=by
   grind
  refine .ip C ⟨i,off,none⟩ arr e (0,0) (fun k=>arr.getD (off+k) j2) h1 rfl (.inr ⟨b,_,l,I,zSp,P⟩) ?_ ?_
  .intro k y U
   obtain⟨x,R⟩:=o k y U;have:off+k<arr.size:=by grind
   simp[qK,this]
  grind
 |mp b T fs I hn hk hv a6 a7 =>
  intro v r;cases r with
  |mp _ i l P =>
  obtain⟨ce,cl,h1,h2,h3,h4,h5,h6⟩:=s.mp b T i l I P;have o:∀(k:Nat) y,fs[k]?=some y->∃ x,T[k]?=some x:=by
   grind
  refine .im fs i ce cl h1 (.inr ⟨b,_,l,I,zSp,P⟩) zOm ?_ ?_ (.of h5 h6)
  .grind
  grind
 |md b T fs I hn hk hv a6 a7 =>
  intro v r;cases r with
  |mp _ i l P =>
  obtain⟨ce,cl,h1,h2,h3,h4,h5⟩:=s.md b T i l I P;have o:∀(k:Nat) y,fs[k]?=some y->∃ x,T[k]?=some x:=by
   grind
  refine .im fs i ce cl h1 (.inr ⟨b,_,l,I,zSp,P⟩) zOm ?_ ?_ h5
  .grind
  grind
 |agg J C hn g ih =>
  intro v r;cases r with
  |agg _ j hm hv =>
  refine .agg _ _ zOm (fun k y U=>?_);have hk:k<C.length:=(qi.1 U).1;have R:J[k]?=some (J[k]' zOm):=by grind
  grind
 |tup J C hn g ih =>
  intro v r;cases r with
  |tup _ j hm hv =>
  refine .tup _ _ zOm (fun k y U=>?_);have hk:k<C.length:=(qi.1 U).1;have R:J[k]?=some (J[k]' zOm):=by grind
  grind
 |lst full J C hn hz g ih =>
  intro v r;have a5:=Kq hn hz;cases r with
  |nil=>cases C with
   |nil=>exact .nil _
   |cons=>simp at hn
  |emp _ a cap I=>cases C with
   |nil=>exact .emp _ a cap I
   |cons=>simp at hn
  |lst _ _ p a cap cs e fr rd P hs hl I hi a8 hr hv =>
   rw[<-hn];have o:∀(k:Nat) y,C.flatten[k]?=some y->∃ x,J.flatten[k]?=some x:=by
    grind
   refine .lst full C p a cap cs e fr rd P hs zOm (by rw[hn];exact I) (.inl hi) ?_ ?_ ?_
   .intro r a9
    obtain⟨k,hk⟩:=List.mem_iff_getElem?.1 a9;have ae:k<C.length:=(qi.1 hk).1;have R:J[k]?=some (J[k]' zOm):=by simp[show k<J.length by omega]
    rw[<-hz k _ r R hk];exact a8 _ (zh R)
   .intro k y U
    obtain⟨x,R⟩:=o k y U;exact hr k x R
   grind
 |fn f first a1 a0 a2 hn hm g aa ih ab =>
  intro v r;cases r with
  |fn _ _ _ j ws af ag hv hw =>
  refine .fn f _ _ j ws zOm zOm (fun k y U=>?_) (fun k y U=>?_)
  .have hk:k<a1.length:=(qi.1 U).1
   have R:first[k]?=some (first[k]' zOm):=by simp[show k<first.length by omega]
   grind
  .have hk:k<a2.length:=(qi.1 U).1
   have R:a0[k]?=some (a0[k]' zOm):=by simp[show k<a0.length by omega]
   exact ab k _ y R U (hw k _ R)
 |ifc t x y g ih =>
  intro v r;cases r with
  |ifc _ _ v hv=>exact .ifc t y v (ih hv)
 |wk x full C g ih =>
  intro v r;have:=ih r;cases this with
  |nil=>exact .nil _
  |emp _ a cap I=>exact .emp _ a cap zSp
  |lst _ _ p a cap cs e fr rd P hs hl I hi hz hr hv=>exact .lst _ _ p a cap cs e fr rd P hs hl zSp hi hz hr hv
 |ims x T ad σ τ hp hd g ih =>
  intro v r;exact .ims T ad σ τ v hp hd (ih r)
end
end Go.Ev
namespace Go.Ev
open Go Go.RowKit
section
variable {s x:AV}{K:AV->Mu->Prop}{h:Array Obj}{g:Array qd}{G:Gh}{mu:Mu}{P:qb}{w:qf}
def cutM(keep:Nat->Bool):Mu->Nat->Mu
 | [],_=>[]
 |c :: l,i=>(if keep i=true then c else .dead) :: cutM keep l (i+1)
theorem j6(keep):∀ mu i k,(cutM keep mu k)[i]?=(mu[i]?).map fun c=>if keep (k+i)=true then c else .dead
 | [],i,k=>by simp[cutM]
 |c :: l,0,k=>by simp[cutM]
 |c :: l,i+1,k=>by
  rw[cutM,jW,jW,j6 keep l i (k+1)];have:k+1+i=k+(i+1):=zOm;rw[this]
theorem wI(keep):∀ mu k,(cutM keep mu k).length=mu.length
 | [],_=>rfl
 |c :: l,k=>by simp[cutM,wI keep l (k+1)]
theorem jl{keep i c}(h:(cutM keep mu 0)[i]?=some c)(j:c ≠ .dead):mu[i]?=some c/\keep i=true:=by
 rw[j6]at h;cases g:mu[i]? with
 |none=>grind
 |some l =>
  rw[g]at h;simp only[qZ,Nat.zero_add,qo]at h;by_cases o:keep i=true
  .grind
  grind
theorem Live.cut{keep b}(h:Live G (cutM keep mu 0) b):Live G mu b:=by
 obtain⟨i,c,g,l,j,o⟩:=h;exact⟨i,c,g,(jl l j).1,j,o⟩
theorem Sim.cut(s:Sim G mu h)(keep):Sim G (cutM keep mu 0) h:=by
 refine⟨by rw[wI];exact s.len,s.imm,fun i c g l r o p=>s.obj i c g l (jl r o).1 o p,fun i c g l r o p=>s.live i c g l (jl r o).1 o p,?_,s.tab⟩;intro i j ci C b I J r o p t P R;exact s.inj i j ci C b I J (jl r p).1 (jl o t).1 p t P R
def frz(G:Gh)(give:Nat->Bool)(mu:Mu):Gh:=⟨fun b=>G.imm b\/Live G (cutM give mu 0) b,G.blk⟩
theorem Uh(s:Sim G mu h)(give):Sim (frz G give mu) (cutM (fun i=>!give i) mu 0) h:=by
 have J:G.le (frz G give mu):=⟨fun b C => .inl C,fun _ _ h=>h⟩;refine⟨by rw[wI];exact s.len,?_,?_,?_,?_,s.tab.mono (fun b h => .inl h) (fun _ _=>rfl)⟩
 .rintro b (C|⟨i,c,g,p,l,r⟩)
  .exact s.imm b C
  .obtain ⟨o,P,_⟩:=s.obj i c b g (jl p l).1 l r
   exact(zU.1 P).1
 .intro i c t g p l r
  obtain⟨o,P,U⟩:=s.obj i c t g (jl p l).1 l r;exact⟨o,P,U.mono J (Ext.refl _ _)⟩
 .rintro i c t g p l r (C|⟨j,c',I,g1,R,g3⟩)
  .exact s.live i c t g (jl p l).1 l r C
  .have e:=s.inj i j c c' t g I (jl p l).1 (jl g1 R).1 l R r g3
   subst e;have a1:=(jl p l).2;have a2:=(jl g1 R).2
   grind
 .intro i j ci cj b ti tj p l r T h5 h6
  exact s.inj i j ci cj b ti tj (jl p r).1 (jl l T).1 r T h5 h6
theorem u4(s:Sim G mu w.heap)(give):Stp G mu w (frz G give mu) (cutM (fun i=>!give i) mu 0) w:=by
 refine⟨⟨fun b g => .inl g,fun _ _ h=>h⟩,Uh s give,fun _ _ _=>rfl,qs _,?_,?_,rfl,rfl,rfl,qs _⟩
 .rintro b ⟨i,c,j,o,l,p⟩
  exact .inl ⟨i,c,j,(jl o l).1,l,p⟩
 .rintro b (g|g)
  .exact .inl g
  .exact .inr (.inl g.cut)
theorem Ui(s:Sim G mu h)(give){x y v}(r:Rd (cutM give mu 0) x y)(g:VRel G h x v):VRel (frz G give mu) h y v:=
 VRel.mono (G:=⟨fun b=>G.imm b\/Live G (cutM give mu 0) b,[]⟩) (G':=frz G give mu) ⟨fun _ j=>j,fun i x l=>by simp at l⟩ (Ext.refl _ _) (r.sound (s.cut give) g)
theorem yB.det(h:yB P mu g s x K):∃ v m,yB P mu g s x (fun a b=>a=v/\b=m)/\K v m:=by
 obtain⟨t,C,e,p,I,r,R,T,U,a4,a5,a6,a7,a8,h⟩:=h;rcases h with ⟨J,i,j,l,b4,b5⟩|⟨b,len,cells,i,j,l,b4,b5⟩
 .by_cases o:r=[]
  .exact ⟨_,_,⟨t,C,e,p,I,r,R,T,U,a4,a5,a6,a7,a8,.inl ⟨J,i,j,l,fun _=>⟨rfl,rfl⟩,fun h=>absurd o h⟩⟩,b4 o⟩
  .exact ⟨_,_,⟨t,C,e,p,I,r,R,T,U,a4,a5,a6,a7,a8,.inl ⟨J,i,j,l,fun h=>absurd h o,fun _=>⟨rfl,rfl⟩⟩⟩,b5 o⟩
 .exact ⟨_,_,⟨t,C,e,p,I,r,R,T,U,a4,a5,a6,a7,a8,.inr ⟨b,len,cells,i,j,l,b4,rfl,rfl⟩⟩,b5⟩
theorem yB.mono{i}(h:yB P mu g s x K)(j:∀ v m,K v m->i v m):yB P mu g s x i:=by
 obtain⟨t,T,e,p,U,r,a1,a2,a3,a4,a5,a6,a7,a8,h⟩:=h;refine⟨t,T,e,p,U,r,a1,a2,a3,a4,a5,a6,a7,a8,?_⟩;rcases h with ⟨J,l,o,C,I,R⟩|⟨b,len,cells,l,o,C,I,R⟩
 .exact .inl ⟨J,l,o,C,fun h=>j _ _ (I h),fun h=>j _ _ (R h)⟩
 grind
def Kr(P:qb)(mu:Mu)(j:Array qd)(s x:AV)(K:AV->Mu->Prop):Prop:=
 ∃ t l e p o g n J,j=#[t,l]/\qA P t=some (e,p,o)/\P.underlying l=some (.int .i64)/\qz P e=some g/\g.cells.length=p/\g.cells.all AV.one=true/\p≠0/\o<=16384/\x = .sc (.int .i64 (Int.ofNat n))/\0<n/\s = .lst true J/\zb p J/\J.length+n<=4294967296 /\
  K (.sl mu.length p 0 (J.length+n)) (mu++[.arr (J.flatten++(qq (n*p)).map fun i=>g.cells.getD (i % p) .any)])
theorem qcD(s:Sim G mu w.heap){R ty sv xv vs vx}(rs:VRel G w.heap sv vs)(rx:VRel G w.heap xv vx){K}
  (h:Kr P mu R sv xv K):∃ z l,K z l/\Good P G mu w (Builtin.append_ R ty #[vs,vx]) z l:=by
 obtain⟨t,tn,e,p,bt,zv,n,J,rfl,ab,ad,ae,T,af,an,U,rfl,hn,rfl,I,ag,hk⟩:=h;obtain⟨i,hu,hi,rfl,rfl⟩:=j5 ab;obtain⟨i',z,ah,hz,rfl⟩:=Jl ae;obtain rfl:i=i':=Option.some.inj (hi.symm.trans ah);obtain⟨g,ai⟩:=ZO (G:=G) (h:=w.heap) z (fun c hc=>by grind);rw[T]at g;obtain⟨a0,a2,o,rfl,a3,_,a4,aq,a5⟩:=Jm (P:=P) s rs (ys:=J) rfl I;have a6:a2=J.length:=by
  obtain⟨a1,c1,h1,_,h2,_⟩:=rs.lst_inv;cases h1;exact h2 rfl
 subst a6;cases rx with
 |sc _ _ =>
 have a7:n*i.bytes<=281474976710656:=zS (Nat.mul_le_mul (show n<=4294967296 by omega) U) zOm;have C:=Lib.run_append_grow_zeros w t tn ty e i z .i64 .i64 hu ad hi hz a0 J.length J.length o a5 n hn zOm zOm zOm a7 (Kn zOm ag U);have aj:=Qq w (J.length+n) J.length e;generalize grownCap w (J.length+n) J.length e=gc at C aj;have ak:=yc I.ok;have ar:(zp z.cells n).size=n*i.size:=by simp[zp,g]
 have au:(zp z.cells (gc-(J.length+n))).size=(gc-(J.length+n))*i.size:=by simp[zp,g]
 have a8:∀ j,j<n*i.size->(zp z.cells n).getD j j2=z.cells.getD (j % i.size) j2:=by
  intro j r;have a9:0<i.size:=zOm;simp_all[Nat.mod_lt,zp,qK,getElem!_pos,X2]
 have sd:Sim G mu w.drew.heap:=s;have st:=sR sd (.cells (o.toArray++zp z.cells n++zp z.cells (gc-(J.length+n))) e) (.arr (J.flatten++(qq (n*i.size)).map fun j=>(ofV z).cells.getD (j % i.size) .any)) (gc*i.size) (by
  intro _;have ao:J.length*i.size+n*i.size+(gc-(J.length+n))*i.size=gc*i.size:=by
   rw[<-Nat.add_mul,<-Nat.add_mul];congr 1;omega
  refine⟨_,e,rfl,by grind,by grind,fun j y r=>?_⟩;by_cases al:j<J.flatten.length
  .rw [ze al]at r
   refine⟨I.one y (zh r),?_⟩;have:=a4 j y r;rw[qK,Array.append_assoc,Array.getElem?_append_left zSo];rw[zf]at this;show VRel G w.heap y _
   grind
  .rw [zK zOm,zj]at r
   have aa:j-J.flatten.length<n*i.size:=by
    cases hq:(qq (n*i.size))[j-J.flatten.length]? with
    |none=>rw[hq]at r;cases r
    |some q=>have:=(qi.1 hq).1;simpa using this
   rw[List.getElem?_range aa]at r;have a9:0<i.size:=zOm;have hm:(j-J.flatten.length) % i.size<(ofV z).cells.length:=by rw[T];exact Nat.mod_lt _ a9
   simp only[qZ,qo]at r;rw[zf,qx hm]at r;subst r;refine⟨by simpa using q8.1 af _ (List.getElem_mem hm),?_⟩;have e1:(o.toArray++zp z.cells n++zp z.cells (gc-(J.length+n))).getD j j2=(zp z.cells n).getD (j-J.flatten.length) j2:=by
    rw[qK,qK,Array.append_assoc,Array.getElem?_append_right zSo,Array.getElem?_append_left (by simp[a3];omega)];simp[a3,ak]
   rw[e1,a8 _ aa];exact ai _ _ (qx hm))
 refine⟨_,_,hk,_,_,_,C,(Stp.drew s).trans s st,?_⟩;refine .sl _ i.size 0 _ w.heap.size (gc*i.size) gc ?_ zOm zOm;show (G.blk++[_])[mu.length]?=_;rw[<-s.len];simp
def qD(P:qb)(mu:Mu)(g:Array qd)(s x:AV)(K:AV->Mu->Prop):Prop:=
 yB P mu g s x K\/((∃ give j,Rd (cutM give mu 0) x j/\yB P (cutM (fun i=>!give i) mu 0) g s j K)\/Kr P mu g s x K)
theorem qD.det{i}(h:qD P mu i s x K):∃ v m,qD P mu i s x (fun a b=>a=v/\b=m)/\K v m:=by
 rcases h with h|⟨give,j,l,o⟩|⟨t,r,e,p,C,I,n,J,R,T,U,a4,a5,a6,a7,a8,a9,b1,b2,b3,b4,k⟩
 .obtain ⟨v,m,g,k⟩:=h.det;exact⟨v,m,.inl g,k⟩
 .obtain ⟨v,m,g,k⟩:=o.det;exact⟨v,m,.inr (.inl ⟨give,j,l,g⟩),k⟩
 .exact ⟨_,_,.inr (.inr ⟨t,r,e,p,C,I,n,J,R,T,U,a4,a5,a6,a7,a8,a9,b1,b2,b3,b4,rfl,rfl⟩),k⟩
theorem qD.mono{j}(h:qD P mu g s x K)(i:∀ v m,K v m->j v m):qD P mu g s x j:=by
 rcases h with h|⟨give,l,o,r⟩|⟨t,C,e,p,I,R,n,J,T,U,a3,a4,a5,a6,a7,a8,a9,b1,b2,b3,b4,k⟩
 .exact .inl (h.mono i)
 .exact .inr (.inl ⟨give,l,o,r.mono i⟩)
 .exact .inr (.inr ⟨t,C,e,p,I,R,n,J,T,U,a3,a4,a5,a6,a7,a8,a9,b1,b2,b3,b4,i _ _ k⟩)
theorem qcE(s:Sim G mu w.heap){g ty o p vs r}(i:VRel G w.heap o vs)(j:VRel G w.heap p r){K}
  (h:qD P mu g o p K):∃ z l,K z l/\Good P G mu w (Builtin.append_ g ty #[vs,r]) z l:=by
 rcases h with h|⟨give,x',t,C⟩|h
 .exact Ko s i j h
 .obtain ⟨z,l,I,v,J,R,g1,T,U⟩:=Ko (ty:=ty) (Uh s give) (i.mono (u4 s give).le (Ext.refl _ _)) (Ui s give t j) C
  exact⟨z,l,I,v,J,R,g1,(u4 s give).trans s T,U⟩
 .exact qcD s i j h
inductive Gv (mu:Mu) (give:Nat->Bool):AV->AV->Prop where
 |same (x:AV):Gv mu give x x
 |rd (x y:AV) (h:Rd (cutM give mu 0) x y):Gv mu give x y
 |fn (f:Fn) (first first' caps caps':List AV) (hn:first'.length=first.length) (hm:caps'.length=caps.length) (h:∀(k:Nat) x y,first[k]?=some x->first'[k]?=some y->Gv mu give x y)
   (h':∀(k:Nat) x y,caps[k]?=some x->caps'[k]?=some y->Gv mu give x y):Gv mu give (.fn f first caps) (.fn f first' caps')
theorem Gv.sound(s:Sim G mu h){give x y}(r:Gv mu give x y):∀{v},VRel G h x v->VRel (frz G give mu) h y v:=by
 have p:G.le (frz G give mu):=⟨fun b C => .inl C,fun _ _ h=>h⟩;induction r with
 |same x=>intro v o;exact o.mono p (Ext.refl _ _)
 |rd x y r=>grind [Ui]
 |fn f first g i l hn hm hr I ih J =>
  intro v o;cases o with
  |fn _ _ _ j P R T o hw =>
  refine .fn f _ _ j P zOm zOm (fun k y t=>?_) (fun k y t=>?_)
  .have U:k<g.length:=(qi.1 t).1
   have hx:first[k]?=some (first[k]' zOm):=qx _
   grind
  .have U:k<l.length:=(qi.1 t).1
   have hx:i[k]?=some (i[k]' zOm):=qx _
   grind
end
end Go.Ev
namespace Go.Ev
open Go Go.RowKit
section
variable {x:AV}{h:Array Obj}{G:Gh}{P:qb}{u:qg}{w:qf}
theorem ZS{e q cs i v}(g:P.underlying e=some (.int q))(h:cs[i]?=some v):(part e cs i).run P w = .ok v w:=by
 simp_all[isAgg,run_underlying,part]
theorem ZT{xs ys b}(h:aEqs (x :: xs) ys=some b):∃ k a b' g,x = .sc (.int k a)/\ys = .sc (.int k b') :: g/\(((a == b')=true/\aEqs xs g=some b)\/((a == b')=false/\b=false)):=by
 cases x with
 |sc v =>
  cases v with
  |int k a =>
   cases ys with
   |nil=>simp[aEqs]at h
   |cons y ys =>
    cases y with
    |sc u =>
     cases u with
     |int j b' =>
      by_cases l:k=j
      .subst l
       cases i:(a == b') with
       |true=>exact⟨k,a,b',ys,rfl,rfl,.inl ⟨i,by grind [aEqs]⟩⟩
       |false=>exact⟨k,a,b',ys,rfl,rfl,.inr ⟨i,by grind [aEqs]⟩⟩
      grind [aEqs]
     |_=>simp[aEqs]at h
    |_=>simp[aEqs]at h
  |_=>simp[aEqs]at h
 |_=>simp[aEqs]at h
theorem qcF(d){e q}(p:P.underlying e=some (.int q))(vs C):∀ xs ys i b,aEqs xs ys=some b ->
  (∀(k) x,xs[k]?=some x->∃ v,vs[i+k]?=some v/\VRel G w.heap x v)->(∀(k) x,ys[k]?=some x->∃ v,C[i+k]?=some v/\VRel G w.heap x v) ->
  (forIn (m:=Sem) (List.range' i xs.length) ((none:Option Bool),()) fun i R=>do
   let a <-part e vs i
   let b <-part e C i
   let c <-Op.equalIn (d+1) e a b
   if (!c)=true then pure (ForInStep.done (some false,())) else pure (ForInStep.yield (none,()))).run P w = .ok (if b then (none,()) else (some false,())) w:=by
 intro xs;induction xs with
 |nil =>
  intro ys i b h _ _;cases ys with
  |nil=>simp_all[aEqs,qo]
  |cons=>simp[aEqs]at h
 |cons x xs T =>
  intro ys i b h I J;have U:=ZT h;clear h;obtain⟨k,a,b',r,rfl,rfl,h⟩:=U;obtain⟨v,g,rv⟩:=I 0 _ rfl;obtain⟨u,l,ru⟩:=J 0 _ rfl;cases rv;cases ru;rw[Nat.add_zero]at g l;simp only[zC,List.range'_succ,List.forIn_cons,qE,ZS p g,ZS p l,qH,run_equalIn_int w d e k q a b' p];rcases h with ⟨o,h⟩|⟨o,rfl⟩
  .rw [o]
   simp only[Bool.not_true,Bool.false_eq_true,if_false,zg,qH];refine T r (i+1) b h (fun j x t=>?_) (fun j x t=>?_)
   .have:=I (j+1) x (zUs t)
    grind
   .have:=J (j+1) x (zUs t)
    grind
  simp_all
theorem Qr{xs:List AV}{vs:Array qg}(g:vs.size=xs.length)(i:∀(k) x,xs[k]?=some x->VRel G h x (vs.getD k j2)) :
  ∀(k) x,xs[k]?=some x->∃ v,vs[0+k]?=some v/\VRel G h x v:=by
 simp_all[qi,j2,qK]
theorem Ks(d){t e n q}(j:P.underlying t=some (.array n e))(l:P.underlying e=some (.int q))(o:szOf P e=some 1)
  {xs ys} {vs g} (p:xs.length=n) (r:VRel G w.heap (.agg xs) (.agg vs)) (C:VRel G w.heap (.agg ys) (.agg g)) {b} (h:aEqs xs ys=some b) :
  (Op.equalIn (d+2) t (.agg vs) (.agg g)).run P w = .ok b w:=by
 cases r with
 |agg _ _ I J =>
 cases C with
 |agg _ _ R T =>
 unfold Op.equalIn;simp only[qE,run_underlying j,qH,yJ o,Nat.mul_one,Std.Legacy.Range.forIn_eq_forIn_range'];have i:(Std.Legacy.Range.size [:n])=xs.length:=by simp[Std.Legacy.Range.size,p]
 rw[i];have:=qcF (G:=G) d l vs g xs ys 0 b h (Qr I J) (Qr R T);rw[this];cases b<;>simp
theorem qcG(d vs I):∀ fs i xs ys b,Qk P fs i=true->xs.length=fs.length->aEqs xs ys=some b ->
  (∀(k) x,xs[k]?=some x->∃ v,vs[i+k]?=some v/\VRel G w.heap x v)->(∀(k) x,ys[k]?=some x->∃ v,I[i+k]?=some v/\VRel G w.heap x v) ->
  (Op.eqFields (d+1) vs I fs).run P w = .ok b w:=by
 intro fs;induction fs with
 |nil =>
  intro i xs ys b _ p h _ _;have:xs=[]:=jY (zUs p);subst this;cases ys with
  |nil=>simp only[aEqs,qo]at h;subst h;rfl
  |cons=>simp[aEqs]at h
 |cons f fs T =>
  intro i xs ys b hf p h J R;cases xs with
  |nil=>simp at p
  |cons x xs =>
   simp only[Qk,qu,beq_iff_eq,bne_iff_ne,ne_eq]at hf;obtain⟨⟨⟨U,h2⟩,h3⟩,h4⟩:=hf;have h':=ZT h;clear h;obtain⟨k,a,b',r,rfl,rfl,h⟩:=h';obtain⟨v,g,rv⟩:=J 0 _ rfl;obtain⟨u,l,ru⟩:=R 0 _ rfl;cases rv;cases ru;rw[Nat.add_zero]at g l;obtain⟨q,t⟩:∃ q,P.underlying f.type=some (.int q):=by
    grind [X6,absurd]
   rw[Op.eqFields,if_pos h2];simp only[U,qE,ZS t g,ZS t l,qH,run_equalIn_int w d f.type k q a b' t];rcases h with ⟨o,h⟩|⟨o,rfl⟩
   .rw [o]
    simp only[Bool.not_true,Bool.false_eq_true,if_false];refine T (i+1) xs r b h4 (zUs p) h (fun j x C=>?_) (fun j x C=>?_)
    .have:=J (j+1) x (zUs C)
     grind
    .have:=R (j+1) x (zUs C)
     grind
   simp_all
theorem qcH(d){t fs}(i:P.underlying t=some (.struct fs))(hf:Qk P fs.toList 0=true)(l:P.stoodInHeld t=false)
  {xs ys} {vs g} (o:xs.length=fs.size) (p:VRel G w.heap (.agg xs) (.agg vs)) (r:VRel G w.heap (.agg ys) (.agg g)) {b} (h:aEqs xs ys=some b) :
  (Op.equalIn (d+2) t (.agg vs) (.agg g)).run P w = .ok b w:=by
 have j:P.fieldsOf t=fs:=by simp[Program.fieldsOf,i]
 rw[run_equalIn_agg w (d+1) t vs g (by rw[j];exact i) l,j];cases p with
 |agg _ _ C I =>
 cases r with
 |agg _ _ J R =>
 exact qcG d vs g fs.toList 0 xs ys b hf (zUs o) h (Qr C I) (Qr J R)
inductive KK where
 |now
 |arr (n:Nat)
def keyKind(P:qb)(g:qd):Option KK:=
 match P.underlying g with
 |some (.int _)|some .string|some .bool=>some .now
 |some (.array n e)=>match P.underlying e,szOf P e with
  |some (.int _),some 1=>some (.arr n)
  |_,_=>none
 |_=>none
@[go_sem] def yV(P:qb)(g:qd)(x y:AV):Option Bool:=
 match P.underlying g with
 |some (.int _)=>(match x,y with | .sc (.int k a),.sc (.int i b)=>if k=i then some (a == b) else none|_,_=>none)
 |some .string=>(match x,y with | .sc (.string a),.sc (.string b)=>some (a == b)|_,_=>none)
 |some .bool=>(match x,y with | .sc (.bool a),.sc (.bool b)=>some (a == b)|_,_=>none)
 |some (.array n e)=>(match P.underlying e,szOf P e with
  |some (.int _),some 1=>(match x,y with | .agg J,.agg r=>if J.length=n/\r.length=n then aEqs J r else none|_,_=>none)
  |_,_=>none)
 |_=>none
def qX(P:qb)(g:qd)(k:AV):List (AV×AV)->Nat->Option (Option Nat)
 | [],_=>some none
 |e :: T,i=>match yV P g k e.1 with
  |some true=>some (some i)
  |some false=>qX P g k T (i+1)
  |none=>none
@[go_sem] def Qs(q:IntKind):AV->Bool
 | .sc (.int k _)=>k == q
 |_=>false
@[go_sem] def yW(P:qb)(g:qd)(x:AV):Bool:=
 match P.underlying g with
 |some (.int q)=>Qs q x
 |some .string=>(match x with | .sc (.string _)=>true|_=>false)
 |some .bool=>(match x with | .sc (.bool _)=>true|_=>false)
 |some (.array n e)=>(match P.underlying e,szOf P e with
  |some (.int q),some 1=>(match x with | .agg J=>J.length == n&&J.all (Qs q)|_=>false)
  |_,_=>false)
 |_=>false
theorem qcI(m d){e q}(g:P.underlying e=some (.int q))(j:szOf P e=some 1)(vs):∀ n i,i+n<=vs.size ->
    (forIn (m := Sem) (List.range' i n) PUnit.unit fun i l => do
            let p <-Go.sizeOf e
            let x <-part e vs (i*p)
            Instr.checkKey m (d+1) e x
            pure (ForInStep.yield PUnit.unit)).run P w = .ok PUnit.unit w:=by
  intro n;induction n with
  |zero=>intro i _;rfl
  |succ n t =>
    intro i h;have o:vs[i]?=some (vs[i]' zOm):=by grind
    have r:∀ v,(Instr.checkKey m (d+1) e v).run P w = .ok () w:=by
      simp_all[Instr.checkKey,run_underlying]
    simp only[List.range'_succ,List.forIn_cons,qE,yJ j,qH,Nat.mul_one,ZS g o,r,zg]
    grind
theorem ZU{g v}(m)(r:VRel G w.heap x v)(h:yW P g x=true):(Instr.checkKey m 10000 g v).run P w = .ok () w:=by
 unfold yW at h;have now:∀ d,P.underlying g=some d->(∀ n e,d ≠ .array n e)->(∀ o,d ≠ .struct o)->(∀ p,d ≠ .interface p)->(Instr.checkKey m 10000 g v).run P w = .ok () w:=by
  intro d i t C I;show (Instr.checkKey m (9999+1) g v).run P w=_;unfold Instr.checkKey;simp only[qE,run_underlying i,qH];cases d<;>first|rfl | (exact absurd rfl (t _ _)) | (exact absurd rfl (C _)) | (exact absurd rfl (I _))
 split at h
 .grind
 .grind
 .grind
 .rename_i n e i
  split at h
  .rename_i R T
   split at h
   .rename_i J
    cases r with
    |agg _ j U hv =>
    have hl:J.length=n:=by
     grind
    show (Instr.checkKey m (9998+2) g (.agg j)).run P w=_;unfold Instr.checkKey;simp only[qE,run_underlying i,qH,Std.Legacy.Range.forIn_eq_forIn_range'];have l:(Std.Legacy.Range.size [:n])=n:=by simp[Std.Legacy.Range.size]
    rw[l,qcI m 9998 R T j n 0 zOm];simp
   grind
  grind
 grind
def yu(G:Gh)(h:Array Obj)(es:List (AV×AV))(ce:List uk):Prop:=ce.length=es.length/\∀(k:Nat) x,es[k]?=some x->∃ e,ce[k]?=some e/\VRel G h x.1 e.key/\VRel G h x.2 e.val
theorem Kt{i y v b d}(j:P.underlying i=some d)(l:∀ n e,d ≠ .array n e)(o:VRel G h x u)(p:VRel G h y v)(g:yV P i x y=some b) :
  Instr.sameNow d u v=some b:=by
 unfold yV at g;rw[j]at g;cases d<;>simp only at g<;>first | (exact absurd g (by simp;done)) | (exact absurd rfl (l _ _))|skip
 all_goals
  split at g
  .cases o;cases p
   grind [Instr.sameNow,qo,absurd]
  grind
theorem qcJ{t d}(C:P.underlying t=some d)(I:∀ n e,d ≠ .array n e)(J:VRel G h x u):∀ es ce i r,
  yu G h es ce->qX P t x es i=some r->Instr.findNow d u ce i=some (r.map fun j=>(j,(ce.getD (j-i) default).val))/\∀ j,r=some j->i<=j/\j<i+es.length:=by
 intro es;induction es with
 |nil =>
  intro ce i r g hf;have:ce=[]:=jY g.1;subst this;simp only[qX,qo]at hf;subst hf;exact⟨rfl,zSp⟩
 |cons e es T =>
  intro ce i r g hf;cases ce with
  |nil=>have:=g.1;simp at this
  |cons c ce =>
   obtain⟨c',l,R,rv⟩:=g.2 0 e rfl;simp only[YT,qo]at l;subst l;simp only[qX]at hf;split at hf
   .rename_i o
    simp only[qo]at hf;subst hf;have:=Kt C I J R o
    grind [Instr.findNow]
   .rename_i o
    have:=Kt C I J R o;have p:yu G h es ce:=⟨by have:=g.1;grind,fun k y U=>g.2 (k+1) y (zUs U)⟩;obtain⟨h1,h2⟩:=T ce (i+1) r p hf;refine⟨?_,fun j hj=>?_⟩
    .simp only[Instr.findNow,this,h1]
     cases r with
     |none=>rfl
     |some j =>
      have:=h2 j rfl;simp only[qZ];rw[show j-i=(j-(i+1))+1 by omega];simp
    grind
   grind
theorem qcK{o e n q}(R:P.underlying o=some (.array n e))(T:P.underlying e=some (.int q))(U:szOf P e=some 1){x u}(rx:VRel G w.heap x u) :
  ∀ es ce i r,yu G w.heap es ce->qX P o x es i=some r ->
   (Instr.findAsking o u ce i).run P w = .ok (r.map fun j=>(j,(ce.getD (j-i) default).val)) w/\∀ j,r=some j->i<=j/\j<i+es.length:=by
 intro es;induction es with
 |nil =>
  intro ce i r g hf;have:ce=[]:=jY g.1;subst this;simp only[qX,qo]at hf;subst hf;exact⟨rfl,zSp⟩
 |cons y es ih =>
  intro ce i r g hf;cases ce with
  |nil=>have:=g.1;simp at this
  |cons c ce =>
   obtain⟨c',p,t,rv⟩:=g.2 0 y rfl;simp only[YT,qo]at p;subst p;simp only[qX]at hf;have heq:∀ b,yV P o x y.1=some b->(Op.equal o u c.key).run P w = .ok b w:=by
    intro b l;unfold yV at l;rw[R]at l;simp only[T,U]at l;split at l
    .rename_i J ys C
     split at l
     .rename_i hl
      rw[C]at t;generalize hq:c.key=ck at t;cases rx with
      |agg _ vs hn hv =>
      cases t with
      |agg _ ws hm hw =>
      exact Ks (G:=G) 9998 R T U hl.1 (.agg _ _ hn hv) (.agg _ _ hm hw) l
     grind
    grind
   split at hf
   .rename_i hk
    simp only[qo]at hf;subst hf;simp_all[Instr.findAsking]
   .rename_i hk
    have I:yu G w.heap es ce:=⟨by have:=g.1;grind,fun k z hz=>g.2 (k+1) z (zUs hz)⟩;obtain⟨h1,h2⟩:=ih ce (i+1) r I hf;refine⟨?_,fun j hj=>?_⟩
    .simp only[Instr.findAsking,qE,heq _ hk,qH,Bool.false_eq_true,if_false,h1]
     cases r with
     |none=>rfl
     |some j =>
      have:=h2 j rfl;simp only[qZ];rw[show j-i=(j-(i+1))+1 by omega];simp
    grind
   grind
theorem u5{g}(p:VRel G w.heap x u)(l:yW P g x=true){es}{ce:Array uk}{r}(o:yu G w.heap es ce.toList)(hf:qX P g x es 0=some r) :
  (Instr.findKey g u ce.toList).run P w = .ok (r.map fun j=>(j,(ce.getD j default).val)) w/\∀ j,r=some j->j<es.length:=by
 have C:∀ j,ce.toList.getD j default=ce.getD j default:=by
  simp
 unfold yW at l;have now:∀ d,P.underlying g=some d->(∀ n e,d ≠ .array n e)->(Instr.findKey g u ce.toList).run P w = .ok (r.map fun j=>(j,(ce.getD j default).val)) w/\∀ j,r=some j->j<es.length:=by
  intro d i I;obtain⟨t,J⟩:=qcJ i I p es ce.toList 0 r o hf;simp_all[Nat.sub_zero,Instr.findKey,run_underlying]
 split at l
 .grind
 .grind
 .grind
 .rename_i n e i
  split at l
  .rename_i R T
   obtain⟨t,J⟩:=qcK i R T p es ce.toList 0 r o hf;simp only[Nat.sub_zero,C]at t;refine⟨?_,fun j hj=>by grind⟩;simp only[Instr.findKey,qE,run_underlying i,qH];cases U:ce.toList with
   |nil =>
    have:r=none:=by
     cases es with
     |nil=>grind [qX]
     |cons=>have:=o.1;rw[U]at this;simp at this
    subst this;simp[Instr.findNow]
   |cons c cs =>
    grind [Instr.findNow,Instr.sameNow]
  grind
 grind
end
end Go.Ev
namespace Go.Ev
open Go Go.RowKit
section
variable {k x y:AV}{h:Array Obj}{G:Gh}{es:List (AV×AV)}{mu:Mu}{P:qb}{g:qd}{w:qf}
def mapT(P:qb)(t:qd):Option (qd×qd):=match P.underlying t with|some (.map k e)=>some (k,e)|_=>none
theorem wJ{t k e}(h:mapT P t=some (k,e)):P.underlying t=some (.map k e):=by
 unfold mapT at h;split at h
 .grind
 grind
@[go_sem] def j7(mu:Mu):AV->Option (List (AV×AV))
 | .im T=>some T
 | .mp b=>match mu[b]? with|some (.mp T)=>some T|_=>none
 | .sc (.map none)=>some []
 |_=>none
theorem Jn(ce:Array uk)(k)(g:k<ce.size):ce.toList[k]?=some (ce.getD k default):=by
 simp[qK,g]
theorem qcL(s:Sim G mu w.heap){x v es}(r:VRel G w.heap x v)(h:j7 mu x=some es) :
  (v = .map none/\es=[])\/∃ m ce i,v = .map (some m)/\w.heap[m]?=some (.map ce i)/\yu G w.heap es ce.toList:=by
 unfold j7 at h;split at h
 .simp only[qo]at h;subst h
  cases r with
  |im _ g ce clock j P o R T U =>
   refine .inr ⟨g,ce,clock,rfl,j,⟨zUs o,fun k x p=>?_⟩⟩
   grind [qi,Jn]
 .split at h
  .rename_i t C
   simp only[qo]at h;subst h;cases r with
   |mp _ g l j =>
    obtain⟨ce,i,I,J,h3,h4,h5,h6⟩:=s.mp _ _ g l C j;refine .inr ⟨g,ce,i,rfl,I,⟨zUs J,fun k x p=>?_⟩⟩
    grind [qi,Jn]
  grind
 .simp only[qo]at h;subst h
  cases r;exact .inl ⟨rfl,rfl⟩
 grind
@[go_sem] def yX(P:qb)(mu:Mu)(t:qd)(m k:AV)(ok:Bool):Option AV:=
 match mapT P t,j7 mu m with
 |some (g,j),some T =>
  if yW P g k=true then
   match qX P g k T 0 with
   |some (some i)=>(T[i]?).map fun e=>if ok then .tup [e.2,.sc (.bool true)] else e.2
   |some none=>(qz P j).map fun z=>if ok then .tup [z,.sc (.bool false)] else z
   |none=>none
  else none
 |_,_=>none
theorem tup2{z u v}(i:VRel G h y u)(j:VRel G h z v):VRel G h (.tup [y,z]) (.tuple #[u,v]):=by
 refine .tup _ _ rfl (fun k c g=>?_);cases k with
 |zero=>simp at g;subst g;exact i
 |succ k=>cases k with
  |zero=>simp at g;subst g;exact j
  |succ k=>simp at g
theorem vP{m ce g}(h:w.heap[m]?=some (.map ce g)):(getObj m).run P w = .ok (.map ce g) w:=by
 simp[getObj,Sem.run,h]
theorem Ku(s:Sim G mu w.heap){t m k z ok vm U}(rm:VRel G w.heap m vm)(J:VRel G w.heap k U)(h:yX P mu t m k ok=some z) :
  ∃ u,(Instr.lookup t vm U ok).run P w = .ok u w/\VRel G w.heap z u:=by
 unfold yX at h;split at h
 .rename_i kt et T ht a0
  have I:=wJ ht;split at h
  .rename_i o
   have j:∀ b,(Instr.checkKey b 10000 kt U).run P w = .ok () w:=fun b=>ZU b J o
   rcases qcL s rm a0 with ⟨rfl,rfl⟩|⟨mb,ce,cl,rfl,hb,hr⟩
   .simp only[qX]at h
    cases C:qz P et with
    |none=>simp[C]at h
    |some z0 =>
     simp only[C,qZ,qo]at h;subst h;obtain⟨p,l,rfl⟩:=wG C w;have g:=(u5 (es:=[]) (ce:=#[]) J o ⟨rfl,zSp⟩ (r:=none) rfl).1;cases ok
     .exact ⟨p,by simp[Instr.lookup,run_underlying I,j,g,l],.ofV p⟩
     .exact ⟨.tuple #[p,.bool false],by simp[Instr.lookup,run_underlying I,j,g,l],tup2 (.ofV p) (.sc _ rfl)⟩
   .have R:=vP (P:=P) hb
    split at h
    .rename_i i hf
     obtain⟨g,a1⟩:=u5 J o hr hf;have hi:=a1 i rfl;have hx:T[i]?=some T[i]:=zP1 hi;rw[hx]at h;simp only[qZ,qo]at h;subst h;obtain⟨e,he,h1,h2⟩:=hr.2 i _ hx;have a2:ce.getD i default=e:=by
      simp_all
     simp only[qZ,a2]at g;cases ok
     .exact ⟨e.val,by simp[Instr.lookup,run_underlying I,R,j,g],h2⟩
     .exact ⟨.tuple #[e.val,.bool true],by simp[Instr.lookup,run_underlying I,R,j,g],tup2 h2 (.sc _ rfl)⟩
    .rename_i hf
     obtain⟨g,_⟩:=u5 J o hr hf;simp only[Option.map_none]at g;cases C:qz P et with
     |none=>simp[C]at h
     |some z0 =>
      simp only[C,qZ,qo]at h;subst h;obtain⟨p,l,rfl⟩:=wG C w;cases ok
      .exact ⟨p,by simp[Instr.lookup,run_underlying I,R,j,g,l],.ofV p⟩
      .exact ⟨.tuple #[p,.bool false],by simp[Instr.lookup,run_underlying I,R,j,g,l],tup2 (.ofV p) (.sc _ rfl)⟩
    grind
  grind
 grind
theorem Kv:∀ xs ys,aEqs xs ys=some true->xs=ys
 | [],[],_=>rfl
 | [],_ :: _,h=>by simp[aEqs]at h
 |x :: xs,[],h=>by cases x<;>simp[aEqs]at h
 |x :: xs,y :: ys,h=>by
  unfold aEqs at h;split at h
  .rename_i g i;cases g
  .rename_i k a l k' b o g i
   simp only[List.cons.injEq]at g i;obtain⟨rfl,rfl⟩:=g;obtain⟨rfl,rfl⟩:=i;split at h
   .rename_i p
    subst p;split at h
    .rename_i j
     have:=beq_iff_eq.1 j;subst this;rw[Kv xs ys h]
    grind
   grind
  grind
theorem Kw(q):∀ xs ys,xs.length=ys.length->xs.all (Qs q)=true->ys.all (Qs q)=true->∃ b,aEqs xs ys=some b
 | [],[],_,_,_=>⟨true,rfl⟩
 | [],_ :: _,h,_,_=>by simp at h
 |_ :: _,[],h,_,_=>by simp at h
 |x :: xs,y :: ys,h,g,i=>by
  simp only[List.all_cons,qu]at g i;obtain⟨b,t⟩:=Kw q xs ys (zUs h) g.2 i.2;have j:=g.1;have l:=i.1;unfold Qs at j l;split at j
  .split at l
   .rename_i C a _ I c
    have o:=beq_iff_eq.1 j;have p:=beq_iff_eq.1 l;subst o;subst p;by_cases r:(a == c)=true
    .simp_all [aEqs]
    simp_all[aEqs]
   grind
  grind
theorem Kx{a b:cL}(h:(a == b)=true):a=b:=by
 obtain⟨x⟩:=a;obtain⟨y⟩:=b;have g:(x == y)=true:=h;rw[beq_iff_eq.1 g]
theorem qcM(h:yV P g x y=some true):x=y:=by
 unfold yV at h;split at h
 .grind
 .grind [qo,Kx,absurd]
 .grind
 .grind [Kv,absurd]
 grind
theorem Ky{l}(i:yW P l x=true)(g:yW P l y=true):∃ b,yV P l x y=some b:=by
 unfold yW at i g;unfold yV;split at i
 .rename_i q j
  simp only[j]at g⊢;unfold Qs at i g;split at i
  .split at g
   .simp_all
   grind
  grind
 .rename_i j
  simp only[j]at g⊢;split at i
  .split at g
   .exact ⟨_,rfl⟩
   grind
  grind
 .rename_i j
  simp only[j]at g⊢;split at i
  .split at g
   .exact ⟨_,rfl⟩
   grind
  grind
 .rename_i n e j
  simp only[j]at g⊢;split at i
  .rename_i q o p
   simp only[o,p]at g⊢;split at i
   .split at g
    .rw [qu]at i g
     have r:=beq_iff_eq.1 i.1;have t:=beq_iff_eq.1 g.1;simp only;rw[if_pos ⟨r,t⟩]
     grind [Kw]
    grind
   grind
  grind
 grind
theorem ZV:∀{es i j},qX P g k es i=some (some j)->i<=j/\∃ e,es[j-i]?=some e/\k=e.1
 | [],i,j,h=>by simp[qX]at h
 |e :: es,i,j,h=>by
  unfold qX at h;split at h
  .rename_i l
   simp only[qo]at h;subst h;exact⟨qs _,e,zSp,qcM l⟩
  .obtain ⟨o,p,r,t⟩:=ZV h
   grind
  grind
theorem Uj{j}:∀{es i},qX P j k es i=some none->∀ e,e∈es->yV P j k e.1=some false
 | [],_,_=>zSp
 |e :: es,i,h=>by
  unfold qX at h;split at h
  .exact absurd h zSp
  .rename_i l
   intro o g;rcases ql.1 g with rfl|g
   .exact l
   .exact Uj h o g
  grind
theorem Kz(l:yW P g k=true):∀ es i,(∀ e,e∈es->yW P g e.1=true)->∃ r,qX P g k es i=some r
 | [],i,_=>⟨none,rfl⟩
 |e :: es,i,h=>by
  obtain⟨b,p⟩:=Ky l (h e zSp);obtain⟨r,t⟩:=Kz l es (i+1) (fun o j=>h o (zP1 j))
  grind [qX]
theorem PIx.mem{C o r es i}(p:PIx o r es i){x:C}:x∈i↔x∈es:=by
 constructor
 .intro h
  obtain⟨j,l⟩:=List.mem_iff_getElem?.1 h;have g:j<es.length:=by rw[<-p.1];grind
  rw[p.back g]at l
  grind
 .intro h
  obtain⟨j,l⟩:=List.mem_iff_getElem?.1 h;have g:j<es.length:=(qi.1 l).1;rw[<-(p.2 j g).2.2.2.2]at l
  grind
theorem qcN(h:(es.map Prod.fst).Nodup){x y}(g:x∈es)(i:y∈es)(e:x.1=y.1):x=y:=by
 induction es with
 |nil=>simp at g
 |cons z es j =>
  grind
theorem KA(h:yV P g x y=some false):x≠y:=by
 rintro rfl;unfold yV at h;have agg:∀ J:List AV,aEqs J J≠some false:=by
  intro J;induction J with
  |nil=>simp[aEqs]
  |cons x J j =>
   intro h;obtain⟨k,a,o,i,rfl,p,h⟩:=ZT h
   grind
 have ba:∀ a:cL,(a == a)=true:=fun a=>by obtain⟨l⟩:=a;exact(beq_self_eq_true l)
 split at h
 .grind
 .grind
 .grind
 .grind
 grind
theorem qcO{t T et p z ok σ τ}(ht:mapT P t=some (T,et))(I:PIx σ τ es p)(hd:(es.map Prod.fst).Nodup)
  (ho:∀ e,e∈es->yW P T e.1=true) (h:yX P mu t (.im es) k ok=some z):yX P mu t (.im p) k ok=some z:=by
 unfold yX at *
 simp only[ht,j7]at h⊢;split at h
 .rename_i U
  rw[if_pos U];obtain⟨r',o⟩:=Kz U p 0 (fun e r=>ho e (I.mem.1 r));rw[o];split at h
  .rename_i i J
   obtain⟨_,e,r,C⟩:=ZV J;simp only[Nat.sub_zero]at r;rw[r]at h;cases r' with
   |none=>exact absurd C (KA (Uj o e (I.mem.2 (zh r))))
   |some j =>
    obtain⟨_,R,g,l⟩:=ZV o;simp only[Nat.sub_zero]at g;have:R=e:=qcN hd (I.mem.1 (zh g)) (zh r) (by rw[<-C,<-l])
    grind
  .rename_i J
   cases r' with
   |none=>exact h
   |some j =>
    obtain⟨_,R,g,l⟩:=ZV o;simp only[Nat.sub_zero]at g;exact absurd l (KA (Uj J R (I.mem.1 (zh g))))
  grind
 grind
def yC(P:qb)(mu:Mu)(t:qd)(m k:AV)(ok:Bool):Option AV:=
 match m with
 | .ims T=>(match mapT P t with
  |some (g,_)=>if (T.all fun e=>yW P g e.1)=true then yX P mu t (.im T) k ok else none
  |none=>none)
 |m=>yX P mu t m k ok
@[go_sem] theorem qnQ(P mu t es k ok):yC P mu t (.ims es) k ok=(match mapT P t with
  |some (g,_)=>if (es.all fun e=>yW P g e.1)=true then yX P mu t (.im es) k ok else none
  |none=>none):=rfl
@[go_sem] theorem qnR(P mu t es k ok):yC P mu t (.im es) k ok=yX P mu t (.im es) k ok:=rfl
@[go_sem] theorem qnS(P mu t b k ok):yC P mu t (.mp b) k ok=yX P mu t (.mp b) k ok:=rfl
@[go_sem] theorem qnT(P mu t v k ok):yC P mu t (.sc v) k ok=yX P mu t (.sc v) k ok:=rfl
theorem qcP(s:Sim G mu w.heap){t m k z ok g i}(j:VRel G w.heap m g)(l:VRel G w.heap k i)(h:yC P mu t m k ok=some z) :
  ∃ u,(Instr.lookup t g i ok).run P w = .ok u w/\VRel G w.heap z u:=by
 unfold yC at h;split at h
 .rename_i T
  split at h
  .rename_i J R o
   split at h
   .rename_i U
    cases j with
    |ims _ p σ τ _ C I r =>
     exact Ku s r l (qcO o C I (fun e he=>by grind) h)
   grind
  grind
 .exact Ku s j l h
theorem qcQ:∀(xs ys)(vs g:List qg)(n),aEqs xs ys=some true->vs.length=xs.length->g.length=ys.length->(∀(k:Nat) x,xs[k]?=some x->∃ v,vs[k]?=some v/\VRel G h x v) ->
  (∀(k:Nat) x,ys[k]?=some x->∃ v,g[k]?=some v/\VRel G h x v)->vs.length=g.length/\((vs.zip g).all fun (x,y)=>Instr.sameBits n x y)=true:=by
 intro xs;induction xs with
 |nil =>
  intro ys vs g n l o p _ _;cases ys with
  |nil=>simp_all
  |cons=>simp[aEqs]at l
 |cons x xs P =>
  intro ys vs g n l o p C i;have R:=ZT l;clear l;obtain⟨k,a,b',r,rfl,rfl,h⟩:=R;rcases h with ⟨T,h⟩|⟨_,h⟩
  .cases vs with
   |nil=>simp at o
   |cons v vs =>
    cases g with
    |nil=>simp at p
    |cons u g =>
     obtain⟨v',I,U⟩:=C 0 _ rfl;obtain⟨u',J,r2⟩:=i 0 _ rfl;simp at I J;subst I;subst J;cases U;cases r2;obtain⟨g1,g2⟩:=P r vs g n h (zUs o) (zUs p) (fun j y t=>C (j+1) y (zUs t)) (fun j y t=>i (j+1) y (zUs t));refine⟨by simp[g1],?_⟩;simp_all[List.zip_cons_cons,List.all_cons,Instr.sameBits]
  grind
theorem Uk{kt u v}(R:VRel G h x u)(T:VRel G h y v)(g:yV P kt x y=some true):Instr.sameBits 10000 v u=true:=by
 unfold yV at g;split at g
 .split at g
  .cases R;cases T
   split at g
   .simp_all [qo,beq_iff_eq,Instr.sameBits]
   grind
  grind
 .split at g
  .cases R;cases T
   simp_all[Option.some.inj,Instr.sameBits,beq_toListBytes,beq_iff_eq]
  grind
 .split at g
  .cases R;cases T
   have g:=Option.some.inj g;simp_all[Instr.sameBits,beq_iff_eq]
  grind
 .split at g
  .split at g
   .rename_i J o
    split at g
    .rename_i hl
     cases R with
     |agg _ j U hv =>
     cases T with
     |agg _ p hm hw =>
     have g1:=Qr U hv;have g2:=Qr hm hw;have:=qcQ (G:=G) (h:=h) J o j.toList p.toList 9999 g (zUs U) (zUs hm) (fun k x hx=>by have:=g1 k x hx;simpa using this) (fun k x hx=>by have:=g2 k x hx;simpa using this);have t:∀(a b:List qg),a.length=b.length->((a.zip b).all fun (x,y)=>Instr.sameBits 9999 x y)=true->(∀ c,c∈a->∃ k n,c = .int k n)->(∀ c,c∈b->∃ k n,c = .int k n)->((b.zip a).all fun (x,y)=>Instr.sameBits 9999 x y)=true:=by
      intro a;induction a with
      |nil=>intro b _ _ _ _;simp
      |cons c a ih =>
       intro b hl h ha hb;cases b with
       |nil=>simp at hl
       |cons d b =>
        obtain⟨k1,n1,rfl⟩:=ha c zSp;obtain⟨k2,n2,rfl⟩:=hb d zSp;simp only[List.zip_cons_cons,List.all_cons,qu]at h⊢;refine⟨?_,ih b (zUs hl) h.2 (fun c i=>ha c (zP1 i)) (fun c i=>hb c (zP1 i))⟩;simp only[Instr.sameBits,qu,beq_iff_eq]at h⊢;exact⟨h.1.1.symm,h.1.2.symm⟩
     have ints:∀(J o:List AV),aEqs J o=some true->(∀ c,c∈J->∃ k n,c = .sc (.int k n))/\(∀ c,c∈o->∃ k n,c = .sc (.int k n)):=by
      intro J;induction J with
      |nil=>intro o h;cases o with
       |nil=>simp
       |cons=>simp[aEqs]at h
      |cons x J ih =>
       intro o h;have h':=ZT h;clear h;obtain⟨k,a,b',a0,rfl,rfl,h⟩:=h';rcases h with ⟨_,h⟩|⟨_,h⟩
       .obtain ⟨g1,g2⟩:=ih a0 h
        refine⟨fun c i=>?_,fun c i=>?_⟩
        .rcases ql.1 i with rfl|i
         .exact ⟨k,a,rfl⟩
         .exact g1 c i
        .rcases ql.1 i with rfl|i
         .exact ⟨k,b',rfl⟩
         .exact g2 c i
       .exact absurd h zSp
     obtain⟨i1,i2⟩:=ints J o g;have val:∀(l:List AV)(C:Array qg),C.size=l.length->(∀(k:Nat) x,l[k]?=some x->VRel G h x (C.getD k j2))->(∀ c,c∈l->∃ k n,c = .sc (.int k n))->∀ c,c∈C.toList->∃ k n,c = .int k n:=by
      intro l C U hv hi c i;obtain⟨k,g⟩:=List.mem_iff_getElem?.1 i;have I:C[k]?=some c:=zUs g;have a1:k<l.length:=by have:=(zU.1 I).1;omega
      obtain⟨q,n,e⟩:=hi l[k] zSp;have r:=hv k l[k] (zP1 a1);rw[e,qbM I]at r;cases r;exact⟨q,n,rfl⟩
     have hs:=t j.toList p.toList this.1 this.2 (val J j U hv i1) (val o p hm hw i2);show (p.size == j.size&&(p.toList.zip j.toList).all fun (x,y)=>Instr.sameBits 9999 x y)=true
     grind
    grind
   grind
  grind
 grind
theorem Ul:∀ es i j,qX P g k es i=some (some j)->i<=j/\∃ e,es[j-i]?=some e/\yV P g k e.1=some true:=by
 intro es;induction es with
 |nil=>intro i j h;simp[qX]at h
 |cons e es l =>
  intro i j h;simp only[qX]at h;split at h
  .grind
  .grind
  grind
end
end Go.Ev
namespace Go.Ev
open Go Go.RowKit
section
variable {ce:Array uk}{h:Array Obj}{G:Gh}{es:List (AV×AV)}{l mu:Mu}{g:Nat}{P:qb}{w:qf}
@[go_sem] def KB(es:List (AV×AV))(i:Option Nat)(k v:AV):List (AV×AV):=
 match i with
 |some i=>es.set i (k,v)
 |none=>es++[(k,v)]
theorem uu{r}(h:w.heap[r]?=some (.map ce g))(o):(setObj r o).run P w = .ok () { w with heap:=w.heap.setIfInBounds r o }:=by
 simp[setObj,Sem.run,h]
theorem Un(w:qf)(r o)(h:r<w.heap.size):({ w with heap:=w.heap.setIfInBounds r o }:qf).heap[r]?=some o:=by
 simp[h]
theorem Uo(w:qf)(r k o)(h:k≠r):({ w with heap:=w.heap.setIfInBounds r o }:qf).heap[k]?=w.heap[k]?:=by
 grind
theorem Jo(s:Sim G mu w.heap){b v es}(r:VRel G w.heap (.mp b) v)(l:mu[b]?=some (.mp es)) :
  ∃ m g ce,v = .map (some m)/\G.blk[b]?=some (m,g)/\w.heap[m]?=some (.map ce ce.size)/\yu G w.heap es ce.toList/\(∀(k)(e:uk),ce[k]?=some e->e.born=k):=by
 cases r with
 |mp _ i g j =>
  obtain⟨ce,I,o,p,J,P,t,C⟩:=s.mp _ _ i g l j;subst t;refine⟨i,g,ce,rfl,j,o,⟨zUs p,fun k x R=>?_⟩,C⟩
  grind [qi,Jn]
theorem qcR(i:yu G h es ce.toList)(l:∀(k)(e:uk),ce[k]?=some e->e.born=k):j0 G h g (.map ce ce.size) (.mp es):=by
 refine⟨ce,ce.size,rfl,by simpa using i.1,fun k x j=>?_,fun k x j=>?_,rfl,l⟩
 .obtain ⟨e,o,p,r⟩:=i.2 k x j
  simp_all
 .obtain ⟨e,o,p,r⟩:=i.2 k x j
  simp_all
theorem KC(g:yu G h es ce.toList){i}(C:i<es.length){k v o p}(I:VRel G h k o)(J:VRel G h v p) :
  yu G h (es.set i (k,v)) (ce.modify i fun e=>{ e with key:=o,val:=p }).toList:=by
 refine⟨by simpa using g.1,fun j x l=>?_⟩;rcases jJ l with ⟨rfl,rfl⟩|⟨r,l⟩
 .have t:j<ce.size:=by have:=g.1;simp at this;omega
  simp_all
 .obtain ⟨e,P,R,T⟩:=g.2 j x l
  grind
theorem Up(i:yu G h es ce.toList){k v l o}(t:VRel G h k l)(C:VRel G h v o)(n) :
  yu G h (es++[(k,v)]) (ce.push { key:=l,val:=o,born:=n }).toList:=by
 have r:ce.size=es.length:=by simpa using i.1
 refine⟨zP1 r,fun j x g=>?_⟩;rcases zL g with ⟨I,g⟩|⟨rfl,rfl⟩
 .obtain ⟨e,J,P,R⟩:=i.2 j x g
  grind
 simp_all
theorem Uq(g:∀(k) (e:uk),ce[k]?=some e->e.born=k)(i f)(hf:∀ e,(f e).born=e.born):∀(k)(e:uk),(ce.modify i f)[k]?=some e->e.born=k:=by
 grind
theorem KD(g:∀(k)(e:uk),ce[k]?=some e->e.born=k)(x)(i:x.born=ce.size):∀(k)(e:uk),(ce.push x)[k]?=some e->e.born=k:=by
 grind
theorem sL(s:Sim G mu w.heap){b m j es i ce g}(o:mu[b]?=some (.mp es))(p:G.blk[b]?=some (m,j))(r:w.heap[m]?=some (.map ce ce.size))
  (t:yu G w.heap i g.toList) (l:∀(k)(e:uk),g[k]?=some e->e.born=k):Stp G mu w G (mu.set b (.mp i)) { w with heap:=w.heap.setIfInBounds m (.map g g.size) }:=by
 grind [zU,sW,Un,Uo,qcR]
theorem qcS(s:Sim G mu w.heap){b v es}(r:VRel G w.heap (.mp b) v)(o:mu[b]?=some (.md es)) :
  ∃ m g ce j,v = .map (some m)/\G.blk[b]?=some (m,g)/\w.heap[m]?=some (.map ce j)/\yu G w.heap es ce.toList/\jj ce j:=by
 cases r with
 |mp _ i g l =>
  obtain⟨ce,j,p,t,I,J,C⟩:=s.md _ _ i g o l;refine⟨i,g,ce,j,rfl,l,p,⟨zUs t,fun k x P=>?_⟩,C⟩
  grind [qi,Jn]
theorem qcT{i}(j:yu G h es ce.toList)(o:jj ce g):j0 G h i (.map ce g) (.md es):=by
 refine⟨ce,g,rfl,by simpa using j.1,fun k x l=>?_,fun k x l=>?_,o⟩
 .obtain ⟨e,p,r,t⟩:=j.2 k x l
  simp_all
 .obtain ⟨e,p,r,t⟩:=j.2 k x l
  simp_all
theorem sQ(s:Sim G mu w.heap){b m j c i o g p}(r:mu[b]?=some c)(t:c ≠ .dead)(C:G.blk[b]?=some (m,j))(I:w.heap[m]?=some o)
  (J:yu G w.heap i g.toList) (l:jj g p):Stp G mu w G (mu.set b (.md i)) { w with heap:=w.heap.setIfInBounds m (.map g p) }:=by
 grind [zU,sW,Un,Uo,qcT]
theorem qcU{l}(o:jj ce l)(i f)(hf:∀ e,(f e).born=e.born):jj (ce.modify i f) l:=by
 have key:∀(k:Nat)(e:uk),(ce.modify i f)[k]?=some e->∃ g,ce[k]?=some g/\g.born=e.born:=by
  grind
 refine⟨fun k e h=>?_,fun j k e p r t T=>?_⟩
 .obtain ⟨g,C,I⟩:=key k e h
  rw[<-I];exact o.1 k g C
 .obtain ⟨J,g1,U⟩:=key j e r
  obtain⟨P,R,g4⟩:=key k p t;exact o.2 j k J P g1 R zOm
theorem qcV{i}(g:jj ce i)(x)(I:x.born=i):jj (ce.push x) (i+1):=by
 have key:∀(k:Nat)(e:uk),(ce.push x)[k]?=some e->(k=ce.size/\e=x)\/ce[k]?=some e:=by
  grind
 refine⟨fun k e h=>?_,fun j k e l r t C=>?_⟩
 .rcases key k e h with ⟨_,rfl⟩|h
  .omega
  .have:=g.1 k e h;omega
 .rcases key j e r with ⟨o,rfl⟩|o<;>rcases key k l t with ⟨p,rfl⟩|p
  .omega
  .have:=g.1 k l p;omega
  .have:=g.1 j e o;omega
  .exact g.2 j k e l o p C
theorem qcW{l}(o:jj ce l)(i):jj (ce.eraseIdxIfInBounds i) l:=by
 have key:∀ k:Nat,∃ j:Nat,(ce.eraseIdxIfInBounds i)[k]?=ce[j]?/\j=if k<i then k else if i<ce.size then k+1 else k:=by
  grind
 refine⟨fun k e h=>?_,fun j k e t p r C=>?_⟩
 .obtain ⟨j,g,_⟩:=key k
  rw[g]at h;exact o.1 j e h
 .obtain ⟨I,g,R⟩:=key j
  obtain⟨J,P,T⟩:=key k;rw[g]at p;rw[P]at r;have:=o.2 I J e t p r C
  grind
theorem qcX(j:yu G h es ce.toList){i}(t:i<es.length):yu G h (es.eraseIdx i) (ce.eraseIdxIfInBounds i).toList:=by
 have o:ce.size=es.length:=by simpa using j.1
 have e:(ce.eraseIdxIfInBounds i).toList=ce.toList.eraseIdx i:=by
  simp_all
 rw[e];refine⟨by simp[List.length_eraseIdx,o],fun k x g=>?_⟩;rw[List.getElem?_eraseIdx]at g;by_cases l:k<i
 .rw [if_pos l]at g
  obtain⟨c,p,r⟩:=j.2 k x g
  grind
 .rw [if_neg l]at g
  obtain⟨c,p,r⟩:=j.2 (k+1) x g
  grind
@[go_sem] def wK(P:qb)(mu:Mu)(t:qd)(m k v:AV):Option Mu:=
 match m,mapT P t with
 | .mp b,some (g,_)=>match mu[b]? with
  |some (.mp T)=>if yW P g k=true then (qX P g k T 0).map fun r=>mu.set b (.mp (KB T r k v)) else none
  |some (.md T)=>if yW P g k=true then (qX P g k T 0).map fun r=>mu.set b (.md (KB T r k v)) else none
  |_=>none
 |_,_=>none
theorem Ur{o n}(h:Instr.sameBits 10000 o n=true):(Instr.keyThatStays o n).run P w = .ok n w:=by
 simp[Instr.keyThatStays,h]
theorem KE(s:Sim G mu w.heap){t m k v vm vk vv}(rm:VRel G w.heap m vm)(rk:VRel G w.heap k vk)(rv:VRel G w.heap v vv)(h:wK P mu t m k v=some l) :
  ∃ w',(Instr.mapUpdate t vm vk vv).run P w = .ok () w'/\Stp G mu w G l w':=by
 unfold wK at h;split at h
 .rename_i b kt et ht
  have hu:=wJ ht;split at h
  .rename_i T hm
   split at h
   .rename_i I
    obtain⟨mb,a5,ce,rfl,hb,J,R,g⟩:=Jo s rm hm;have U:(Instr.checkKey false 10000 kt vk).run P w = .ok () w:=ZU false rk I;have hg:=vP (P:=P) J;have a6:ce.size=T.length:=by simpa using R.1
    cases hf:qX P kt k T 0 with
    |none=>simp[hf]at h
    |some r =>
     simp only[hf,qZ,qo]at h;subst h;obtain⟨j,a1⟩:=u5 rk I R hf;cases r with
     |none =>
      have o:=Up R rk rv ce.size;have p:=KD g { key:=vk,val:=vv,born:=ce.size } rfl;refine⟨_,?_,sL s hm hb J o p⟩;simp only[Option.map_none]at j;simp[Instr.mapUpdate,run_underlying hu,hg,U,j,uu J]
     |some i =>
      obtain⟨_,e,he,a0⟩:=Ul T 0 i hf;rw[Nat.sub_zero]at he;obtain⟨c,hc,a2,a7⟩:=R.2 i e he;have a3:ce[i]?=some c:=zUs hc;have C:=Uk rk a2 a0;have o:=KC R (a1 i rfl) rk rv;have p:=Uq g i (fun e=>{ e with key:=vk,val:=vv }) (fun _=>rfl);refine⟨_,?_,sL s hm hb J o p⟩;simp only[qZ]at j;simp[Instr.mapUpdate,run_underlying hu,hg,U,j,a3,Ur C,uu J]
   grind
  .rename_i T hm
   split at h
   .rename_i I
    obtain⟨mb,a5,ce,cl,rfl,hb,J,R,g⟩:=qcS s rm hm;have U:(Instr.checkKey false 10000 kt vk).run P w = .ok () w:=ZU false rk I;have hg:=vP (P:=P) J;have a6:ce.size=T.length:=by simpa using R.1
    cases hf:qX P kt k T 0 with
    |none=>simp[hf]at h
    |some r =>
     simp only[hf,qZ,qo]at h;subst h;obtain⟨j,a1⟩:=u5 rk I R hf;cases r with
     |none =>
      have o:=Up R rk rv cl;have p:=qcV g { key:=vk,val:=vv,born:=cl } rfl;refine⟨_,?_,sQ s hm zSp hb J o p⟩;simp only[Option.map_none]at j;simp[Instr.mapUpdate,run_underlying hu,hg,U,j,uu J]
     |some i =>
      obtain⟨_,e,he,a0⟩:=Ul T 0 i hf;rw[Nat.sub_zero]at he;obtain⟨c,hc,a2,a7⟩:=R.2 i e he;have a3:ce[i]?=some c:=zUs hc;have C:=Uk rk a2 a0;have o:=KC R (a1 i rfl) rk rv;have p:=qcU g i (fun e=>{ e with key:=vk,val:=vv }) (fun _=>rfl);refine⟨_,?_,sQ s hm zSp hb J o p⟩;simp only[qZ]at j;simp[Instr.mapUpdate,run_underlying hu,hg,U,j,a3,Ur C,uu J]
   grind
  grind
 grind
@[go_sem] def wL(P:qb)(mu:Mu)(t:qd)(m k:AV):Option (AV×Mu):=
 match m,mapT P t with
 | .mp b,some (g,j)=>match mu[b]? with
  |some (.mp T)=>if yW P g k=true then
    match qX P g k T 0 with
    |some (some i)=>(T[i]?).map fun e=>(.tup [e.2,.sc (.int .i64 i)],mu.set b (.mp (T.set i (k,e.2))))
    |some none=>(qz P j).map fun z=>(.tup [z,.sc (.int .i64 T.length)],mu.set b (.mp (T++[(k,z)])))
    |none=>none
   else none
  |_=>none
 |_,_=>none
theorem qcY(s:Sim G mu w.heap){t m k z vm U}(rm:VRel G w.heap m vm)(rk:VRel G w.heap k U)(h:wL P mu t m k=some (z,l)) :
  Good P G mu w (Instr.mapEntry t vm U) z l:=by
 unfold wL at h;split at h
 .rename_i b kt et ht
  have hu:=wJ ht;split at h
  .rename_i T hm
   split at h
   .rename_i p
    obtain⟨mb,a9,ce,rfl,hb,hh,r,g⟩:=Jo s rm hm;have a0:(Instr.checkKey false 10000 kt U).run P w = .ok () w:=ZU false rk p;have hg:=vP (P:=P) hh;have a2:ce.size=T.length:=by simpa using r.1
    split at h
    .rename_i i hf
     obtain⟨o,aa⟩:=u5 rk p r hf;obtain⟨_,e,he,a1⟩:=Ul T 0 i hf;rw[Nat.sub_zero]at he;rw[he]at h;simp only[qZ,qo,vu]at h;obtain⟨rfl,rfl⟩:=h;obtain⟨c,hc,a3,a4⟩:=r.2 i e he;have C:ce[i]?=some c:=zUs hc;have I:=Uk rk a3 a1;have a5:ce.getD i default=c:=by simp[qK,C]
     have J:yu G w.heap (T.set i (k,e.2)) (ce.modify i fun e=>{ e with key:=U }).toList:=by
      refine⟨by simpa using r.1,fun j x hx=>?_⟩;rcases jJ hx with ⟨rfl,rfl⟩|⟨ab,hx⟩
      .grind
      .obtain ⟨e',ad,h1,h2⟩:=r.2 j x hx
       grind
     have R:=Uq g i (fun e=>{ e with key:=U }) (fun _=>rfl);have a6:c.born=i:=g i c C;have st:=sL s hm hb hh J R;refine⟨.tuple #[c.val,.int .i64 i],_,G,?_,st,tup2 (st.vrel s a4) (.sc _ rfl)⟩;simp only[qZ,a5]at o;simp[Instr.mapEntry,run_underlying hu,hg,a0,o,C,Ur I,uu hh,goInt,a6]
    .rename_i hf
     obtain⟨o,_⟩:=u5 rk p r hf;cases hz:qz P et with
     |none=>simp[hz]at h
     |some z0 =>
      simp only[hz,qZ,qo,vu]at h;obtain⟨rfl,rfl⟩:=h;obtain⟨zv,a7,rfl⟩:=wG hz w;have J:=Up r rk (VRel.ofV (G:=G) (h:=w.heap) zv) ce.size;have R:=KD g { key:=U,val:=zv,born:=ce.size } rfl;have st:=sL s hm hb hh J R;refine⟨.tuple #[zv,.int .i64 T.length],_,G,?_,st,tup2 (.ofV zv) (.sc _ rfl)⟩;simp only[Option.map_none]at o;simp[Instr.mapEntry,run_underlying hu,hg,a0,o,a7,uu hh,goInt,a2]
    grind
   grind
  grind
 grind
@[go_sem] def Jp(mu:Mu)(m g v:AV):Option Mu:=
 match m,g with
 | .mp b,.sc (.int _ i)=>match mu[b]? with
  |some (.mp T)=>if 0<=i then (T[i.toNat]?).map fun e=>mu.set b (.mp (T.set i.toNat (e.1,v))) else none
  |_=>none
 |_,_=>none
theorem qcZ(s:Sim G mu w.heap){t m st v vm vs p}(rm:VRel G w.heap m vm)(rs:VRel G w.heap st vs)(rv:VRel G w.heap v p)(h:Jp mu m st v=some l) :
  ∃ w',(Instr.entryStore t vm vs p).run P w = .ok () w'/\Stp G mu w G l w':=by
 unfold Jp at h;split at h
 .rename_i b q i
  split at h
  .rename_i T hm
   split at h
   .rename_i a1
    cases r:T[i.toNat]? with
    |none=>simp[r]at h
    |some e =>
     simp only[r,qZ,qo]at h;subst h;obtain⟨mb,a2,ce,rfl,hb,C,I,g⟩:=Jo s rm hm;cases rs;have hg:=vP (P:=P) C;obtain⟨c,hc,a3,a4⟩:=I.2 _ e r;have J:ce[i.toNat]?=some c:=zUs hc;have R:i.toNat<ce.size:=(zU.1 J).1;have o:ce.findIdx? (fun e=>(e.born:Int) == i)=some i.toNat:=by
      rw[Array.findIdx?_eq_some_iff_getElem];refine⟨R,?_,fun j hj=>?_⟩
      .grind
      .have:ce[j].born=j:=g j _ (by simp[show j<ce.size by omega])
       simp[this];omega
     have U:yu G w.heap (T.set i.toNat (e.1,v)) (ce.modify i.toNat fun e=>{ e with val:=p }).toList:=by
      refine⟨by simpa using I.1,fun j x hx=>?_⟩;rcases jJ hx with ⟨rfl,rfl⟩|⟨a5,hx⟩
      .grind
      .obtain ⟨e',a6,h1,h2⟩:=I.2 j x hx
       grind
     have a0:=Uq g i.toNat (fun e=>{ e with val:=p }) (fun _=>rfl);refine⟨_,?_,sL s hm hb C U a0⟩;simp[Instr.entryStore,hg,asInt,asIntOf,o,uu C]
   grind
  grind
 grind
theorem qc0(s:Sim G mu w.heap){t}:Good P G mu w (Instr.makeMap t none) (.mp mu.length) (mu++[.mp []]):=by
 have st:=sR s (.map #[] 0) (.mp []) 0 (fun _=>⟨#[],0,rfl,rfl,zSp,zSp,rfl,zSp⟩);refine⟨.map (some w.heap.size),_,_,?_,st,.mp _ w.heap.size 0 ?_⟩
 .simp [Instr.makeMap]
 .show (G.blk++[_])[mu.length]?=_
  rw[<-s.len];simp
@[go_sem] def Jq(P:qb)(mu:Mu)(t:qd)(m:AV):Option (AV×Mu):=
 match mapT P t,m with
 |some _,.im T=>some (.ptr mu.length 0,mu++[.it T []])
 |some _,.ims T=>some (.ptr mu.length 0,mu++[.it T []])
 |some _,.sc (.map none)=>some (.ptr mu.length 0,mu++[.it [] []])
 |_,_=>none
theorem qc1(s:Sim G mu w.heap){t m z U}(i:VRel G w.heap m U)(h:Jq P mu t m=some (z,l)):Good P G mu w (Instr.range t U) z l:=by
 unfold Jq at h;split at h
 .rename_i o T p
  obtain⟨kt,et⟩:=o;have r:=wJ p;simp only[qo,vu]at h;obtain⟨rfl,rfl⟩:=h;have j:=i;cases i with
  |im _ g ce clock C I hn hk hv hd =>
  have st:=sR s (.mapIter (some g) clock #[] clock) (.it T []) 0 (fun h => .inl ⟨g,T,id,id,ce,clock,j,C,I,PIx.refl T,zSp,zSp⟩);refine⟨.pointer (some ⟨w.heap.size,0,none⟩),_,_,?_,st,.ptr _ 0 w.heap.size 0 ?_⟩
  .have J:=vP (P:=P) C
   simp[Instr.range,run_underlying r,J]
  .show (G.blk++[_])[mu.length]?=_
   rw[<-s.len];simp
 .rename_i o T p
  obtain⟨kt,et⟩:=o;have r:=wJ p;simp only[qo,vu]at h;obtain⟨rfl,rfl⟩:=h;cases i with
  |ims _ R σ τ _ hp a0 i =>
  have j:=i;cases i with
  |im _ g ce clock C I hn hk hv hd =>
  have st:=sR s (.mapIter (some g) clock #[] clock) (.it T []) 0 (fun h => .inl ⟨g,R,σ,τ,ce,clock,j,C,I,hp,zSp,zSp⟩);refine⟨.pointer (some ⟨w.heap.size,0,none⟩),_,_,?_,st,.ptr _ 0 w.heap.size 0 ?_⟩
  .have J:=vP (P:=P) C
   simp[Instr.range,run_underlying r,J]
  .show (G.blk++[_])[mu.length]?=_
   rw[<-s.len];simp
 .rename_i o p
  obtain⟨kt,et⟩:=o;have r:=wJ p;simp only[qo,vu]at h;obtain⟨rfl,rfl⟩:=h;cases i;have st:=sR s (.mapIter none 0 #[] 0) (.it [] []) 0 (fun _ => .inr ⟨rfl,rfl⟩);refine⟨.pointer (some ⟨w.heap.size,0,none⟩),_,_,?_,st,.ptr _ 0 w.heap.size 0 ?_⟩
  .simp [Instr.range,run_underlying r]
  .show (G.blk++[_])[mu.length]?=_
   rw[<-s.len];simp
 grind
def Us(mu:Mu)(g:AV)(K:AV->Mu->Prop):Prop:=
 ∃ b T seen,g = .ptr b 0/\mu[b]?=some (.it T seen) /\
  (∀(i:Nat) e,T[i]?=some e->i ∉ seen->K (.tup [.sc (.bool true),e.1,e.2]) (mu.set b (.it T (seen++[i])))) /\
  ((∀ i,i<T.length->i∈seen)->K (.tup [.sc (.bool false)]) mu)
theorem tup1{y u}(i:VRel G h y u):VRel G h (.tup [y]) (.tuple #[u]):=by
 refine .tup _ _ rfl (fun k c g=>?_);cases k with
 |zero=>simp at g;subst g;exact i
 |succ k=>simp at g
theorem tup3{x y z t u v}(i:VRel G h x t)(j:VRel G h y u)(l:VRel G h z v):VRel G h (.tup [x,y,z]) (.tuple #[t,u,v]):=by
 refine .tup _ _ rfl (fun k c g=>?_)
 match k,g with
 | 0,g=>simp at g;subst g;exact i
 | 1,g=>simp at g;subst g;exact j
 | 2,g=>simp at g;subst g;exact l
 |k+3,g=>simp at g
theorem qc2(s:Sim G mu w.heap){an vi ty}(ri:VRel G w.heap an vi){K}(h:Us mu an K) :
  ∃ z l,K z l/\Good P G mu w (Instr.next vi false ty) z l:=by
 obtain⟨b,T,seen,rfl,hm,h1,h2⟩:=h;cases ri with
 |ptr _ _ r ao hb =>
 obtain⟨o,ho,ag⟩:=s.obj b _ r ao hm zSp hb;have b2:r<w.heap.size:=(zU.1 ho).1;rcases ag with ⟨m,a1,σ,τ,g,p,rm,a6,hi,I,a2,rfl⟩|⟨rfl,rfl⟩
 .cases rm with
  |im _ _ ce clock ab a7 aq hk hv hd =>
  rw[a6]at ab;obtain⟨rfl,rfl⟩:g=ce/\p=clock:=zUs ab;have hn:g.size=T.length:=by rw[aq];exact I.1
  have ar:∀ j,j<T.length->g[j]?=some (g.getD j default):=fun j hj=>by
   simp_all
  generalize au:(seen.map fun i=>(g.getD (σ i) default).born)=sn at ho;have ad:∀ j,j<T.length->((g.getD j default).born∈sn↔τ j∈seen):=by
   intro j hj;rw[<-au,qp];constructor
   .rintro ⟨i,a7,b3⟩
    have h1:=I.2 i (a2 i a7);have:=hd.2 _ _ _ _ (ar _ h1.1) (ar j hj) b3
    grind
   .intro b4
    exact⟨τ j,b4,by simp only[(I.2 j hj).2.2.2.1]⟩
  have a3:(getObj r).run P w = .ok (.mapIter (some m) p sn.toArray p) w:=by simp[getObj,Sem.run,ho]
  have ah:=vP (P:=P) a6;have J:(!sn.toArray.isEmpty&&!g.isEmpty&&g.all fun e=>decide (e.born>=p))=false:=by
   by_cases bb:g.size=0
   .grind
   .have:(g.all fun e=>decide (e.born>=p))=false:=by
     cases hq:(g.all fun e=>decide (e.born>=p)) with
     |false=>rfl
     |true =>
      have h0:g[0]?=some (g[0]' zOm):=by simp[show 0<g.size by omega]
      have:=(Array.all_eq_true'.1 hq) _ (Array.mem_of_getElem? h0);have bc:=hd.1 0 _ h0
      grind
    rw[this];simp
  have av:∀(a:Array uk),(∀ e,e∈a->e∈g)->(a.filter fun e=>decide (e.born<p))=a/\(a.filter fun e=>decide (e.born>=p))=#[]:=by
   intro a ha;have hb:∀ e,e∈a->e.born<p:=by
    intro e he;obtain⟨k,hk⟩:=Array.mem_iff_getElem?.1 (ha e he);exact hd.1 k e hk
   simp_all
  obtain⟨ai,aj⟩:=av (g.filter fun e=>!sn.toArray.contains e.born) (fun e he=>(Array.mem_filter.1 he).1);generalize C:(g.filter fun e=>!sn.toArray.contains e.born)=left at ai aj;have a0:∀ e,e∈left->∃(k:Nat) (x:AV×AV),T[k]?=some x/\k ∉ seen/\e.born=(g.getD (σ k) default).born/\VRel G w.heap x.1 e.key/\VRel G w.heap x.2 e.val:=by
   intro e he;rw[<-C,Array.mem_filter]at he;obtain⟨k,aw⟩:=Array.mem_iff_getElem?.1 he.1;have a8:k<g.size:=(zU.1 aw).1;have a4:k<T.length:=zOm;have hx:a1[k]?=some (a1[k]' zOm):=by simp[show k<a1.length by omega]
   have a9:g.getD k default=e:=by simp[qK,aw]
   refine⟨τ k,_,by rw[<-I.back a4];exact hx,?_,by rw[(I.2 k a4).2.2.2.1,a9],by have:=hk k _ hx;rwa[a9]at this,by have:=hv k _ hx;rwa[a9]at this⟩;intro hs;have:=he.2;have h3:=(ad k a4).2 hs;rw[a9]at h3;simp[h3]at this
  by_cases a5:left=#[]
  ·
   have ax:∀ i,i<T.length->i∈seen:=by
    intro i hi;refine Classical.byContradiction fun ak=>?_
    obtain⟨q1,q2,q3,q4,q5⟩:=I.2 i hi;have a7:σ i<g.size:=zOm;have:g[σ i]∈left:=by
     rw[<-C,Array.mem_filter];refine⟨zSp,?_⟩;have h4:g.getD (σ i) default=g[σ i]:=by simp[qK,a7]
     have h3:g[σ i].born ∉ sn:=fun h=>ak (by rw[<-h4]at h;have:=(ad _ q1).1 h;rwa[q3]at this)
     simp[h3]
    rw[a5]at this;simp at this
   refine⟨_,_,h2 ax,?_⟩;refine sY s (v := .tuple #[.bool false]) ?_ (tup1 (.sc _ rfl));simp only[Instr.next,qE,a3,qH,ah,J,Bool.false_eq_true,if_false,C,a5];simp[Question.forced]
  .have R:0<left.size:=by
    rcases Nat.eq_zero_or_pos left.size with h|h
    .exact absurd (Array.eq_empty_of_size_eq_zero h) a5
    .exact h
   have ay:left.isEmpty=false:=by simp[Array.isEmpty];omega
   have ae:∀(n:Nat)(h:n<left.size),left[n]?=some left[n]:=fun n h=>zP1 h
   have key:∀(n:Nat)(U:qf)(b5:n<left.size),U.heap=w.heap->Stp G mu w G mu U->∃ z l,K z l/\∃ v w' G',((do
     setObj r (.mapIter (some m) p (sn.toArray.push left[n].born) p)
     pure (.tuple #[.bool true,left[n].key,left[n].val]):Sem qg)).run P U = .ok v w'/\Stp G mu w G' l w'/\VRel G' w'.heap z v:=by
    intro n U b5 aa al;obtain⟨k,x,hx,ak,b6,r1,r2⟩:=a0 left[n] zSp;have b7:U.heap[r]?=some (.mapIter (some m) p sn.toArray p):=by rw[aa];exact ho
    have az:r<U.heap.size:=by rw[aa];exact b2
    have b8:VRel G U.heap (.im a1) (.map (some m)):=by rw[aa];exact .im _ m g _ a6 hi aq hk hv hd
    have a4:k<T.length:=(qi.1 hx).1;have st:=sW al.sim b (.it T seen) (.it T (seen++[k])) r ao (.mapIter (some m) p (sn++[(g.getD (σ k) default).born]).toArray p) hm zSp zSp hb (w':={ U with heap:=U.heap.setIfInBounds r (.mapIter (some m) p (sn++[(g.getD (σ k) default).born]).toArray p) }) zSp
     (Un U r _ az) (fun j hj=>Uo U r j _ hj) rfl rfl rfl (.inl ⟨m,a1,σ,τ,g,p,b8,by rw[aa];exact a6,hi,I,fun i hi=>by
      rcases List.mem_append.1 hi with h|h
      .exact a2 i h
      .simp at h;subst h;exact a4,by rw[zF,au,List.map_singleton]⟩)
    have b0:(setObj r (.mapIter (some m) p (sn.toArray.push left[n].born) p)).run P U = .ok () { U with heap:=U.heap.setIfInBounds r (.mapIter (some m) p (sn++[(g.getD (σ k) default).born]).toArray p) }:=by
     simp[setObj,Sem.run,b7,b6]
    refine⟨_,_,h1 k x hx ak,.tuple #[.bool true,left[n].key,left[n].val],_,G,?_,al.trans s st,?_⟩
    .simp only[qE,b0,qH,zg]
    .have t:=al.trans s st
     exact tup3 (.sc _ rfl) (t.vrel s r1) (t.vrel s r2)
   have b9:∀(z:AV)(l:Mu),True:=fun _ _=>trivial
   by_cases af:left.size<=1
   .obtain ⟨z,l,a8,v,w',G',g1,g2,g3⟩:=key 0 w R rfl (Stp.refl s)
    refine⟨z,l,a8,v,w',G',?_,g2,g3⟩;rw[<-g1];simp only[Instr.next,qE,a3,qH,ah,J,Bool.false_eq_true,if_false,C,ai,aj,ay];simp[Question.forced,af,ae 0 R]
   .obtain ⟨z,l,a8,v,w',G',g1,g2,g3⟩:=key (w.tape w.drawn (.mapNext left.size) % left.size) w.drew (Nat.mod_lt _ R) rfl (Stp.drew s)
    refine⟨z,l,a8,v,w',G',?_,g2,g3⟩;rw[<-g1];simp only[Instr.next,qE,a3,qH,ah,J,Bool.false_eq_true,if_false,C,ai,aj,ay];have b1:=Nat.mod_lt (w.tape w.drawn (.mapNext left.size)) R;simp[Question.forced,Question.cut,af,ae _ b1]
 .have a3:(getObj r).run P w = .ok (.mapIter none 0 #[] 0) w:=by simp[getObj,Sem.run,ho]
  refine⟨_,_,h2 (fun i hi=>by simp at hi),sY s (v := .tuple #[.bool false]) ?_ (tup1 (.sc _ rfl))⟩;simp[Instr.next,a3]
@[go_sem] def wM(mu:Mu)(g:AV):Option AV:=
 match g with
 | .ptr b 0=>match mu[b]? with
  |some (.it T seen)=>match seen.getLast? with
   |some i=>(T[i]?).map fun e => .tup [e.1,e.2]
   |none=>none
  |_=>none
 |_=>none
theorem qc3(s:Sim G mu w.heap){J z vi}(ri:VRel G w.heap J vi)(h:wM mu J=some z) :
  ∃ u,(Instr.entry vi).run P w = .ok u w/\VRel G w.heap z u:=by
 unfold wM at h;split at h
 .rename_i b
  split at h
  .rename_i T seen hm
   split at h
   .rename_i i hi
    cases R:T[i]? with
    |none=>simp[R]at h
    |some x =>
     simp only[R,qZ,qo]at h;subst h;cases ri with
     |ptr _ _ U a2 hb =>
     obtain⟨o,ho,r⟩:=s.obj b _ U a2 hm zSp hb;rcases r with ⟨m,a3,σ,τ,g,t,rm,a0,aa,a1,a4,rfl⟩|⟨rfl,rfl⟩
     .cases rm with
      |im _ _ ce clock p a5 a6 hk hv hd =>
      rw[a0]at p;obtain⟨rfl,rfl⟩:g=ce/\t=clock:=zUs p;have hn:g.size=T.length:=by rw[a6];exact a1.1
      obtain⟨q1,q2,q3,q4,q5⟩:=a1.2 i (qi.1 R).1;have C:a3[σ i]?=some x:=by rw[q5];exact R
      have l:(seen.map fun i=>(g.getD (σ i) default).born).toArray.back?=some ((g.getD (σ i) default).born):=zP1 hi;generalize (seen.map fun i=>(g.getD (σ i) default).born)=sn at ho l;generalize σ i=i at C l q1;have ab:(getObj U).run P w = .ok (.mapIter (some m) t sn.toArray t) w:=by simp[getObj,Sem.run,ho]
      have ad:=vP (P:=P) a0;have I:i<g.size:=zOm;have a7:g.getD i default=g[i]:=by simp[qK,I]
      rw[a7]at l;have a8:g.find? (fun e=>e.born == g[i].born)=some g[i]:=by
       rw[Array.find?_eq_some_iff_getElem];refine⟨zSp,i,I,rfl,fun j hj=>?_⟩;have a9:j<g.size:=zOm;have:g[j].born≠g[i].born:=fun h=>by
        have:=hd.2 j i _ _ (zP1 a9) (zP1 I) h;omega
       simp[this]
      have r1:=hk i x C;have r2:=hv i x C;simp_all[Instr.entry,tup2]
     .simp at R
   grind
  grind
 grind
end
end Go.Ev
namespace Go.Ev
open Go Go.RowKit
section
variable {mu:Mu}{w:qf}
theorem qc4{P G}(s:Sim G mu w.heap){x v ys sz}(r:VRel G w.heap x v)(h:qF mu x=some ys)(hz:zb sz ys)(n)(hn:n<=ys.length) :
  ∃(news:List qg),news.length=n*sz/\(∀ u∈news,u.oneCell'=true)/\(∀(k) y,(ys.take n).flatten[k]?=some y->VRel G w.heap y (news.getD k j2)) /\
   (Builtin.lenOf v).run P w = .ok ys.length w/\(Builtin.firstCells sz n v).run P w = .ok news.toArray w:=by
 have l:zb sz (ys.take n):=fun r hr=>hz r (ja hr)
 have a2:(ys.take n).flatten.length=n*sz:=by rw[yc l.ok];simp[Nat.min_eq_left hn]
 have o:∀(k:Nat) y,(ys.take n).flatten[k]?=some y->ys.flatten[k]?=some y:=by
  grind [List.flatten_append,un,ze,qi]
 have fin:∀(a:Addr)(cap:Nat)(rd:Nat->qg),(∀(k:Nat) y,ys.flatten[k]?=some y->w.cell? (a.add k)=some (rd k)/\VRel G w.heap y (rd k))->v = .slice (some a) ys.length cap ->
   ∃(news:List qg),news.length=n*sz/\(∀ u∈news,u.oneCell'=true)/\(∀(k:Nat) y,(ys.take n).flatten[k]?=some y->VRel G w.heap y (news.getD k j2)) /\
   (Builtin.lenOf v).run P w = .ok ys.length w/\(Builtin.firstCells sz n v).run P w = .ok news.toArray w:=by
  intro a cap rd R T;subst T;have p:∀ k,k<n*sz->∃ y,(ys.take n).flatten[k]?=some y:=fun k hk=>⟨(ys.take n).flatten[k]' zOm,zSp⟩
  refine⟨(qq (n*sz)).map rd,zSp,?_,?_,by simp[Builtin.lenOf],?_⟩
  .intro u hu
   obtain⟨k,hk,rfl⟩:=qp.1 hu;obtain⟨y,i⟩:=p k (zUs hk);exact(R k y (o k y i)).2.one (l.one y (zh i))
  .grind
  grind [Builtin.firstCells,run_loadCells]
 unfold qF at h;split at h
 .rename_i full J
  simp only[qo]at h;subst h;cases r with
  |nil =>
   simp_all[List.length_nil,Nat.le_zero,Builtin.lenOf,Builtin.firstCells]
  |emp _ a cap U=>simp_all
  |lst _ _ g a cap cs e fr rd hb hs hl U hi a4 hr T =>
   exact fin a cap rd (fun k y i=>⟨by grind [wH],T k y i⟩) rfl
 .rename_i b g off len
  split at h
  .rename_i cells U
   split at h
   .rename_i a5
    simp only[qo]at h;cases r with
    |sl _ _ _ _ j a0 cap hb ht hl =>
    obtain⟨arr,e,h1,h2,h3,h4⟩:=s.arr b cells j a0 U hb;have t:ys.length=len:=by rw[<-h];simp
    subst t;by_cases h0:ys.length=0
    .simp_all
    .have C:g=sz:=by
      have I:0<ys.length:=zOm;have hm:(cells.drop (off+0*g)).take g∈ys:=by
       rw[<-h];exact qp.2 ⟨0,zUs I,rfl⟩
      have:=(hz _ hm).1;have a3:g<=ys.length*g:=Nat.le_mul_of_pos_left _ I;simp at this;omega
     subst C;have a1:ys.flatten=(cells.drop off).take (ys.length*g):=by
      grind [Ug,List.drop_drop]
     refine fin ⟨j,off,none⟩ cap (fun k=>arr.getD (off+k) j2) (fun k y i=>?_) rfl;rw[a1,yG]at i;split at i
     .rw [jX]at i
      refine⟨?_,(h4 _ y i).2⟩;rw[wH (a:=⟨j,off,none⟩) h1 rfl];have a6:off+k<cells.length:=(qi.1 i).1;have:off+k<arr.size:=zOm;simp[qK,this]
     grind
   grind
  grind
 grind
theorem sZ{G}(s:Sim G mu w.heap){b off g i cells xs arr e news}(t:mu[b]?=some (.arr cells))(C:G.blk[b]?=some (g,i))
  (I:w.heap[g]?=some (.cells arr e (0,0))) (T:arr.size=i) (U:cells.length<=i) (h4:∀(j) x,cells[j]?=some x->x.one=true/\VRel G w.heap x (arr.getD j j2))
  (l:off+xs.length<=cells.length) (hn:news.length=xs.length) (p:∀ x,x∈xs->x.one=true) (hx:∀(k) x,xs[k]?=some x->VRel G w.heap x (news.getD k j2)) :
  Stp G mu w G (mu.set b (.arr (qQ cells off xs))) (w.setRow g (arr.toList.take off++news++arr.toList.drop (off+news.length)).toArray):=by
 refine sW s b (.arr cells) _ g i (.cells (arr.toList.take off++news++arr.toList.drop (off+news.length)).toArray e (0,0)) t zSp zSp C zSp (setRow_heap w g arr _ e _ I)
  (fun k J=>setRow_other w g k _ J) rfl rfl rfl ?_
 refine⟨_,e,rfl,zSo,by grind [jk],?_⟩;intro j y r;rw[jk _ _ _ l,zm]at r;rw[Uf,zf,zm];have P:(arr.toList.take off).length=off:=zSo;have R:(cells.take off).length=off:=zSo;by_cases o:j<off
 .rw [zGa,yG,if_pos o]at r
  rw[zGa,yG,if_pos o,uo,<-qK]
  grind
 grind [zK,ze,zh,qK]
def delE(es:List (AV×AV)):Option Nat->List (AV×AV)
 |some i=>es.eraseIdx i
 |none=>es
inductive ExtB (P:qb) (mu:Mu):Builtin->Array qd->List AV->AV->Mu->Prop where
 |copy {t t' e:qd} {sz sz0 bt b off len:Nat} {cells:List AV} {ys:List (List AV)} {x:AV} (hs:qA P t=some (e,sz,bt)) (hc:mu[b]?=some (.arr cells)) (hl:off+len*sz<=cells.length)
   (hr:qF mu x=some ys) (hw:zb sz ys) :
   ExtB P mu .copy #[t,t'] [.sl b sz0 off len,x] (.sc (.int .i64 ((min ys.length len:Nat):Int))) (mu.set b (.arr (qQ cells off (ys.take len).flatten)))
 |clear {t e:qd} {sz bt b off len:Nat} {cells:List AV} {zv:AV} (hs:qA P t=some (e,sz,bt)) (hz:qz P e=some zv) (hz1:zv.cells.length=sz) (hz2:zv.cells.all AV.one=true) (hz0:sz≠0) (hc:mu[b]?=some (.arr cells)) (hl:off+len*sz<=cells.length) (hp:0<len) :
   ExtB P mu .clear #[t] [.sl b sz off len] (.tup []) (mu.set b (.arr (qQ cells off ((qq (len*sz)).map fun i=>zv.cells.getD (i % sz) .any))))
 |delete {t t' kt et:qd} {b:Nat} {es:List (AV×AV)} {k:AV} {r:Option Nat} (ht:mapT P t=some (kt,et)) (hc:mu[b]?=some (.mp es)) (hk:yW P kt k=true) (hf:qX P kt k es 0=some r) :
   ExtB P mu .delete #[t,t'] [.mp b,k] (.tup []) (mu.set b (.md (delE es r)))
theorem qc5{P G a6}(s:Sim G mu w.heap){b a7 ty cs args vs z}
  (hn:vs.size=args.length) (hr:∀(k) x,args[k]?=some x->VRel G w.heap x (vs.getD k j2)) (h:ExtB P mu b a7 args z a6) :
  ∃ u w',(builtin b a7 ty cs vs).run P w = .ok (.value u) w'/\Stp G mu w G a6 w'/\VRel G w'.heap z u:=by
 cases h with
 | @copy t t' e p b1 bt b off len cells j x hs R hl ai hw =>
  have r0:=hr 0 _ rfl;have r1:=hr 1 _ rfl;have o:vs=#[vs.getD 0 j2,vs.getD 1 j2]:=by
   have U:vs.size=2:=zUs hn;apply Array.ext
   .simpa using U
   .intro i hi aj
    have:i=0\/i=1:=zOm;rcases this with rfl|rfl<;>simp[qK,hi]
  generalize vs.getD 0 j2=u0 at *
  generalize vs.getD 1 j2=u1 at *
  subst o;obtain⟨ak,hu,a8,al,an⟩:=j5 hs;have b2:szOf P e=some p:=by grind [szOf]
  obtain⟨g,a9,a2,aa,aw,ax⟩:=qc4 (P:=P) s r1 ai hw (min j.length len) (Nat.min_le_left _ _);have a3:j.take (min j.length len)=j.take len:=by
   rcases Nat.le_total j.length len with h|h
   .grind
   .rw [Nat.min_eq_right h]
  rw[a3]at aa;have ab:zb p (j.take len):=fun r hr=>hw r (ja hr)
  have ay:(j.take len).flatten.length=min j.length len*p:=by
   rw[yc ab.ok,uZ,Nat.min_comm]
  cases r0 with
  |sl _ _ _ _ C a0 cap hb ht ao =>
   obtain⟨arr,el,h1,U,h3,h4⟩:=s.arr b cells C a0 R hb;have b3:min j.length len*p<=len*p:=Nat.mul_le_mul_right _ (Nat.min_le_right _ _);have st:=sZ s (off:=off) (xs:=(j.take len).flatten) (news:=g) R hb h1 U h3 h4 zOm zOm ab.one aa;have I:=run_storeCells_at P C off el g 0 arr w h1 zOm a2;simp only[Nat.add_zero]at I;refine⟨_,_,?_,st,.sc _ rfl⟩;have az:Nat.min j.length len=min j.length len:=rfl;simp only[builtin,Builtin.copy_,qE,zg,goInt];simp_all[vt,YT,jW,run_underlying,yJ]
 | @clear t e p bt b off len cells zv hs hz aq b4 b5 R hl hp =>
  have r0:=hr 0 _ rfl;have o:vs=#[vs.getD 0 j2]:=by
   have U:vs.size=1:=zUs hn;apply Array.ext
   .simpa using U
   simp_all
  generalize vs.getD 0 j2=u0 at *
  subst o;obtain⟨ak,hu,a8,al,an⟩:=j5 hs;obtain⟨z,b6,rfl⟩:=wG hz w;have ad:∀ c,c∈(ofV z).cells->c.one=true:=fun c R=>by grind
  obtain⟨c1,c2,c3⟩:=(VRel.ofV (G:=G) (h:=w.heap) z).cells ad;have ar:z.cells.size=p:=by rw[c1,aq]
  have a9:(zp z.cells len).toList.length=len*p:=by simp[zp,ar]
  have b0:∀ i:Nat,i % p<p:=fun i=>Nat.mod_lt i zOm
  have ae:∀ i,i<len*p->(zp z.cells len).toList.getD i j2=z.cells.getD (i % p) j2:=by
   simp_all[zp,zf,qK,getElem!_pos,X2]
  cases r0 with
  |sl _ _ _ _ C a0 cap hb ht ao =>
   obtain⟨arr,el,h1,U,h3,h4⟩:=s.arr b cells C a0 R hb;have a2:∀ v,v∈(zp z.cells len).toList->v.oneCell'=true:=by
    intro v hv;obtain⟨i,hi⟩:=List.mem_iff_getElem?.1 hv;have au:i<len*p:=by grind
    have:=ae i au;rw[zf,hi]at this;simp only[Option.getD_some]at this;simp_all
   have b7:∀(k:Nat) x,((qq (len*p)).map fun i=>(ofV z).cells.getD (i % p) .any)[k]?=some x->k<len*p/\(ofV z).cells[k % p]?=some x:=by
    grind
   have st:=sZ s (off:=off) (xs:=(qq (len*p)).map fun i=>(ofV z).cells.getD (i % p) .any) (news:=(zp z.cells len).toList) R hb h1 U h3 h4 (zUs hl) (by rw[a9];simp)
    (fun x hx=>by
     grind)
    (fun k x hx=>by
     grind)
   have I:=run_storeCells_at P C off el (zp z.cells len).toList 0 arr w h1 zOm a2;simp only[Nat.add_zero]at I;refine⟨_,_,?_,st,.tup [] #[] rfl zSp⟩;obtain⟨l,rfl⟩:∃ l,len=l+1:=⟨len-1,zOm⟩;simp_all[builtin,Builtin.clear_,qE,vt,YT,run_underlying]
 | @delete t t' kt et b T k r ht R af hf =>
  have r0:=hr 0 _ rfl;have r1:=hr 1 _ rfl;have o:vs=#[vs.getD 0 j2,vs.getD 1 j2]:=by
   have U:vs.size=2:=zUs hn;apply Array.ext
   .simpa using U
   .intro i hi aj
    have:i=0\/i=1:=zOm;rcases this with rfl|rfl<;>simp[qK,hi]
  generalize vs.getD 0 j2=u0 at *
  generalize vs.getD 1 j2=u1 at *
  subst o;have hu:=wJ ht;obtain⟨mb,a0,ce,rfl,hb,hh,a4,a5⟩:=Jo s r0 R;have ag:(Instr.checkKey ce.isEmpty 10000 kt u1).run P w = .ok () w:=ZU _ r1 af;have hg:=vP (P:=P) hh;obtain⟨a1,av⟩:=u5 r1 af a4 hf;have ah:jj ce ce.size := .of rfl a5;cases r with
  |none =>
   refine⟨_,_,?_,sQ s R zSp hb hh a4 ah,.tup [] #[] rfl zSp⟩;simp only[Option.map_none]at a1;simp[builtin,Builtin.delete_,run_underlying hu,hg,ag,a1,uu hh]
  |some i =>
   refine⟨_,_,?_,sQ s R zSp hb hh (qcX a4 (av i rfl)) (qcW ah i),.tup [] #[] rfl zSp⟩;simp only[qZ]at a1;simp[builtin,Builtin.delete_,run_underlying hu,hg,ag,a1,uu hh]
end
end Go.Ev
namespace Go.Ev
open Go Go.RowKit
section
variable {P:qb}
theorem KF{g k x}:∀{es i r},qX P g k es i=some r->(r.isSome=true->qX P g k (es++[x]) i=some r)/\(r=none->qX P g k (es++[x]) i=qX P g k [x] (i+es.length))
 | [],i,r,h=>by
  grind [qX]
 |e :: es,i,r,h=>by
  unfold qX at h;split at h
  .rename_i j
   simp only[qo]at h;subst h;refine⟨fun _=>?_,fun h=>absurd h zSp⟩;rw[yU,qX,j]
  .rename_i j
   obtain⟨o,p⟩:=KF (x:=x) h;refine⟨fun l=>?_,fun l=>?_⟩
   .rw [yU,qX,j];exact o l
   .rw [yU,qX,j]
    simp only;rw[p l,zC];congr 1;omega
  .exact absurd h zSp
theorem KG{mu l t m k z o k' v}(h:wL P mu t m k=some (z,l))(j:yX P mu t o k' false=some v):yX P l t o k' false=some v:=by
 unfold wL at h;split at h
 .rename_i b kt et ht
  split at h
  .rename_i T hm
   split at h
   .rename_i J
    split at h
    ·
     rename_i i hf;obtain⟨_,e,he,R⟩:=ZV hf;simp only[Nat.sub_zero]at he;simp only[he,qZ,qo,vu]at h;have e1:T.set i (k,e.2)=T:=by
      rw[R];apply zZ
      grind
     rw[e1]at h;have e2:mu.set b (.mp T)=mu:=by
      apply zZ
      grind
     grind
    .rename_i hf
     cases U:qz P et with
     |none=>simp[U]at h
     |some I =>
      simp only[U,qZ,qo,vu]at h;obtain⟨_,rfl⟩:=h;have a0:b<mu.length:=(qi.1 hm).1;unfold yX at j⊢;rw[ht]at j⊢
      have key:j7 (mu.set b (.mp (T++[(k,I)]))) o=j7 mu o\/(j7 mu o=some T/\j7 (mu.set b (.mp (T++[(k,I)]))) o=some (T++[(k,I)])):=by
       unfold j7;split
       .exact .inl rfl
       .rename_i b'
        by_cases p:b=b'
        .grind
        grind
       .exact .inl rfl
       .exact .inl rfl
      rcases key with key|⟨k1,k2⟩
      .grind
      .rw [k1]at j
       rw[k2];simp only at j⊢;split at j
       .rename_i g
        rw[if_pos g];cases C:qX P kt k' T 0 with
        |none=>grind
        |some r =>
         rw[C]at j;obtain⟨a1,a2⟩:=KF (x:=(k,I)) C;cases r with
         |some i =>
          rw[a1 rfl]
          grind
         |none =>
          rw[a2 rfl];simp only[U,qZ]at j;obtain⟨bb,p⟩:=Ky g J;rw[qX,p];cases bb with
          |true =>
           grind
          |false =>
           grind [qX]
       grind
    grind
   grind
  grind
 grind
theorem qc6{mu l t m k z i k' v}(h:wL P mu t m k=some (z,l))(g:yC P mu t i k' false=some v):yC P l t i k' false=some v:=by
 cases i with
 |ims T =>
  simp only[yC]at g⊢;cases j:mapT P t with
  |none=>grind
  |some q =>
   rw[j]at g;simp only at g⊢;split at g
   .rename_i o
    rw[if_pos o];exact KG h g
   grind
 |_=>exact KG h g
end
end Go.Ev
namespace Go.Ev
open Go Go.RowKit
section
variable {x:AV}{K:AV->Prop}{h:Array Obj}{vs:Array qg}{G:Gh}{xs:List (List AV)}{mu:Mu}{P:qb}{t:qd}{w:qf}
@[go_sem] def uw(P:qb)(op:BinOp)(t:qd)(x y:AV):Option AV:=
 match x,y with
 | .agg J,.agg r=>match Ji P t with
  |some n=>if J.length=n then (match op with
   | .eql=>(aEqs J r).map fun b => .sc (.bool b)
   | .neq=>(aEqs J r).map fun b => .sc (.bool !b)
   |_=>none) else none
  |none=>none
 |x,y=>aBin P op t x y
theorem qc7{n}(h:Ji P t=some n):P.eqGuardType P.depth t=false/\((∃ e q,P.underlying t=some (.array n e)/\P.underlying e=some (.int q)/\szOf P e=some 1) \/
  ∃ fs,P.underlying t=some (.struct fs)/\Qk P fs.toList 0=true/\P.stoodInHeld t=false/\fs.size=n):=by
 unfold Ji at h;split at h
 .grind
 .grind
 grind
theorem qc8{op y z ox oy u v}(o:VRel G w.heap x u)(p:VRel G w.heap y v)(h:uw P op t x y=some z) :
    ∃ r,(do eqGuard op t ox oy u v;binOp op t u v:Sem qg).run P w = .ok r w/\VRel G w.heap z r:=by
  unfold uw at h;split at h
  · rename_i J U
    split at h
    · rename_i n C
      obtain⟨hg,C⟩:=qc7 C;split at h
      · rename_i hl
        have g:=o;have i:=p;cases o with
        |agg _ j hn hv =>
        cases p with
        |agg _ I hm hw =>
        have R:(eqGuard op t ox oy (.agg j) (.agg I)).run P w = .ok () w:=run_eqGuard_agg w op t ox oy j I hg;simp only[qE,R,qH];have heq:∀ b,aEqs J U=some b->(Op.equal t (.agg j) (.agg I)).run P w = .ok b w:=fun b l=>by
          rcases C with ⟨e,q,T,he,hs⟩|⟨fs,T,hf,hp,a0⟩
          · exact Ks (G:=G) 9998 T he hs hl g i l
          · exact qcH (G:=G) 9998 T hf hp zOm g i l
        cases op<;>simp only at h<;>first
          | (simp at h;done)
          | (cases l:aEqs J U with
             |none=>simp[l]at h
             |some b =>
               simp only[l,qZ,qo]at h;subst h;refine⟨_,?_,.sc _ rfl⟩;simp_all[binOp])
      grind
    grind
  · exact qbV o p h
def vQ:zA->Bool
 | .const (.slice none 0 0)=>true
 |_=>false
def jc(P:qb)(det:Bool)(op:BinOp)(t:qd)(x:AV)(K:AV->Prop):Prop:=
 (qA P t).isSome=true/\(op = .eql\/op = .neq) /\
 match x with
 | .lst _ []=>det=false/\K (.sc (.bool true))/\K (.sc (.bool false))
 | .lst _ (_ :: _) | .sl .. => K (.sc (.bool (decide (op = .neq))))
 |_=>False
theorem qc9(d){t e}(g:P.underlying t=some (.slice e))(b len cap) :
  (Op.equalIn (d+1) t (.slice b len cap) (.slice none 0 0)).run P w = .ok b.isNone w:=by
 cases b<;>simp[Op.equalIn,run_underlying g]
theorem jc.sound{det op ox oy u}(o:VRel G w.heap x u)(h:jc P det op t x K) :
  ∃ z r,K z/\(do eqGuard op t ox oy u (.slice none 0 0);binOp op t u (.slice none 0 0):Sem qg).run P w = .ok r w/\VRel G w.heap z r:=by
 obtain⟨hs,C,h⟩:=h;obtain⟨e,I⟩:∃ e,P.underlying t=some (.slice e):=by
  grind [qA,j5]
 have key:∀(b:Option Addr)(len cap:Nat),u = .slice b len cap->(do eqGuard op t ox oy u (.slice none 0 0);binOp op t u (.slice none 0 0):Sem qg).run P w = .ok (.bool (if op = .neq then b.isSome else b.isNone)) w:=by
  intro b len cap i;subst i;have R:(eqGuard op t ox oy (.slice b len cap) (.slice none 0 0)).run P w = .ok () w:=by
   simp_all[eqGuard]
  have T:(Op.equal t (.slice b len cap) (.slice none 0 0)).run P w = .ok b.isNone w:=qc9 9999 I b len cap;rcases C with rfl|rfl
  .simp [R,binOp,T]
  simp_all[binOp]
 have fin:∀(b:Bool),K (.sc (.bool b))->∀(c:Option Addr)(len cap:Nat),u = .slice c len cap->(if op = .neq then c.isSome else c.isNone)=b ->
   ∃ z r,K z/\(do eqGuard op t ox oy u (.slice none 0 0);binOp op t u (.slice none 0 0):Sem qg).run P w = .ok r w/\VRel G w.heap z r:=
  fun b U c len cap i e2=>⟨_,_,U,key c len cap i,by rw[e2];exact .sc _ rfl⟩
 cases o with
 |nil full =>
  obtain⟨_,j,l⟩:=h;by_cases g:op = .neq
  .grind
  grind
 |emp full a cap hc =>
  obtain⟨_,j,l⟩:=h;by_cases g:op = .neq
  .grind
  grind
 |lst full J p a cap cs e' fr rd hb a0 hl hc hi hz hr hv =>
  cases J with
  |nil =>
   obtain⟨_,j,l⟩:=h;by_cases g:op = .neq
   .grind
   grind
  |cons y ys =>
   refine fin _ h (some a) _ cap rfl ?_;by_cases g:op = .neq
   .simp
   simp
 |sl b p off len a1 a2 cap hb ht hl =>
  refine fin _ h (some _) _ cap rfl ?_;by_cases g:op = .neq
  .simp
  simp
 |_=>exact h.elim
theorem jc.det{op}(h:jc P true op t x K):∃ z,K z/\∀ g,g z->jc P true op t x g:=by
 obtain⟨j,i,h⟩:=h;unfold jc;split at h
 .grind
 .grind
 .grind
 grind
theorem jc.mono{det op i}(h:jc P det op t x K)(j:∀ z,K z->i z):jc P det op t x i:=by
 obtain⟨l,g,h⟩:=h;unfold jc;refine⟨l,g,?_⟩;split at h
 .grind
 .exact j _ h
 .exact j _ h
 omega
theorem qdA{y}(h:vQ y=true):y = .const (.slice none 0 0):=by
 grind [vQ,absurd]
def WK(x y:AV):Prop:=∀(G:Gh)(h:Array Obj)(v:qg),VRel G h x v->VRel ⟨G.imm,[]⟩ h y v
theorem WK.hf(h:HF x):WK x x:=h
theorem s5{full v}(r:VRel G h (.lst full xs) v):VRel G h (.lst false xs) v:=by
 cases r with
 |nil=>exact .nil _
 |emp _ a cap g=>exact .emp _ a cap zSp
 |lst _ _ p a cap i e j rd l o t g C I J P=>exact .lst _ _ p a cap i e j rd l o t zSp C I J P
theorem WK.lst{full}(h:∀ r,r∈xs->∀ c,c∈r->HF c):WK (.lst full xs) (.lst false xs):=fun G g v r=>s5 (HF.lst h G g v r)
theorem WK.agg{xs ys}(p:ys.length=xs.length)(h:∀(k:Nat) x y,xs[k]?=some x->ys[k]?=some y->WK x y):WK (.agg xs) (.agg ys):=fun G l v r=>by
 cases r with
 |agg _ j t o =>
  refine .agg _ _ zOm (fun k y g=>?_);have C:k<ys.length:=(qi.1 g).1;have i:xs[k]?=some (xs[k]' zOm):=by grind
  exact h k _ y i g G l _ (o k _ i)
def WKs:List AV->List AV->Prop
 | [],[]=>True
 |x :: J,y :: r=>WK x y/\WKs J r
 |_,_=>False
theorem WKs.get:∀{xs ys},WKs xs ys->ys.length=xs.length/\∀(k:Nat) x y,xs[k]?=some x->ys[k]?=some y->WK x y
 | [],[],_=>⟨rfl,zSp⟩
 |x :: xs,y :: ys,⟨h,t⟩=>by
  obtain⟨j,l⟩:=WKs.get t;refine⟨zP1 j,fun k a b g i=>?_⟩;cases k with
  |zero=>simp at g i;subst g;subst i;exact h
  |succ k=>exact l k a b (zUs g) (zUs i)
 | [],_ :: _,h=>h.elim
 |_ :: _,[],h=>h.elim
theorem WK.aggs{xs ys}(h:WKs xs ys):WK (.agg xs) (.agg ys) := .agg h.get.1 h.get.2
def Rds(mu:Mu):List AV->List AV->Prop
 | [],[]=>True
 |x :: J,y :: r=>Rd mu x y/\Rds mu J r
 |_,_=>False
theorem Rds.get:∀{xs ys},Rds mu xs ys->ys.length=xs.length/\∀(k:Nat) x y,xs[k]?=some x->ys[k]?=some y->Rd mu x y
 | [],[],_=>⟨rfl,zSp⟩
 |x :: xs,y :: ys,⟨h,t⟩=>by
  obtain⟨j,l⟩:=Rds.get t;refine⟨zP1 j,fun k a b g i=>?_⟩;cases k with
  |zero=>simp at g i;subst g;subst i;exact h
  |succ k=>exact l k a b (zUs g) (zUs i)
 | [],_ :: _,h=>h.elim
 |_ :: _,[],h=>h.elim
def MuLe(mu l:Mu):Prop:=∀(b:Nat) c,mu[b]?=some c->l[b]?=some c
theorem MuLe.push(mu c):MuLe mu (mu++[c]):=fun b x h=>by grind
def ZW(P:qb)(mu:Mu)(f:AV)(args:List AV)(v:AV):Prop:=
 (∃ g first j i,f = .fn (.func g) first j/\qh P g i v/\(WKs (first++args++j) i\/(Rds mu (first++args++j) i/\FL v))) \/
 ∃ g first j i,f = .fn (.func g) first j/\qcC P g i v/\Rds mu (first++args++j) i
def u6(P:qb)(i:Nat)(args:List AV)(mu:Mu)(R:Bool->Mu->Prop):Prop:=
 ∀(G:Gh)(w:qf)(j:Array qg),Sim G mu w.heap->zw G w.heap args j->∀(l r:Nat),G.blk[i]?=some (l,r) ->
  ∃ fn g assign o,(Instr.yield l j).run P w = .ok (.round l fn g assign o) w /\
   RoundIn Fence.wide 0 P l fn g assign o w fun e t=>∃ b C p,e = .returned (.bool b)/\Stp G mu w C p t/\R b p
def qe(P:qb)(det:Bool)(mu:Mu)(f:AV)(args:List AV)(K o:AV->Mu->Prop):Prop:=
 (∃ v,ZW P mu f args v/\K v mu) \/
 (det=false/\((∃ g first j R,f = .fn (.func g) first j/\qU P g (first++args++j) mu R/\(∀ r l,R (.ret r) l->K r l)/\(∀ r l,R (.pan r) l->o r l)) \/
  ∃ i R,f = .yl i/\u6 P i args mu R/\∀ b l,R b l->K (.sc (.bool b)) l))
def OptK{C:Type}(o:Option C)(k:C->Prop):Prop:=∃ v,o=some v/\k v
@[go_sem] def lenA(P:qb)(mu:Mu)(t:qd):AV->Option AV
 | .lst _ J=>if (qA P t).isSome then some (.sc (.int .i64 J.length)) else none
 | .sl _ _ _ len=>if (qA P t).isSome then some (.sc (.int .i64 len)) else none
 | .sc (.string s)=>match P.underlying t with|some .string=>some (.sc (.int .i64 s.size))|_=>none
 | .im T=>match P.underlying t with|some (.map _ _)=>some (.sc (.int .i64 T.length))|_=>none
 | .ims T=>match P.underlying t with|some (.map _ _)=>some (.sc (.int .i64 T.length))|_=>none
 | .mp b=>match P.underlying t,mu[b]? with|some (.map _ _),some (.mp T)=>some (.sc (.int .i64 T.length))|_,_=>none
 |_=>none
@[go_sem] def minA:AV->AV->Option AV
 | .sc (.int k x),.sc (.int _ y)=>some (.sc (.int k (if y<x then y else x)))
 |_,_=>none
@[go_sem] def maxA:AV->AV->Option AV
 | .sc (.int k x),.sc (.int _ y)=>some (.sc (.int k (if y > x then y else x)))
 |_,_=>none
@[go_sem] def vy(P:qb)(mu:Mu)(b:Builtin)(g:Array qd)(args:List AV):Option AV:=
 match b,args,g[0]? with
 | .len,[x],some t=>lenA P mu t x
 | .cap,[.lst true J],some t=>if (qA P t).isSome then some (.sc (.int .i64 J.length)) else none
 | .min,[x,y],_=>minA x y
 | .max,[x,y],_=>maxA x y
 |_,_,_=>none
theorem Ut(h:(qA P t).isSome=true):∃ e,P.underlying t=some (.slice e):=by
 grind [qA,j5]
theorem zw.one_inv(r:zw G h [x] vs):∃ v,vs=#[v]/\VRel G h x v:=by
 obtain⟨i,j⟩:=r;have:=j 0 x rfl;refine⟨vs.getD 0 j2,?_,this⟩;have g:vs.size=1:=zUs i;apply Array.ext
 .simpa using g
 simp_all
theorem zw.two_inv{y}(r:zw G h [x,y] vs):∃ u v,vs=#[u,v]/\VRel G h x u/\VRel G h y v:=by
 obtain⟨l,j⟩:=r;have a:=j 0 x rfl;have b:=j 1 y rfl;refine⟨vs.getD 0 j2,vs.getD 1 j2,?_,a,b⟩;have g:vs.size=2:=zUs l;apply Array.ext
 .simpa using g
 .intro i o p
  have:i=0\/i=1:=zOm;rcases this with rfl|rfl<;>simp[qK,o]
theorem qdB(s:Sim G mu w.heap){t ty x z v}(r:VRel G w.heap x v)(h:lenA P mu t x=some z)(j)(o:j[0]?=some t) :
  ∃ u,(Builtin.len_ j ty #[v]).run P w = .ok u w/\VRel G w.heap z u:=by
 unfold lenA at h;split at h
 .split at h
  .rename_i p
   simp only[qo]at h;subst h;obtain⟨e,i⟩:=Ut p;obtain⟨a,cap,rfl,_⟩:=r.lst_inv;exact⟨_,by simp[Builtin.len_,o,run_underlying i,goInt],.sc _ rfl⟩
  grind
 .split at h
  .rename_i p
   simp only[qo]at h;subst h;obtain⟨e,i⟩:=Ut p;cases r;exact⟨_,by simp[Builtin.len_,o,run_underlying i,goInt],.sc _ rfl⟩
  grind
 .split at h
  .rename_i i
   simp only[qo]at h;subst h;cases r;exact⟨_,by simp[Builtin.len_,o,run_underlying i,goInt],.sc _ rfl⟩
  grind
 .split at h
  .rename_i i
   simp only[qo]at h;subst h;cases r with
   |im _ g ce clock l R J U hv hd =>
   have C:(getObj g).run P w = .ok (.map ce clock) w:=by simp[getObj,Sem.run,l]
   exact⟨_,by simp_all[Builtin.len_,run_underlying,goInt],.sc _ rfl⟩
  grind
 .split at h
  .rename_i i
   simp only[qo]at h;subst h;cases r with
   |ims _ a0 σ τ _ hp hd r =>
   cases r with
   |im _ g ce clock l R J U hv a1 =>
   have C:(getObj g).run P w = .ok (.map ce clock) w:=by simp[getObj,Sem.run,l]
   exact⟨_,by simp[Builtin.len_,o,run_underlying i,goInt,C,J,hp.1],.sc _ rfl⟩
  grind
 .split at h
  .rename_i T i hm
   simp only[qo]at h;subst h;cases r with
   |mp _ g I l =>
   obtain⟨ce,cl,h1,h2,_⟩:=s.mp _ T g I hm l;have C:(getObj g).run P w = .ok (.map ce cl) w:=by simp[getObj,Sem.run,h1]
   exact⟨_,by simp_all[Builtin.len_,run_underlying,goInt],.sc _ rfl⟩
  grind
 grind
theorem qdC(s:Sim G mu w.heap){b g ty cs args vs z}(r:zw G w.heap args vs)
  (h:vy P mu b g args=some z):∃ u,(builtin b g ty cs vs).run P w = .ok (.value u) w/\VRel G w.heap z u:=by
 unfold vy at h;split at h
 .rename_i j
  obtain⟨v,rfl,i⟩:=r.one_inv;obtain⟨u,C,I⟩:=qdB s i h g j (ty:=ty);simp_all[builtin]
 .rename_i j
  obtain⟨v,rfl,i⟩:=r.one_inv;split at h
  .rename_i o
   simp only[qo]at h;subst h;obtain⟨e,p⟩:=Ut o;obtain⟨a,cap,rfl,_,t,_⟩:=i.lst_inv;have:=t rfl;subst this;exact⟨_,by simp[builtin,Builtin.cap_,j,run_underlying p,goInt],.sc _ rfl⟩
  grind
 .obtain ⟨u,v,rfl,l,i⟩:=r.two_inv
  unfold minA at h;split at h
  .simp only[qo]at h;subst h
   cases l;cases i;exact⟨_,by simp[builtin,Builtin.min_,Builtin.min2],.sc _ rfl⟩
  grind
 .obtain ⟨u,v,rfl,l,i⟩:=r.two_inv
  unfold maxA at h;split at h
  .simp only[qo]at h;subst h
   cases l;cases i;exact⟨_,by simp[builtin,Builtin.max_,Builtin.max2],.sc _ rfl⟩
  grind
 grind
end
end Go.Ev
