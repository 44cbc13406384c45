/-
  Own library, part 1: an abstract reading of values and a calculus over it; contracts of functions; plain lemmas.
-/
import GoSem.Claim
import Derived.WalkKit
import Derived.Laws.AppendOwn
import Derived.Laws.CopyRow
import Derived.Below
import Derived.RangeFuncRecord
import Derived.Laws.BytesString
import Derived.IntWalk
import Derived.Lib.AppendZerosOnto
set_option linter.unusedVariables false
set_option linter.unusedSimpArgs false
set_option maxRecDepth 100000
open Go renaming Value->j3,World->j2,TypeId->j1,MapEntry->vz,undef->va,Program->qf,Operand->uk,FuncId->us
open List renaming getElem?_eq_some_iff->qe,mem_map->qk,range->qo,mem_cons->qu,getElem?_eq_getElem->qv,getElem?_append_left->qI,all_eq_true->qJ,getElem?_append_right->qT,length_append->qU,mem_of_getElem?->qZ,getD_eq_getElem?_getD->q8,append_assoc->zc,map_append->zd,getElem?_map->zm,replicate->zp,length_cons->zq,length_map->zJ,take_of_length_le->zK,getElem?_eq_none->yC,cons_append->yD,getElem?_set_ne->yP,getElem?_take->y6,getElem?_drop->y7,ext_getElem?->jx,getElem?_cons_succ->vb,mem_of_mem_take->vd,eq_nil_of_length_eq_zero->vE,getElem?_toArray->vG,length_take->vH,flatten_cons->un,take_append_drop->uZ,getElem?_cons_zero->YK,getElem?_range->YO,mem_flatten->VT,getElem?_set->VU
open Option.some renaming injEq->qj
open Nat renaming le_refl->qn,le_trans->zV,zero_add->yc
open Bool renaming and_eq_true->qq
open Go.IntKind renaming i64->qs
open Array renaming getD_eq_getD_getElem?->qB,getElem?_eq_some_iff->zM,getElem?_toList->vC,getElem?_eq_getElem->u4
open Go.Sem renaming run_bind->qE,run_pure->zh
open Go.Result renaming andThen_ok->qG
open Option renaming map_some->qS,map_eq_some_iff->yQ
open Go.Builtin renaming zeroCells->yb
open Prod.mk renaming injEq->vf
namespace Go
section
variable {a b p:Prop}
theorem zOm(h:p:=by omega):p:=h
theorem zSi(h:p:=by simp[go_sem]):p:=h
theorem zS1(x:a)(h:a->p:=by intro x;simp[go_sem,x]):p:=h x
theorem zS2(x:a)(y:b)(h:a->b->p:=by intro x y;simp[go_sem,x,y]):p:=h x y
theorem zS3{c:Prop}(x:a)(y:b)(z:c)(h:a->b->c->p:=by intro x y z;simp[go_sem,x,y,z]):p:=h x y z
theorem zKr(h:p:=by kernel_rfl):p:=h
theorem zSp(h:p:=by simp):p:=h
theorem zP1(x:a)(h:a->p:=by intro x;simp[x]):p:=h x
theorem zSo(h:p:=by simp;omega):p:=h
theorem zUs(x:a)(h:a->p:=by intro x;simpa using x):p:=h x
theorem zVs(x:a)(h:a->p:=by intro x;simpa[go_sem] using x):p:=h x
theorem zW1(x:a)(h:a->p:=by intro x;omega):p:=h x
theorem zW2(x:a)(y:b)(h:a->b->p:=by intro x y;omega):p:=h x y
theorem zDe(h:p:=by decide):p:=h
theorem zIn{c:Prop} [Decidable c] {C:Sort _} {a b:C} (h:¬c:=by omega):(if c then a else b)=b:=if_neg h
theorem zGl{C:Type _}{l:List C}{i j:Nat}{a:C}(h:i≠j:=by omega):(l.set i a)[j]?=l[j]?:=yP h
theorem zGa{C:Type _}{l m:List C}{i:Nat}(h:i<l.length:=by omega):(l++m)[i]?=l[i]?:=qI h
end
end Go
namespace Go.Ev
open Go
def tabs:List (Nat×List j3):=[(0,[.int .u64 1,.int .u64 10,.int .u64 100,.int .u64 1000,.int .u64 10000,.int .u64 100000,.int .u64 1000000,.int .u64 10000000,.int .u64 100000000,.int .u64 1000000000,.int .u64 10000000000,.int .u64 100000000000,.int .u64 1000000000000,.int .u64 10000000000000,.int .u64 100000000000000,.int .u64 1000000000000000,.int .u64 10000000000000000,.int .u64 100000000000000000,.int .u64 1000000000000000000,.int .u64 10000000000000000000])]
end Go.Ev
namespace Go.Ev
open Go
section
variable {C:Type}{h h':Array Obj}{w:j2}
inductive AV where
 |any
 |sc (v:j3)
 |lst (full:Bool) (xs:List (List AV))
 |sl (b sz off len:Nat)
 |agg (cs:List AV)
 |tup (vs:List AV)
 |ip (cs:List AV)
 |ptr (b off:Nat)
 |mp (b:Nat)
 |im (es:List (AV×AV))
 |ims (es:List (AV×AV))
 |fn (f:Fn) (first caps:List AV)
 |ifc (t:j1) (v:AV)
 |yl (b:Nat)
 deriving Inhabited
def XJ:j3->Bool
 | .bool _ | .int _ _ | .float _ _ | .complex _ _ _ | .string _ | .pointer none | .map none | .chan none | .nilFunc | .nilIface=>true
 | .tuple ⟨[]⟩=>true
 |_=>false
def ofC:j3->AV
 | .slice none 0 0 => .lst true []
 | .func f ⟨[]⟩ ⟨[]⟩ => .fn f [] []
 |v=>if XJ v then .sc v else .any
def ofV:j3->AV
 | .agg g => .agg (g.toList.map ofC)
 |v=>ofC v
def AV.cells:AV->List AV
 | .agg g=>g
 |v=>[v]
def AV.one:AV->Bool
 | .any | .agg _ | .tup _=>false
 | .sc v=>v.oneCell'
 |_=>true
structure Gh where
 imm:Nat->Prop
 blk:List (Nat×Nat)
variable {G G':Gh}
structure Gh.le (G G':Gh):Prop where
 imm:∀ b,G.imm b->G'.imm b
 blk:∀(i:Nat) (x:Nat×Nat),G.blk[i]?=some x->G'.blk[i]?=some x
theorem Gh.le.refl(G:Gh):G.le G:=⟨fun _ h=>h,fun _ _ h=>h⟩
theorem Gh.le.trans{A B C:Gh}(h:A.le B)(k:B.le C):A.le C:=⟨fun b x=>k.imm b (h.imm b x),fun i x y=>k.blk i x (h.blk i x y)⟩
structure Ext (G:Gh) (h h':Array Obj):Prop where
 size:h.size<=h'.size
 keep:∀ b,G.imm b->h'[b]?=h[b]?
theorem Ext.refl(G:Gh)(h:Array Obj):Ext G h h:=⟨qn _,fun _ _=>rfl⟩
def PIx(i j:Nat->Nat)(es g:List C):Prop:=g.length=es.length/\∀ k,k<es.length->i k<es.length/\j k<es.length/\j (i k)=k/\i (j k)=k/\g[i k]?=es[k]?
theorem PIx.refl(es:List C):PIx id id es es:=⟨rfl,fun k h=>⟨h,h,rfl,rfl,rfl⟩⟩
theorem PIx.back{l i:Nat->Nat}{es g:List C}(p:PIx l i es g){j:Nat}(h:j<es.length):g[j]?=es[i j]?:=by
 obtain⟨r,o,t,I,J⟩:=p.2 j h;have:=(p.2 (i j) o).2.2.2.2
 grind
def jh(ce:Array vz)(clock:Nat):Prop:=(∀(k:Nat) (e:vz),ce[k]?=some e->e.born<clock)/\∀(j k:Nat) (e f:vz),ce[j]?=some e->ce[k]?=some f->e.born=f.born->j=k
theorem jh.of{ce:Array vz}{clock:Nat}(p:clock=ce.size)(g:∀(k:Nat) (e:vz),ce[k]?=some e->e.born=k):jh ce clock:=
 ⟨fun k e h=>by grind,fun j k e f i l o=>by rw[<-g j e i,<-g k f l,o]⟩
inductive VRel (G:Gh) (h:Array Obj):AV->j3->Prop
 |any (v:j3):VRel G h .any v
 |sc (v:j3) (hv:XJ v=true):VRel G h (.sc v) v
 |nil (full:Bool):VRel G h (.lst full []) (.slice none 0 0)
 |emp (full:Bool) (a:Addr) (cap:Nat) (hc:full=true->cap=0):VRel G h (.lst full []) (.slice (some a) 0 cap)
 |lst (full:Bool) (xs:List (List AV)) (sz:Nat) (a:Addr) (cap:Nat) (cs:Array j3) (e:j1) (fr:Nat×Nat) (rd:Nat->j3)
   (hb:h[a.block]?=some (.cells cs e fr)) (hs:a.spot=none) (hl:xs.length<=cap) (hc:full=true->cap=xs.length) (hi:G.imm a.block)
   (hz:∀ r,r∈xs->r.length=sz)
   (hr:∀(k:Nat) x,xs.flatten[k]?=some x->cs[a.off+k]?=some (rd k))
   (hv:∀(k:Nat) x,xs.flatten[k]?=some x->VRel G h x (rd k)):VRel G h (.lst full xs) (.slice (some a) xs.length cap)
 |sl (b sz off len blk tot cap:Nat) (hb:G.blk[b]?=some (blk,tot)) (ht:off+cap*sz<=tot) (hl:len<=cap) :
   VRel G h (.sl b sz off len) (.slice (some ⟨blk,off,none⟩) len cap)
 |agg (cs:List AV) (vs:Array j3) (hn:vs.size=cs.length) (hv:∀(k:Nat) x,cs[k]?=some x->VRel G h x (vs.getD k va)):VRel G h (.agg cs) (.agg vs)
 |tup (cs:List AV) (vs:Array j3) (hn:vs.size=cs.length) (hv:∀(k:Nat) x,cs[k]?=some x->VRel G h x (vs.getD k va)):VRel G h (.tup cs) (.tuple vs)
 |ip (cs:List AV) (a:Addr) (arr:Array j3) (e:j1) (fr:Nat×Nat) (rd:Nat->j3)
   (hb:h[a.block]?=some (.cells arr e fr)) (hs:a.spot=none) (hi:G.imm a.block)
   (hr:∀(k:Nat) x,cs[k]?=some x->arr[a.off+k]?=some (rd k))
   (hv:∀(k:Nat) x,cs[k]?=some x->VRel G h x (rd k)):VRel G h (.ip cs) (.pointer (some a))
 |ptr (b off blk tot:Nat) (hb:G.blk[b]?=some (blk,tot)):VRel G h (.ptr b off) (.pointer (some ⟨blk,off,none⟩))
 |mp (b blk tot:Nat) (hb:G.blk[b]?=some (blk,tot)):VRel G h (.mp b) (.map (some blk))
 |im (es:List (AV×AV)) (blk:Nat) (ce:Array vz) (clock:Nat) (hb:h[blk]?=some (.map ce clock)) (hi:G.imm blk) (hn:ce.size=es.length)
   (hk:∀(k:Nat) x,es[k]?=some x->VRel G h x.1 (ce.getD k default).key) (hv:∀(k:Nat) x,es[k]?=some x->VRel G h x.2 (ce.getD k default).val)
   (hd:jh ce clock):VRel G h (.im es) (.map (some blk))
 |ims (es es':List (AV×AV)) (σ τ:Nat->Nat) (v:j3) (hp:PIx σ τ es es') (hd:(es.map Prod.fst).Nodup) (r:VRel G h (.im es') v):VRel G h (.ims es) v
 |fn (f:Fn) (first caps:List AV) (vs ws:Array j3) (hn:vs.size=first.length) (hm:ws.size=caps.length)
   (hv:∀(k:Nat) x,first[k]?=some x->VRel G h x (vs.getD k va)) (hw:∀(k:Nat) x,caps[k]?=some x->VRel G h x (ws.getD k va)):VRel G h (.fn f first caps) (.func f vs ws)
 |ifc (t:j1) (x:AV) (v:j3) (hv:VRel G h x v):VRel G h (.ifc t x) (.iface t v)
 |yl (b blk tot:Nat) (hb:G.blk[b]?=some (blk,tot)):VRel G h (.yl b) (.func (.yield blk) #[] #[])
theorem VRel.mono(J:G.le G')(he:Ext G h h'){x:AV}{v:j3}(r:VRel G h x v):VRel G' h' x v:=by
 induction r with
 |any v=>exact .any v
 |sc v C=>exact .sc v C
 |nil full=>exact .nil full
 |emp full a cap hc=>exact .emp full a cap hc
 |lst full g p a cap P e fr rd l hs hl hc I hz hr C o=>exact .lst full g p a cap P e fr rd (by rw[he.keep _ I];exact l) hs hl hc (J.imm _ I) hz hr o
 |sl b p off len i j cap l ht hl=>exact .sl b p off len i j cap (J.blk _ _ l) ht hl
 |agg P vs R C o=>exact .agg P vs R o
 |tup P vs R C o=>exact .tup P vs R o
 |ip P a arr e fr rd l hs I hr C o=>exact .ip P a arr e fr rd (by rw[he.keep _ I];exact l) hs (J.imm _ I) hr o
 |ptr b off i j l=>exact .ptr b off i j (J.blk _ _ l)
 |mp b i j l=>exact .mp b i j (J.blk _ _ l)
 |im T i ce clock l I R hk C hd a1 U=>exact .im T i ce clock (by rw[he.keep _ I];exact l) (J.imm _ I) R a1 U hd
 |ims T a2 σ τ v hp hd r o=>exact .ims T a2 σ τ v hp hd o
 |fn f first a0 vs ws R hm C hw U a3=>exact .fn f first a0 vs ws R hm U a3
 |ifc t x v C o=>exact .ifc t x v o
 |yl b i j l=>exact .yl b i j (J.blk _ _ l)
theorem VRel.le(g:G.le G'){x:AV}{v:j3}(r:VRel G h x v):VRel G' h x v:=r.mono g (.refl _ _)
theorem VRel.ofC(v:j3):VRel G h (ofC v) v:=by
 unfold Ev.ofC;split
 .exact .nil true
 .exact .fn _ [] [] _ _ rfl rfl zSp zSp
 .split
  .rename_i g;exact .sc v g
  .exact .any v
theorem VRel.ofV(v:j3):VRel G h (ofV v) v:=by
 unfold Ev.ofV;split
 .rename_i i
  refine .agg _ _ zSp ?_;intro k x g;simp only[zm,yQ,vC]at g;obtain⟨v,j,rfl⟩:=g;have:i.getD k va=v:=by simp[qB,j]
  rw[this];exact .ofC v
 .exact .ofC v
theorem VRel.one{x:AV}{v:j3}(r:VRel G h x v)(g:x.one=true):v.oneCell'=true:=by
 cases r with
 |ims _ _ _ _ _ _ _ r=>cases r;rfl
 |_=>simp_all[AV.one,Value.oneCell']
theorem mV{v:j3}(h:v.oneCell'=true):v.cells=#[v]:=by
 cases v<;>simp_all[Value.cells,Value.oneCell']
theorem VRel.cells{x:AV}{v:j3}(r:VRel G h x v)(o:∀ c,c∈x.cells->c.one=true) :
  v.cells.size=x.cells.length/\(∀(k:Nat) c,x.cells[k]?=some c->VRel G h c (v.cells.getD k va))/\(∀ u,u∈v.cells.toList->u.oneCell'=true):=by
 by_cases C:∃ j,x = .agg j
 .obtain ⟨j,rfl⟩:=C
  cases r with
  |agg _ I J p =>
   refine⟨by simpa[Value.cells,AV.cells] using J,by simpa[Value.cells,AV.cells] using p,?_⟩;intro u t;simp only[Value.cells]at t;obtain⟨k,g⟩:=List.mem_iff_getElem?.1 t;rw[vC]at g;have l:k<j.length:=by
    grind
   have i:=p k j[k] (zP1 l);have:I.getD k va=u:=by simp[qB,g]
   rw[this]at i;exact i.one (o _ (by simp[AV.cells]))
 .have e:x.cells=[x]:=by cases x<;>simp_all[AV.cells]
  have i:=r.one (o x (zP1 e));rw[mV i,e];refine⟨rfl,?_,zP1 i⟩;intro k c g;cases k with
  |zero=>simp at g;subst g;simpa using r
  |succ k=>simp at g
inductive Cell where
 |arr (cells:List AV)
 |mp (es:List (AV×AV))
 |md (es:List (AV×AV))
 |it (es:List (AV×AV)) (seen:List Nat)
 |lp (r:Loop) (tm:Nat->AV)
 |dead
 deriving Inhabited
abbrev Mu:=List Cell
variable {mu:Mu}
def Live(G:Gh)(mu:Mu)(b:Nat):Prop:=∃(i:Nat) (c:Cell) (g:Nat),mu[i]?=some c/\c ≠ .dead/\G.blk[i]?=some (b,g)
def jS(G:Gh)(h:Array Obj)(l:Nat)(o:Obj):Cell->Prop
 | .arr cells=>∃ t e,o = .cells t e (0,0)/\t.size=l/\cells.length<=l/\∀(j:Nat) x,cells[j]?=some x->x.one=true/\VRel G h x (t.getD j va)
 | .mp T=>∃ ce clock,o = .map ce clock/\ce.size=T.length/\(∀(k:Nat) x,T[k]?=some x->VRel G h x.1 (ce.getD k default).key)/\(∀(k:Nat) x,T[k]?=some x->VRel G h x.2 (ce.getD k default).val) /\
   clock=ce.size/\(∀(k:Nat) (e:vz),ce[k]?=some e->e.born=k)
 | .md T=>∃ ce clock,o = .map ce clock/\ce.size=T.length/\(∀(k:Nat) x,T[k]?=some x->VRel G h x.1 (ce.getD k default).key)/\(∀(k:Nat) x,T[k]?=some x->VRel G h x.2 (ce.getD k default).val)/\jh ce clock
 | .it T seen=>(∃ m p C I ce g,VRel G h (.im p) (.map (some m))/\h[m]?=some (.map ce g)/\G.imm m/\PIx C I T p/\(∀ i,i∈seen->i<T.length)/\o = .mapIter (some m) g (seen.map fun i=>(ce.getD (C i) default).born).toArray g)\/(T=[]/\o = .mapIter none 0 #[] 0)
 | .lp r J=>o = .loop r/\∀ i,VRel G h (J i) (r.tmps.getD i va)
 | .dead=>True
theorem jS.mono(l:G.le G')(p:Ext G h h'){P:Nat}{o:Obj}{c:Cell}(r:jS G h P o c):jS G' h' P o c:=by
  cases c with
  |arr cells=>obtain⟨cs,e,I,J,t,C⟩:=r;exact⟨cs,e,I,J,t,fun j x g=>⟨(C j x g).1,(C j x g).2.mono l p⟩⟩
  |mp T=>obtain⟨ce,R,I,J,t,C,U⟩:=r;exact⟨ce,R,I,J,fun k x g=>(t k x g).mono l p,fun k x g=>(C k x g).mono l p,U⟩
  |md T=>obtain⟨ce,R,I,J,t,C,U⟩:=r;exact⟨ce,R,I,J,fun k x g=>(t k x g).mono l p,fun k x g=>(C k x g).mono l p,U⟩
  | it T seen =>
                  rcases r with ⟨m,a0,σ,τ,ce,a1,I,J,t,C⟩|r
                  · exact .inl ⟨m,a0,σ,τ,ce,a1,I.mono l p,by rw[p.keep _ t];exact J,l.imm _ t,C⟩
                  · exact .inr r
  |lp r1 tm=>exact⟨r.1,fun i=>(r.2 i).mono l p⟩
  |dead=>trivial
theorem jS.le(i:G.le G'){g:Nat}{o:Obj}{c:Cell}(r:jS G h g o c):jS G' h g o c:=r.mono i (.refl _ _)
def wD(g:Nat->Prop)(h:Array Obj):Prop:=∀ x,x∈tabs->g x.1/\∃ e i,h[x.1]?=some (.cells x.2.toArray e i)
theorem wD.mono{i g:Nat->Prop}{j:Array Obj}(t:wD i h)(o:∀ b,i b->g b)(p:∀ b,i b->j[b]?=h[b]?):wD g j:=fun x l=>by
 obtain⟨r,e,C,I⟩:=t x l
 grind
structure Sim (G:Gh) (mu:Mu) (h:Array Obj):Prop where
 len:G.blk.length=mu.length
 imm:∀ b,G.imm b->b<h.size
 obj:∀(i:Nat) (c:Cell) blk tot,mu[i]?=some c->c ≠ .dead->G.blk[i]?=some (blk,tot)->∃ o,h[blk]?=some o/\jS G h tot o c
 live:∀(i:Nat) (c:Cell) blk tot,mu[i]?=some c->c ≠ .dead->G.blk[i]?=some (blk,tot)->¬G.imm blk
 inj:∀(i j:Nat) (ci cj:Cell) b ti tj,mu[i]?=some ci->mu[j]?=some cj->ci ≠ .dead->cj ≠ .dead->G.blk[i]?=some (b,ti)->G.blk[j]?=some (b,tj)->i=j
 tab:wD G.imm h
theorem Sim.bare(s:Sim G mu h):Sim ⟨G.imm,[]⟩ [] h:=
 ⟨rfl,s.imm,fun i c b t h=>by simp at h,fun i c b t h=>by simp at h,fun i j ci g b t l h=>by simp at h,s.tab⟩
theorem Sim.arr(s:Sim G mu h)(i:Nat)(cells:List AV)(l g:Nat)(p:mu[i]?=some (.arr cells))(r:G.blk[i]?=some (l,g)) :
  ∃ cs e,h[l]?=some (.cells cs e (0,0))/\cs.size=g/\cells.length<=g/\∀(j:Nat) x,cells[j]?=some x->x.one=true/\VRel G h x (cs.getD j va):=by
 obtain⟨o,t,cs,e,rfl,h⟩:=s.obj i _ l g p zSp r;exact⟨cs,e,t,h⟩
theorem Sim.mp(s:Sim G mu h)(i:Nat)(es:List (AV×AV))(g j:Nat)(l:mu[i]?=some (.mp es))(p:G.blk[i]?=some (g,j)) :
  ∃ ce clock,h[g]?=some (.map ce clock)/\ce.size=es.length/\(∀(k:Nat) x,es[k]?=some x->VRel G h x.1 (ce.getD k default).key)/\(∀(k:Nat) x,es[k]?=some x->VRel G h x.2 (ce.getD k default).val) /\
   clock=ce.size/\(∀(k:Nat) (e:vz),ce[k]?=some e->e.born=k):=by
 obtain⟨o,r,ce,t,rfl,h⟩:=s.obj i _ g j l zSp p;exact⟨ce,t,r,h⟩
theorem Sim.md(s:Sim G mu h)(i:Nat)(es:List (AV×AV))(g j:Nat)(l:mu[i]?=some (.md es))(p:G.blk[i]?=some (g,j)) :
  ∃ ce clock,h[g]?=some (.map ce clock)/\ce.size=es.length/\(∀(k:Nat) x,es[k]?=some x->VRel G h x.1 (ce.getD k default).key)/\(∀(k:Nat) x,es[k]?=some x->VRel G h x.2 (ce.getD k default).val)/\jh ce clock:=by
 obtain⟨o,r,ce,t,rfl,h⟩:=s.obj i _ g j l zSp p;exact⟨ce,t,r,h⟩
theorem Sim.livesize(s:Sim G mu h){b:Nat}(l:Live G mu b):b<h.size:=by
 obtain⟨i,c,g,j,p,r⟩:=l;obtain⟨o,t,_⟩:=s.obj i c b g j p r
 grind
theorem Sim.all(s:Sim G mu h):Sim ⟨fun b=>G.imm b\/Live G mu b,[]⟩ [] h:=
 ⟨rfl,fun b h=>h.elim (s.imm b) (fun l=>s.livesize l),fun i c b t h=>by simp at h,fun i c b t h=>by simp at h,fun i j ci g b t o h=>by simp at h,s.tab.mono (fun b h => .inl h) (fun b h=>rfl)⟩
structure Stp (G:Gh) (mu:Mu) (w:j2) (G':Gh) (mu':Mu) (w':j2):Prop where
 le:G.le G'
 sim:Sim G' mu' w'.heap
 keep:∀ b,b<w.heap.size->¬Live G mu b->w'.heap[b]?=w.heap[b]?
 size:w.heap.size<=w'.heap.size
 live:∀ b,Live G' mu' b->Live G mu b\/w.heap.size<=b
 inew:∀ b,G'.imm b->G.imm b\/Live G mu b\/w.heap.size<=b
 tape:w'.tape=w.tape
 os:w'.os=w.os
 output:w'.output=w.output
 drawn:w.drawn<=w'.drawn
theorem Stp.ext{l:Mu}{w':j2}(s:Sim G mu w.heap)(t:Stp G mu w G' l w'):Ext G w.heap w'.heap:=
 ⟨t.size,fun b j=>t.keep b (s.imm b j) (fun⟨i,c,g,o,p,r⟩=>s.live i c b g o p r j)⟩
theorem Stp.vrel{l:Mu}{w':j2}(s:Sim G mu w.heap)(t:Stp G mu w G' l w'){x:AV}{v:j3}(r:VRel G w.heap x v):VRel G' w'.heap x v:=
 r.mono t.le (t.ext s)
theorem Stp.refl(s:Sim G mu w.heap):Stp G mu w G mu w:=
 ⟨.refl G,s,fun _ _ _=>rfl,qn _,fun _ h => .inl h,fun _ h => .inl h,rfl,rfl,rfl,qn _⟩
theorem Stp.trans{A B C:Gh}{a b c:Mu}{u v:j2}(s:Sim A a u.heap)(h:Stp A a u B b v)(k:Stp B b v C c w):Stp A a u C c w:=by
 refine⟨h.le.trans k.le,k.sim,?_,zV h.size k.size,?_,?_,k.tape.trans h.tape,k.os.trans h.os,k.output.trans h.output,zV h.drawn k.drawn⟩
 .intro x i j
  rw[k.keep x (Nat.lt_of_lt_of_le i h.size) (fun l=>(h.live x l).elim j (fun g=>absurd i (Nat.not_lt.2 g))),h.keep x i j]
 .intro x i
  rcases k.live x i with l|l
  .exact h.live x l
  .exact .inr (zV h.size l)
 .intro x i
  rcases k.inew x i with l|l|l
  .exact h.inew x l
  .exact .inr (h.live x l)
  .exact .inr (.inr (zV h.size l))
theorem Stp.drew(s:Sim G mu w.heap):Stp G mu w G mu w.drew:=
 ⟨.refl G,s,fun _ _ _=>rfl,qn _,fun _ h => .inl h,fun _ h => .inl h,rfl,rfl,rfl,Nat.le_succ _⟩
end
end Go.Ev
namespace Go.Ev
open Go Go.RowKit
section
variable {G:Gh}{mu:Mu}{w:j2}
theorem zy{C:Type}{l:List C}{a x:C}{i:Nat}(h:(l++[a])[i]?=some x):(i<l.length/\l[i]?=some x)\/(i=l.length/\x=a):=by
 rcases Nat.lt_trichotomy i l.length with g|g|g
 .rw [qI g]at h;exact .inl ⟨g,h⟩
 .subst g;simp at h;exact .inr ⟨rfl,h.symm⟩
 .rw [yC zSo]at h;exact absurd h zSp
theorem wE(w:j2)(o:Obj)(b:Nat)(g:b<w.heap.size):(w.alloc o).heap[b]?=w.heap[b]?:=Below.heap_alloc w o b g
theorem YR(w:j2)(o:Obj):(w.alloc o).heap[w.heap.size]?=some o:=by
 show (w.heap.push o)[w.heap.size]?=some o;simp
theorem VV(s:Sim G mu w.heap)(o:Obj):Ext G w.heap (w.alloc o).heap:=
 ⟨zSp,fun b g=>wE w o b (s.imm b g)⟩
theorem Stp.allocImm(s:Sim G mu w.heap)(o:Obj) :
  Stp G mu w ⟨fun b=>G.imm b\/b=w.heap.size,G.blk⟩ mu (w.alloc o):=by
 have p:G.le ⟨fun b=>G.imm b\/b=w.heap.size,G.blk⟩:=⟨fun b h => .inl h,fun _ _ h=>h⟩;have J:=VV s o;have key:∀ b,Live G mu b->(w.alloc o).heap[b]?=w.heap[b]?:=fun b l=>wE w o b (s.livesize l)
 refine⟨p,⟨s.len,?_,?_,?_,s.inj,s.tab.mono p.imm J.keep⟩,fun b l _=>wE w o b l,zSp,fun b h => .inl h,fun b h=>h.elim .inl (fun e => .inr (.inr zOm)),rfl,rfl,rfl,qn _⟩
 .intro b l
  rcases l with l|l
  .have:=s.imm b l;simp;omega
  .simp;omega
 .intro i c j g r t C
  obtain⟨P,R,T⟩:=s.obj i c j g r t C;exact⟨P,by rw[key j ⟨i,_,g,r,t,C⟩];exact R,T.mono p J⟩
 .intro i c j g r t C I
  rcases I with I|I
  .exact s.live i c j g r t C I
  .have:=s.livesize ⟨i,c,g,r,t,C⟩;omega
theorem Stp.allocNew(s:Sim G mu w.heap)(o:Obj)(c:Cell)(t:Nat)
  (ha:c ≠ .dead->jS G w.heap t o c) :
  Stp G mu w ⟨G.imm,G.blk++[(w.heap.size,t)]⟩ (mu++[c]) (w.alloc o):=by
 have C:G.le ⟨G.imm,G.blk++[(w.heap.size,t)]⟩:=⟨fun b h=>h,fun i x h=>by
  have:i<G.blk.length:=(qe.1 h).1;show (G.blk++[_])[i]?=_;rw[qI this];exact h⟩
 have he:=VV s o;have key:∀ b,Live G mu b->(w.alloc o).heap[b]?=w.heap[b]?:=fun b P=>wE w o b (s.livesize P)
 have a7:=s.len;refine⟨C,⟨by simp[s.len],?_,?_,?_,?_,s.tab.mono C.imm he.keep⟩,fun b P _=>wE w o b P,zSp,?_,fun b h => .inl h,rfl,rfl,rfl,qn _⟩
 .intro b P
  have:=s.imm b P;simp;omega
 .intro i c' r g hc R I
  rcases zy hc with ⟨T,p⟩|⟨T,p⟩
  .have l:G.blk[i]?=some (r,g):=by
    rcases zy I with ⟨_,h⟩|⟨h,_⟩
    .exact h
    .omega
   obtain⟨o',h1,h2⟩:=s.obj i c' r g p R l;exact⟨o',by rw[key r ⟨i,_,g,p,R,l⟩];exact h1,h2.mono C he⟩
  .have l:(r,g)=(w.heap.size,t):=by
    rcases zy I with ⟨h,_⟩|⟨_,h⟩
    .omega
    .exact h
   obtain⟨rfl,rfl⟩:=Prod.mk.inj l;subst p;exact⟨o,YR w _,(ha R).mono C he⟩
 .intro i c' r g hc R I J
  rcases zy hc with ⟨T,p⟩|⟨T,p⟩
  .have l:G.blk[i]?=some (r,g):=by
    rcases zy I with ⟨_,h⟩|⟨h,_⟩
    .exact h
    .omega
   exact s.live i c' r g p R l J
  .have l:(r,g)=(w.heap.size,t):=by
    rcases zy I with ⟨h,_⟩|⟨_,h⟩
    .omega
    .exact h
   have:=s.imm r J;obtain⟨rfl,_⟩:=Prod.mk.inj l;omega
 .intro i j ci cj b ti tj T hj a3 a4 U a0
  rcases zy T with ⟨a5,a1⟩|⟨a5,a1⟩<;>rcases zy hj with ⟨a6,a2⟩|⟨a6,a2⟩
  .have a:G.blk[i]?=some (b,ti):=by
    rcases zy U with ⟨_,h⟩|⟨h,_⟩
    .exact h
    .omega
   have c:G.blk[j]?=some (b,tj):=by
    rcases zy a0 with ⟨_,h⟩|⟨h,_⟩
    .exact h
    .omega
   exact s.inj i j ci cj b ti tj a1 a2 a3 a4 a c
  .have a:G.blk[i]?=some (b,ti):=by
    rcases zy U with ⟨_,h⟩|⟨h,_⟩
    .exact h
    .omega
   have c:(b,tj)=(w.heap.size,t):=by
    rcases zy a0 with ⟨h,_⟩|⟨_,h⟩
    .omega
    .exact h
   have:=s.livesize ⟨i,ci,ti,a1,a3,a⟩;have:=(Prod.mk.inj c).1;omega
  .have a:G.blk[j]?=some (b,tj):=by
    rcases zy a0 with ⟨_,h⟩|⟨h,_⟩
    .exact h
    .omega
   have c:(b,ti)=(w.heap.size,t):=by
    rcases zy U with ⟨h,_⟩|⟨_,h⟩
    .omega
    .exact h
   have:=s.livesize ⟨j,cj,tj,a2,a4,a⟩;have:=(Prod.mk.inj c).1;omega
  .omega
 .intro b P
  obtain⟨i,c',t',hc,R,I⟩:=P;rcases zy hc with ⟨T,p⟩|⟨T,p⟩
  .have l:G.blk[i]?=some (b,t'):=by
    rcases zy I with ⟨_,h⟩|⟨h,_⟩
    .exact h
    .omega
   exact .inl ⟨i,c',t',p,R,l⟩
  .have l:(b,t')=(w.heap.size,t):=by
    rcases zy I with ⟨h,_⟩|⟨_,h⟩
    .omega
    .exact h
   exact .inr (zW1 ((Prod.mk.inj l).1))
theorem jy{C:Type}{l:List C}{a x:C}{i j:Nat}(h:(l.set i a)[j]?=some x):(j=i/\x=a)\/(j≠i/\l[j]?=some x):=by
 rw[VU]at h;by_cases g:i=j
 .subst g
  rw[if_pos rfl]at h;split at h
  .exact .inl ⟨rfl,(Option.some.inj h).symm⟩
  .exact absurd h zSp
 .rw [if_neg g]at h;exact .inr ⟨fun e=>g e.symm,h⟩
theorem Stp.write{w':j2}(s:Sim G mu w.heap)(i:Nat)(c:Cell)(c':Cell)(I J:Nat)(o:Obj)
  (T:mu[i]?=some c) (U:c ≠ .dead) (aa:c' ≠ .dead) (hk:G.blk[i]?=some (I,J))
  (hw:w'.heap.size=w.heap.size) (ho:w'.heap[I]?=some o) (l:∀ b,b≠I->w'.heap[b]?=w.heap[b]?)
  (ht:w'.tape=w.tape) (a5:w'.os=w.os) (a2:w'.output=w.output)
  (ha:jS G w.heap J o c') (hdr:w.drawn<=w'.drawn:=by exact qn _) :
  Stp G mu w G (mu.set i c') w':=by
 have a6:Live G mu I:=⟨i,c,J,T,U,hk⟩;have he:Ext G w.heap w'.heap:=⟨zOm,fun b hb=>l b (fun e=>by subst e;exact s.live i c b J T U hk hb)⟩;have a7:∀(j:Nat) (R:Cell) b t,j≠i->mu[j]?=some R->R ≠ .dead->G.blk[j]?=some (b,t)->b≠I:=by
  intro j R b t hj r p g e;subst e;exact hj (s.inj j i R c b t J r T p U g hk)
 refine⟨.refl G,⟨by simpa using s.len,?_,?_,?_,?_,s.tab.mono (fun _ h=>h) he.keep⟩,?_,zOm,?_,fun b h => .inl h,ht,a5,a2,hdr⟩
 .intro b hb;have:=s.imm b hb;omega
 .intro j R b t r p g
  rcases jy r with ⟨rfl,C⟩|⟨hj,C⟩
  .rw [hk]at g
   obtain⟨rfl,rfl⟩:=Prod.mk.inj (Option.some.inj g);subst C;exact⟨o,ho,ha.mono (.refl G) he⟩
  .obtain ⟨o',h1,h2⟩:=s.obj j R b t C p g
   exact⟨o',by rw[l b (a7 j _ b t hj C p g)];exact h1,h2.mono (.refl G) he⟩
 .intro j R b t r p g
  rcases jy r with ⟨rfl,C⟩|⟨hj,C⟩
  .rw [hk]at g
   obtain⟨rfl,rfl⟩:=Prod.mk.inj (Option.some.inj g);exact s.live j c _ _ T U hk
  .exact s.live j R b t C p g
 .intro a b ca cb P ta tb a8 a9 a3 a4 a0 a1
  rcases jy a8 with ⟨rfl,C⟩|⟨hj,C⟩<;>rcases jy a9 with ⟨rfl,hy⟩|⟨ab,hy⟩
  .rfl
  .exact s.inj a b c cb P ta tb T hy U a4 a0 a1
  .exact s.inj a b ca c P ta tb C T a3 U a0 a1
  .exact s.inj a b ca cb P ta tb C hy a3 a4 a0 a1
 .intro b hb hl
  exact l b (fun e=>hl (e ▸ a6))
 .intro b hb
  obtain⟨j,R,t,r,p,g⟩:=hb;rcases jy r with ⟨rfl,C⟩|⟨hj,C⟩
  .exact .inl ⟨j,c,t,T,U,g⟩
  .exact .inl ⟨j,R,t,C,p,g⟩
theorem Stp.kill(s:Sim G mu w.heap)(i:Nat):Stp G mu w G (mu.set i .dead) w:=by
 refine⟨.refl G,⟨by simpa using s.len,s.imm,?_,?_,?_,s.tab⟩,fun _ _ _=>rfl,qn _,?_,fun b h => .inl h,rfl,rfl,rfl,qn _⟩
 .intro j r b t o g p
  rcases jy o with ⟨rfl,l⟩|⟨P,l⟩
  .exact absurd l g
  .exact s.obj j r b t l g p
 .intro j r b t o g p hi
  rcases jy o with ⟨rfl,l⟩|⟨P,l⟩
  .exact g l
  .exact s.live j r b t l g p hi
 .intro a b ca cb C ta tb R T I J U a0
  rcases jy R with ⟨rfl,l⟩|⟨P,l⟩
  .exact absurd l I
  .rcases jy T with ⟨rfl,hy⟩|⟨a1,hy⟩
   .exact absurd hy J
   .exact s.inj a b ca cb C ta tb l hy I J U a0
 .intro b hb
  obtain⟨j,r,t,o,g,p⟩:=hb;rcases jy o with ⟨rfl,l⟩|⟨P,l⟩
  .exact absurd l g
  .exact .inl ⟨j,r,t,l,g,p⟩
end
end Go.Ev
namespace Go.Ev
open Go Go.RowKit
section
variable {cs:Array j3}{mu:Mu}{P:qf}{t:j1}{w:j2}
def szOf(P:qf)(t:j1):Option Nat:=(P.info? t).map (·.size)
def qV(P:qf)(t:j1):Option Bool:=(P.underlying t).map fun | .struct _ | .array .. => true|_=>false
def qx(P:qf)(t:j1):Option AV:=((P.info? t).bind (·.zero)).map ofV
def qz(P:qf)(t:j1):Option (j1×Nat×Nat):=
 match P.underlying t with
 |some (.slice e)=>(P.info? e).map fun i=>(e,i.size,i.bytes)
 |_=>none
def qF(P:qf)(s f:Nat):Option (Nat×j1×Nat):=
 match P.underlying s with
 |some (.struct i)=>(i[f]?).bind fun g=>match szOf P g.type with|some (n+1)=>some (g.offset,g.type,n+1)|_=>none
 |_=>none
def Qg(P:qf)(t:j1):Option (Nat×j1×Nat):=
 match P.underlying t with
 |some (.array n e)=>(szOf P e).map fun k=>(n,e,k)
 |_=>none
theorem YT{b:Bool}(h:qV P t=some b)(w:j2):(isAgg t).run P w = .ok b w:=by
 unfold qV at h;cases g:P.underlying t with
 |none=>simp[g]at h
 |some d =>
  simp only[g,qS,qj]at h;subst h;simp only[isAgg,qE,run_underlying g,Result.andThen];cases d<;>rfl
theorem yE{n:Nat}(h:szOf P t=some n)(w:j2):(sizeOf t).run P w = .ok n w:=by
 unfold szOf at h;cases g:P.info? t with
 |none=>simp[g]at h
 |some d =>
  simp only[g,qS,qj]at h;subst h;simp[sizeOf,typeInfo,g]
theorem wF{x:AV}(h:qx P t=some x)(w:j2):∃ v,(zeroValue t).run P w = .ok v w/\x=ofV v:=by
 unfold qx at h;cases g:P.info? t with
 |none=>simp[g]at h
 |some d =>
  simp only[g,Option.bind_some,yQ]at h;obtain⟨v,i,rfl⟩:=h;exact⟨v,by simp[zeroValue,typeInfo,g,i],rfl⟩
theorem wG{a:Addr}{e:j1}{i:Nat×Nat}(g:w.heap[a.block]?=some (.cells cs e i))(j:a.spot=none)(k:Nat) :
  w.cell? (a.add k)=cs[a.off+k]?:=by
 unfold Addr.add;split
 .rename_i h;subst h;simp[World.cell?,g,j]
 .simp [World.cell?,g]
@[go_sem] def jH(mu:Mu):AV->Nat->Option (List AV)
 | .ip g,n=>if n<=g.length then some (g.take n) else none
 | .ptr b off,n=>match mu[b]? with
  |some (.arr cells)=>if off+n<=cells.length then some ((cells.drop off).take n) else none
  |_=>none
 |_,_=>none
theorem XK{G:Gh}(s:Sim G mu w.heap){p:AV}{v:j3}(r:VRel G w.heap p v){n:Nat}{cs:List AV}(h:jH mu p n=some cs) :
  ∃(a:Addr) (rd:Nat->j3),v = .pointer (some a)/\cs.length=n/\∀(k:Nat) x,cs[k]?=some x->w.cell? (a.add k)=some (rd k)/\VRel G w.heap x (rd k):=by
 cases r with
 |ip l a arr e fr rd o C hi I J =>
  simp only[jH]at h;split at h
  .rename_i P
   simp only[qj]at h;subst h;refine⟨a,rd,rfl,zSo,fun k x i=>?_⟩;have g:l[k]?=some x:=by
    rw[y6]at i;split at i
    .exact i
    .exact absurd i zSp
   exact⟨by rw[wG o C];exact I k x g,J k x g⟩
  .exact absurd h zSp
 |ptr b off j t o =>
  simp only[jH]at h;split at h
  .rename_i cells R
   obtain⟨arr,e,T,h2,h3,U⟩:=s.arr b cells j t R o;split at h
   .rename_i P
    simp only[qj]at h;subst h;refine⟨⟨j,off,none⟩,fun k=>arr.getD (off+k) va,rfl,zSo,fun k x i=>?_⟩;have g:cells[off+k]?=some x:=by
     rw[y6]at i;split at i
     .rwa [y7]at i
     .exact absurd i zSp
    refine⟨?_,(U _ _ g).2⟩;rw[wG (a:=⟨j,off,none⟩) T rfl];have a0:off+k<cells.length:=(qe.1 g).1;have:off+k<arr.size:=zOm;simp[qB,this]
   .exact absurd h zSp
  .exact absurd h zSp
 |_=>exact absurd h (by simp[jH])
@[go_sem] def vK(P:qf)(mu:Mu)(t:j1)(p:AV):Option AV:=
 match qV P t,szOf P t with
 |some true,some n=>(jH mu p n).map .agg
 |some false,some _=>(jH mu p 1).bind fun | [x]=>some x|_=>none
 |_,_=>none
theorem XL{G:Gh}(s:Sim G mu w.heap){t:j1}{p:AV}{v:j3}(r:VRel G w.heap p v){x:AV}(h:vK P mu t p=some x) :
  ∃ a u,v = .pointer (some a)/\(loadVar t a).run P w = .ok u w/\VRel G w.heap x u:=by
 unfold vK at h;split at h
 .rename_i n C T
  cases g:jH mu p n with
  |none=>simp[g]at h
  |some I =>
   simp only[g,qS,qj]at h;subst h;obtain⟨a,rd,rfl,l,o⟩:=XK s r g;have i:=run_loadCells (P:=P) w a n rd (fun j hj=>(o j I[j] (by simp[l,hj])).1);refine⟨a,.agg ((qo n).map rd).toArray,rfl,?_,?_⟩
   .simp [loadVar,YT C,yE T,i]
   .refine .agg _ _ (zP1 l) (fun k x U=>?_)
    have J:k<n:=by rw[<-l];exact(qe.1 U).1
    have:(((qo n).map rd).toArray).getD k va=rd k:=by simp[qB,J]
    rw[this];exact(o k x U).2
 .rename_i n C T
  cases g:jH mu p 1 with
  |none=>simp[g]at h
  |some I =>
   simp only[g,Option.bind_some]at h
   match I,g,h with
   | [y],g,h =>
    simp only[qj]at h;subst h;obtain⟨a,rd,rfl,l,o⟩:=XK s r g;have R:=o 0 y rfl;rw[show a.add 0=a by simp[Addr.add]]at R;exact⟨a,rd 0,rfl,by simp[loadVar,YT C,R.1],R.2⟩
 .exact absurd h zSp
def putCells(cells:List AV)(off:Nat)(xs:List AV):List AV:=
 match xs with
 | [x]=>cells.set off x
 |xs=>cells.take off++xs++cells.drop (off+xs.length)
@[go_sem] theorem qlH(z:List AV)(o:Nat)(x:AV):putCells z o [x]=z.set o x:=rfl
@[go_sem] theorem qlI(z:List AV)(o:Nat)(x y:AV)(l:List AV):putCells z o (x :: y :: l)=z.take o++(x :: y :: l)++z.drop (o+(x :: y :: l).length):=rfl
@[go_sem] theorem qlJ(z:List AV)(o:Nat):putCells z o []=z.take o++[]++z.drop (o+0):=rfl
theorem yq(cells:List AV)(off:Nat)(xs:List AV)(h:off+xs.length<=cells.length):putCells cells off xs=cells.take off++xs++cells.drop (off+xs.length):=by
 unfold putCells;split
 .rename_i x
  simp at h;rw[List.set_eq_take_append_cons_drop,if_pos zOm];simp
 .rfl
@[go_sem] def Zv(P:qf)(mu:Mu)(t:j1)(p x:AV):Option Mu:=
 match p,szOf P t with
 | .ptr b off,some n=>match mu[b]? with
  |some (.arr cells)=>if x.cells.length=n/\off+n<=cells.length/\x.cells.all AV.one=true then some (mu.set b (.arr (putCells cells off x.cells))) else none
  |_=>none
 |_,_=>none
theorem mW{k:Nat}{v:j3}(h:cs[k]?=some v):cs.getD k va=v:=by simp[qB,h]
theorem mX{G:Gh}{l:Mu}(s:Sim G mu w.heap){t:j1}{p x:AV}{v u:j3}(r:VRel G w.heap p v)(rx:VRel G w.heap x u)(h:Zv P mu t p x=some l) :
  ∃ a w',v = .pointer (some a)/\(storeVar t a u).run P w = .ok () w'/\Stp G mu w G l w':=by
 unfold Zv at h;split at h
 .rename_i b off n hn
  split at h
  .rename_i cells hc
   split at h
   .rename_i R
    obtain⟨T,a6,I⟩:=R;simp only[qj]at h;subst h;cases r with
    |ptr _ _ g a0 hb =>
     obtain⟨arr,e,h1,h2,h3,h4⟩:=s.arr b cells g a0 hc hb;obtain⟨o,C,U⟩:=rx.cells (fun c a3=>by simpa using qJ.1 I c a3);have J:=run_storeCells_at P g off e u.cells.toList 0 arr w h1 (by simp[o];omega) U;simp only[Nat.add_zero]at J;refine⟨⟨g,off,none⟩,w.setRow g (arr.toList.take off++u.cells.toList++arr.toList.drop (off+u.cells.toList.length)).toArray,rfl,?_,?_⟩
     .simp only[storeVar,qE,yE hn,qG]
      rw[if_neg (by rw[o,T];simp)];simpa using J
     .refine Stp.write s b (.arr cells) _ g a0 (.cells (arr.toList.take off++u.cells.toList++arr.toList.drop (off+u.cells.toList.length)).toArray e (0,0)) hc zSp zSp hb zSp (setRow_heap w g arr _ e _ h1)
       (fun k hk=>setRow_other w g k _ hk) rfl rfl rfl ?_
      have a4:u.cells.toList.length=n:=by simp[o,T]
      refine⟨_,e,rfl,by simp[o];omega,by rw[yq _ _ _ zOm];simp;omega,?_⟩;intro j y i;rw[yq _ _ _ zOm]at i;rw[zc]at i;by_cases a1:j<off
      .rw [qI zSo,y6,if_pos a1]at i
       have:=h4 j y i;refine⟨this.1,?_⟩;have e1:(((arr.toList.take off++u.cells.toList++arr.toList.drop (off+u.cells.toList.length)).toArray).getD j va)=arr.getD j va:=by
        simp only[qB,vG,zc];rw[qI zSo,y6,if_pos a1,vC]
       rw[e1];exact this.2
      .rw [qT zSo]at i
       have a2:(cells.take off).length=off:=zSo;rw[a2]at i;by_cases a7:j-off<n
       .rw [zGa]at i
        refine⟨by simpa using qJ.1 I y (qZ i),?_⟩;have:=C (j-off) y i;have e1:(((arr.toList.take off++u.cells.toList++arr.toList.drop (off+u.cells.toList.length)).toArray).getD j va)=u.cells.getD (j-off) va:=by
         simp only[qB,vG,zc];rw[qT zSo];have:(arr.toList.take off).length=off:=zSo;rw[this,zGa,vC]
        rw[e1];exact this
       .rw [qT zOm,y7,T]at i
        have a5:cells[j]?=some y:=by rw[<-i];congr 1;omega
        have:=h4 j y a5;refine⟨this.1,?_⟩;have e1:(((arr.toList.take off++u.cells.toList++arr.toList.drop (off+u.cells.toList.length)).toArray).getD j va)=arr.getD j va:=by
         simp only[qB,vG,zc];rw[qT zSo];have:(arr.toList.take off).length=off:=zSo;rw[this,qT zOm,y7,vC,a4];congr 2;omega
        rw[e1];exact this.2
   .exact absurd h zSp
  .exact absurd h zSp
 .exact absurd h zSp
end
end Go.Ev
namespace Go.Ev
open Go Go.RowKit
section
variable {x z:AV}{h:Array Obj}{G:Gh}{xs:List (List AV)}{sz:Nat}{P:qf}{t:j1}{u:j3}{w:j2}
def Good(P:qf)(G:Gh)(mu:Mu)(w:j2)(s:Sem j3)(x:AV)(l:Mu):Prop:=
 ∃ v g i,s.run P w = .ok v g/\Stp G mu w i l g/\VRel i g.heap x v
theorem Good.quiet{mu:Mu}(s:Sim G mu w.heap){c:Sem j3}{x:AV}{v:j3}(h:c.run P w = .ok v w)(r:VRel G w.heap x v):Good P G mu w c x mu:=
 ⟨v,w,G,h,.refl s,r⟩
theorem VW:(∀ r,r∈xs->r.length=sz)->∀{i k:Nat} {r:List AV} {x:AV},xs[i]?=some r->r[k]?=some x->xs.flatten[i*sz+k]?=some x:=by
 induction xs with
 |nil=>intro _ i k r x h;simp at h
 |cons y j l =>
  intro g i k r x h o;have p:=g y zSp;cases i with
  |zero =>
   grind
  |succ i =>
   grind
theorem zW(h:∀ r,r∈xs->r.length=sz):xs.flatten.length=xs.length*sz:=by
 induction xs with
 |nil=>simp
 |cons y j g =>
  grind
@[go_sem] def aInt(op:BinOp)(k:IntKind)(a b:Int):Option AV:=
 match op with
 | .add=>some (.sc (.int k (k.wrap (a+b))))
 | .sub=>some (.sc (.int k (k.wrap (a-b))))
 | .mul=>some (.sc (.int k (k.wrap (a*b))))
 | .quo=>if b=0 then none else some (.sc (.int k (k.wrap (a.tdiv b))))
 | .rem=>if b=0 then none else some (.sc (.int k (a.tmod b)))
 | .eql=>some (.sc (.bool (a == b)))
 | .neq=>some (.sc (.bool (a != b)))
 | .lss=>some (.sc (.bool (decide (a<b))))
 | .leq=>some (.sc (.bool (decide (a<=b))))
 | .gtr=>some (.sc (.bool (decide (a > b))))
 | .geq=>some (.sc (.bool (decide (a>=b))))
 |_=>none
@[go_sem] def aStr(op:BinOp)(x y:ByteArray):Option AV:=
 match op with
 | .eql=>some (.sc (.bool (x.toList == y.toList)))
 | .neq=>some (.sc (.bool (!(x.toList == y.toList))))
 | .lss=>some (.sc (.bool (Op.bytesLess x.toList y.toList)))
 | .add=>if x.size+y.size<=9223372036854775807 then some (.sc (.string (x++y))) else none
 |_=>none
@[go_sem] def aEqs:List AV->List AV->Option Bool
 | [],[]=>some true
 | .sc (.int k a) :: g,.sc (.int i b) :: j=>if k=i then (if a == b then aEqs g j else some false) else none
 |_,_=>none
def VX(P:qf)(t:j1):Bool:=match P.underlying t with|some .bool=>true|_=>false
def XM(P:qf)(t:j1):Bool:=match P.underlying t with|some (.int _)=>true|_=>false
def Qh(P:qf):List Field->Nat->Bool
  | [],_=>true
  | f :: g, i => f.offset == i && f.name != "_" && XM P f.type && Qh P g (i + 1)
def YY(P:qf)(t:j1):Option Nat:=
 match P.underlying t with
 |some (.struct g)=>if Qh P g.toList 0=true/\P.stoodInHeld t=false/\P.eqGuardType P.depth t=false then some g.size else none
 |some (.array n e)=>match P.underlying e,szOf P e with
  |some (.int _),some 1=>if P.eqGuardType P.depth t=false then some n else none
  |_,_=>none
 |_=>none
def XN(P:qf)(t:j1):Bool:=match P.underlying t with|some (.interface _)=>true|_=>false
def VY(P:qf)(t:j1):Bool:=match P.underlying t with|some (.interface g)=>g.isEmpty|_=>false
def Qi(P:qf)(t:j1):Bool:=match P.underlying t with|some (.pointer _)=>true|_=>false
@[go_sem] def XP(op:BinOp)(k:IntKind)(a b:Int):Option AV:=
 if b<0 then none else match op with
  | .shl=>some (.sc (.int k (k.wrap (a*2 ^ (min b.toNat k.bits)))))
  | .shr=>some (.sc (.int k (a.fdiv (2 ^ (min b.toNat k.bits)))))
  |_=>none
@[go_sem] def aBin(P:qf)(op:BinOp)(t:j1)(x y:AV):Option AV:=
 match x,y with
 | .sc (.int k a),.sc (.int g b)=>if op = .shl\/op = .shr then XP op k a b else if k=g then aInt op k a b else none
 | .sc (.bool a),.sc (.bool b)=>if VX P t=true then (match op with | .eql=>some (.sc (.bool (a == b))) | .neq=>some (.sc (.bool (!(a == b))))|_=>none) else none
 | .sc (.string a),.sc (.string b)=>aStr op a b
 | .ifc _ _,.sc .nilIface=>if XN P t=true then (match op with | .eql=>some (.sc (.bool false)) | .neq=>some (.sc (.bool true))|_=>none) else none
 | .sc .nilIface,.sc .nilIface=>if VY P t=true then (match op with | .eql=>some (.sc (.bool true)) | .neq=>some (.sc (.bool false))|_=>none) else none
 | .sc (.pointer none),.sc (.pointer none)=>if Qi P t=true then (match op with | .eql=>some (.sc (.bool true)) | .neq=>some (.sc (.bool false))|_=>none) else none
 | .ip _,.sc (.pointer none)=>if Qi P t=true then (match op with | .eql=>some (.sc (.bool false)) | .neq=>some (.sc (.bool true))|_=>none) else none
 | .ptr _ _,.sc (.pointer none)=>if Qi P t=true then (match op with | .eql=>some (.sc (.bool false)) | .neq=>some (.sc (.bool true))|_=>none) else none
 |_,_=>none
theorem mY{k:IntKind}{a b:Int}(g:¬b=0):(Op.intDiv .quo k a b).run P w=(Pure.pure (.int k (k.wrap (a.tdiv b))):Sem j3).run P w:=by
 unfold Op.intDiv;rw[if_neg g]
theorem mZ{k:IntKind}{a b:Int}(g:¬b=0):(Op.intDiv .rem k a b).run P w=(Pure.pure (.int k (a.tmod b)):Sem j3).run P w:=by
 unfold Op.intDiv;rw[if_neg g]
theorem m5(d:Nat){t u:j1}{x:j3}{g:Array (String×j1)}(i:P.underlying t=some (.interface g)) :
  (Op.equalIn (d+1) t (.iface u x) .nilIface).run P w = .ok false w:=by
 simp[Op.equalIn,run_underlying i]
theorem m6(d:Nat){t:j1}{g:Array (String×j1)}(i:P.underlying t=some (.interface g)) :
  (Op.equalIn (d+1) t .nilIface .nilIface).run P w = .ok true w:=by
 simp[Op.equalIn,run_underlying i]
theorem m7(d:Nat){t:j1}{g:Array (String×j1)}(i:P.underlying t=some (.interface g))(j:g.isEmpty=true) :
  (Op.eqGuardIn (d+1) t .nilIface .nilIface).run P w = .ok false w:=by
 simp[Op.eqGuardIn,run_underlying i,j]
theorem m8(d:Nat){t e:j1}{a:Option Addr}(g:P.underlying t=some (.pointer e)) :
  (Op.equalIn (d+1) t (.pointer a) (.pointer none)).run P w = .ok a.isNone w:=by
 cases a<;>simp[Op.equalIn,run_underlying g]
theorem m9(h:Qi P t=true):∃ e,P.underlying t=some (.pointer e):=by
 grind [Qi,absurd]
theorem VZ{op:BinOp}{ox oy:uk}{a:Option Addr}{b c:Bool}(g:Qi P t=true)(i:a.isNone=b)(j:(!b)=c){z:AV}{G:Gh}
  (h:(match op with | .eql=>some (AV.sc (.bool b)) | .neq=>some (AV.sc (.bool c))|_=>none)=some z):∃ r,(do eqGuard op t ox oy (.pointer a) (.pointer none);binOp op t (.pointer a) (.pointer none):Sem j3).run P w = .ok r w/\VRel G w.heap z r:=by
 obtain⟨e,l⟩:=m9 g;have o:(eqGuard op t ox oy (.pointer a) (.pointer none)).run P w = .ok () w:=by
  unfold eqGuard;cases op<;>rfl
 simp only[qE,o,qG];have p:(Op.equal t (.pointer a) (.pointer none)).run P w = .ok a.isNone w:=m8 9999 l;subst i;subst j;cases op<;>simp only[qj]at h<;>first
  | (simp at h;done)
  | (subst h;refine⟨_,?_,.sc _ rfl⟩;simp[binOp,p];done)
theorem qaA{op:BinOp}{y:AV}{ox oy:uk}{v:j3}(l:VRel G w.heap x u)(o:VRel G w.heap y v)(h:aBin P op t x y=some z) :
    ∃ r,(do eqGuard op t ox oy u v;binOp op t u v:Sem j3).run P w = .ok r w/\VRel G w.heap z r:=by
  unfold aBin at h;split at h
  ·
    rename_i k a U b;cases l;cases o;split at h
    · unfold XP at h
      split at h
      · cases h
      · rename_i g
        have i:(eqGuard op t ox oy (.int k a) (.int U b)).run P w = .ok () w:=by
          unfold eqGuard;cases op<;>rfl
        simp only[qE,i,qG];cases op<;>simp only[qj]at h<;>first
          | (cases h;done)
          | (subst h;refine⟨_,?_,.sc _ rfl⟩;simp[binOp,Op.shift,g];done)
    · rename_i hs
      split at h
      · rename_i hk;subst hk
        have i:(eqGuard op t ox oy (.int k a) (.int k b)).run P w = .ok () w:=by
          unfold eqGuard;cases op<;>rfl
        simp only[qE,i,qG];unfold aInt at h;cases op<;>simp only[qj]at h<;>first
          | (simp at h;done)
          | (subst h;refine⟨_,?_,.sc _ rfl⟩;simp[binOp,Op.intArith,Op.intCmp];done)
          | (split at h
             · exact absurd h zSp
             · rename_i g
               simp only[qj]at h;subst h;refine⟨_,?_,.sc _ rfl⟩;simp[binOp,mY g,mZ g];done)
          | (exfalso;simp at hs)
      grind
  · rename_i a b
    cases l;cases o;split at h
    · rename_i g
      have j:P.underlying t=some .bool:=by
        grind [VX,absurd]
      have i:(eqGuard op t ox oy (.bool a) (.bool b)).run P w = .ok () w:=by
        unfold eqGuard;cases op<;>rfl
      simp only[qE,i,qG];cases op<;>simp only[qj]at h<;>first
        | (simp at h;done)
        | (subst h;refine⟨_,?_,.sc _ rfl⟩;simp[binOp,Op.equal,Op.maxDepth,run_equalIn_bool' w 9999 t a b j];done)
    grind
  · rename_i a b
    cases l;cases o;have i:(eqGuard op t ox oy (.string a) (.string b)).run P w = .ok () w:=by
      unfold eqGuard;cases op<;>rfl
    simp only[qE,i,qG];unfold aStr at h;cases op<;>simp only[qj]at h<;>first
      | (simp at h;done)
      | (subst h;refine⟨_,?_,.sc _ rfl⟩;simp[binOp,Op.stringOp];done)
      | (split at h
         · rename_i g
           simp only[qj]at h;subst h;refine⟨_,?_,.sc _ rfl⟩;have:¬(((a.size+b.size:Nat):Int) > qs.max):=by simp[IntKind.max,IntKind.signed,IntKind.bits];omega
           simp only[binOp,Op.stringOp,if_neg this,zh]
         · exact absurd h zSp)
  · rename_i R vv
    cases o;cases l with
    |ifc _ _ T hv =>
    split at h
    · rename_i g
      have j:∃ p,P.underlying t=some (.interface p):=by
        unfold XN at g;split at g
        · exact⟨_,by assumption⟩
        · exact absurd g zSp
      obtain⟨p,j⟩:=j;have i:(eqGuard op t ox oy (.iface R T) .nilIface).run P w = .ok () w:=by
        unfold eqGuard;cases op<;>rfl
      simp only[qE,i,qG];have C:(Op.equal t (.iface R T) .nilIface).run P w = .ok false w:=m5 9999 j;cases op<;>simp only[qj]at h<;>first
        | (simp at h;done)
        | (subst h;refine⟨_,?_,.sc _ rfl⟩;simp[binOp,C];done)
    · exact absurd h zSp
  · cases l
    cases o;split at h
    · rename_i g
      have j:∃ p,P.underlying t=some (.interface p)/\p.isEmpty=true:=by
        unfold VY at g;split at g
        · exact⟨_,by assumption,g⟩
        · exact absurd g zSp
      obtain⟨p,j,I⟩:=j;have i:(eqGuard op t ox oy .nilIface .nilIface).run P w = .ok () w:=by
        have J:(Op.eqGuardIn Op.maxDepth t .nilIface .nilIface).run P w = .ok false w:=m7 9999 j I;unfold eqGuard;cases op<;>first|rfl | (simp only[qE,Sem.run_ite,J,qG];simp)
      simp only[qE,i,qG];have C:(Op.equal t .nilIface .nilIface).run P w = .ok true w:=m6 9999 j;cases op<;>simp only[qj]at h<;>first
        | (simp at h;done)
        | (subst h;refine⟨_,?_,.sc _ rfl⟩;simp[binOp,C];done)
    · exact absurd h zSp
  · cases l
    cases o;split at h
    · rename_i g;exact VZ g rfl rfl h
    · exact absurd h zSp
  · cases o
    cases l;split at h
    · rename_i g;exact VZ g rfl rfl h
    · exact absurd h zSp
  · cases o
    cases l;split at h
    · rename_i g;exact VZ g rfl rfl h
    · exact absurd h zSp
  grind
@[go_sem] def aUn(op:UnOp):AV->Option AV
 | .sc (.bool b)=>match op with | .not=>some (.sc (.bool !b))|_=>none
 | .sc (.int k n)=>match op with | .neg=>some (.sc (.int k (k.wrap (0-n))))|_=>none
 |_=>none
theorem qaB{op:UnOp}(g:VRel G w.heap x u)(h:aUn op x=some z) :
  ∃ r,(Op.unary op u).run P w = .ok r w/\VRel G w.heap z r:=by
 unfold aUn at h;split at h
 .cases g
  split at h
  .simp only[qj]at h;subst h
   exact⟨_,rfl,.sc _ rfl⟩
  grind
 .cases g
  split at h
  .simp only[qj]at h;subst h
   exact⟨_,rfl,.sc _ rfl⟩
  grind
 grind
@[go_sem] def Zw(P:qf)(src g:j1):AV->Option AV
 | .sc (.int _ n)=>match P.underlying g with|some (.int k)=>some (.sc (.int k (k.wrap n)))|_=>none
 | .lst _ [[.sc (.int .u8 n)]]=>match P.underlying src with
  |some (.slice e)=>match P.underlying e,P.underlying g with
   |some (.int .u8),some .string=>some (.sc (.string (ByteArray.empty.push (UInt8.ofNat n.toNat))))
   |_,_=>none
  |_=>none
 |_=>none
theorem qaC{src g:j1}(J:VRel G w.heap x u)(o:∃ d,P.underlying src=some d)(h:Zw P src g x=some z) :
  ∃ r,(convert src g u).run P w = .ok r w/\VRel G w.heap z r:=by
 unfold Zw at h;obtain⟨d,o⟩:=o;split at h
 .cases J
  split at h
  .rename_i k U
   simp only[qj]at h;subst h;refine⟨_,?_,.sc _ rfl⟩;simp only[convert,qE,run_underlying o,run_underlying U,qG];simp[Conv.intToInt]
  grind
 .rename_i f n
  split at h
  .rename_i e i
   split at h
   .rename_i he t
    simp only[qj]at h;subst h;cases J with
    |lst _ _ p a cap cs e' fr rd hb C hl hc hi hz hr hv =>
     have R:VRel G w.heap (.sc (.int .u8 n)) (rd 0):=hv 0 _ rfl;have T:cs[a.off+0]?=some (rd 0):=hr 0 _ rfl;generalize rd 0=q at R T;cases R;refine⟨_,?_,.sc _ rfl⟩;rw[run_convert_bytes_string w src g e (some a) _ cap i he t];have I:=run_loadCells_list (P:=P) w a [.int .u8 n] (fun j v l=>by
      match j,l with
      | 0,l =>
       simp only[YK,qj]at l;subst l;rw[wG hb C];exact T)
     exact run_bytesToString (P:=P) w a 1 cap [n] I
   grind
  grind
 grind
theorem VRel.ipDrop{cs:List AV}{a:Addr}(r:VRel G h (.ip cs) (.pointer (some a)))(n:Nat):VRel G h (.ip (cs.drop n)) (.pointer (some (a.add n))):=by
 cases r with
 |ip _ _ arr e i rd j l o t C =>
  have g:(a.add n).block=a.block:=by unfold Addr.add;split<;>rfl
  have p:(a.add n).spot=none:=by unfold Addr.add;split<;>simp[l]
  have I:(a.add n).off=a.off+n:=by unfold Addr.add;split<;>simp_all
  refine .ip _ _ arr e i (fun k=>rd (n+k)) (by rw[g];exact j) p (by rw[g];exact o) ?_ ?_
  .grind
  grind
theorem VRel.ptrAdd{b o:Nat}{a:Addr}(r:VRel G h (.ptr b o) (.pointer (some a)))(n:Nat):VRel G h (.ptr b (o+n)) (.pointer (some (a.add n))):=by
 cases r with
 |ptr _ _ g i j =>
  have:(⟨g,o,none⟩:Addr).add n=⟨g,o+n,none⟩:=by unfold Addr.add;split<;>simp_all
  rw[this];exact .ptr b (o+n) g i j
@[go_sem] def addA(p:AV)(n:Nat):Option AV:=
 match p with
 | .ip g=>some (.ip (g.drop n))
 | .ptr b o=>some (.ptr b (o+n))
 |_=>none
theorem XQ{p:AV}{v:j3}{n:Nat}(r:VRel G h p v)(e:addA p n=some z):∃ a,v = .pointer (some a)/\VRel G h z (.pointer (some (a.add n))):=by
 unfold addA at e;split at e
 .simp only[qj]at e;subst e
  cases r with
  |ip _ a arr el l rd g o t C I=>exact⟨a,rfl,VRel.ipDrop (.ip _ a arr el l rd g o t C I) n⟩
 .simp only[qj]at e;subst e
  cases r with
  |ptr _ _ i j g=>exact⟨_,rfl,VRel.ptrAdd (.ptr _ _ i j g) n⟩
 grind
@[go_sem] def Zx(P:qf)(s f:Nat)(p:AV):Option AV:=(qF P s f).bind fun (off,_,_)=>addA p off
theorem XS{s f off n:Nat}(h:qF P s f=some (off,t,n)) :
  ∃(fs:Array Field) (g:Field),P.underlying s=some (.struct fs)/\fs[f]?=some g/\g.offset=off/\g.type=t/\szOf P t=some n/\n≠0:=by
 unfold qF at h;split at h
 .grind
 grind
theorem qaD{s f:Nat}{p:AV}{v:j3}(r:VRel G w.heap p v)(e:Zx P s f p=some z) :
  ∃ u,(Instr.fieldAt s v f).run P w = .ok u w/\VRel G w.heap z u:=by
 unfold Zx at e;cases hf:qF P s f with
 |none=>simp[hf]at e
 |some x =>
  obtain⟨off,t,n⟩:=x;simp only[hf,Option.bind_some]at e;obtain⟨a,rfl,j⟩:=XQ r e;obtain⟨C,I,l,g,rfl,rfl,i,o⟩:=XS hf;refine⟨_,?_,j⟩;simp[Instr.fieldAt,run_underlying l,g,Instr.sureAddr,fieldPlace,yE i,o]
@[go_sem] def Zy(P:qf)(t:j1)(x o:AV):Option AV:=
 match o with
 | .sc (.int _ i) =>
  match x,qz P t,Qg P t with
  | .lst _ g,some (_,j,_),_=>if 0<=i/\i<g.length then (match g[i.toNat]? with|some r=>if r.length=j/\j≠0 then some (.ip r) else none|none=>none) else none
  | .sl b l off len,some (_,j,_),_=>if 0<=i/\i<len/\(l=j\/l=0) then some (.ptr b (off+i.toNat*j)) else none
  |p,none,some (n,_,j)=>if 0<=i/\i<n then addA p (i.toNat*j) else none
  |_,_,_=>none
 |_=>none
theorem jT{e:j1}{bt:Nat}(h:qz P t=some (e,sz,bt)):∃ i,P.underlying t=some (.slice e)/\P.info? e=some i/\i.size=sz/\i.bytes=bt:=by
 unfold qz at h;split at h
 .rename_i g l
  cases j:P.info? g with
  |none=>simp[j]at h
  |some i =>
   grind
 grind
theorem XT{e:j1}{n:Nat}(h:Qg P t=some (n,e,sz)):P.underlying t=some (.array n e)/\szOf P e=some sz:=by
 unfold Qg at h;split at h
 .rename_i l g o
  cases j:szOf P g with
  |none=>simp[j]at h
  |some i =>
   grind
 grind
theorem qaE{ix:AV}{v:j3}(r:VRel G w.heap x v)(ri:VRel G w.heap ix u)(e:Zy P t x ix=some z) :
  ∃ y,(Instr.indexAt t v u).run P w = .ok y w/\VRel G w.heap z y:=by
 unfold Zy at e;split at e
 .rename_i k i
  cases ri;split at e
  .rename_i full g e' p bt hs
   split at e
   .rename_i J
    split at e
    .rename_i row l
     split at e
     .rename_i hz
      simp only[qj]at e;subst e;obtain⟨a1,R,o,I,a2⟩:=jT hs;have C:szOf P e'=some p:=by simp[szOf,o,I]
      cases r with
      |nil=>simp at l
      |emp=>simp at l
      |lst _ _ j a cap cs el fr rd hb a3 hl hc T a4 hr hv =>
       have U:j=p:=by grind
       subst U;refine⟨.pointer (some (a.add (i.toNat*j))),?_,?_⟩
       .simp [Instr.indexAt,asIntOf,run_underlying R,J,yE C]
       .have h1:(a.add (i.toNat*j)).block=a.block:=by unfold Addr.add;split<;>rfl
        have h2:(a.add (i.toNat*j)).spot=none:=by unfold Addr.add;split<;>simp[a3]
        have h3:(a.add (i.toNat*j)).off=a.off+i.toNat*j:=by unfold Addr.add;split<;>simp_all
        refine .ip _ _ cs el fr (fun k=>rd (i.toNat*j+k)) (by rw[h1];exact hb) h2 (by rw[h1];exact T) ?_ ?_
        .intro k x hx
         rw[h3,Nat.add_assoc];exact hr _ x (VW a4 l hx)
        grind [VW]
     grind
    grind
   grind
  .rename_i b j off len e' p bt hs
   split at e
   .rename_i J
    obtain⟨a5,a6,_⟩:=J;simp only[qj]at e;subst e;obtain⟨a1,R,o,I,a2⟩:=jT hs;have C:szOf P e'=some p:=by simp[szOf,o,I]
    cases r with
    |sl _ _ _ _ a0 a7 cap hb ht hl =>
     refine⟨.pointer (some ((⟨a0,off,none⟩:Addr).add (i.toNat*p))),?_,VRel.ptrAdd (.ptr b off a0 a7 hb) _⟩;simp[Instr.indexAt,asIntOf,run_underlying R,a5,a6,yE C]
   grind
  .rename_i n e' p ha
   split at e
   .rename_i J
    obtain⟨R,C⟩:=XT ha;obtain⟨a,rfl,hz⟩:=XQ r e;refine⟨_,?_,hz⟩;simp[Instr.indexAt,asIntOf,run_underlying R,Instr.sureAddr,J,yE C]
   .exact absurd e zSp
  grind
 grind
end
end Go.Ev
namespace Go.Ev
open Go Go.RowKit
section
variable {z:AV}{h:Array Obj}{G:Gh}{xs:List (List AV)}{g:Option Int}{vhi vlo vmx:Option j3}{P:qf}{t:j1}{w:j2}
@[go_sem] def Y0(P:qf)(t:j1)(cs:List AV)(off:Nat):Option AV:=
 match qV P t,szOf P t with
 |some true,some n=>if off+n<=cs.length then some (.agg ((cs.drop off).take n)) else none
 |some false,_=>cs[off]?
 |_,_=>none
theorem XU{cs:List AV}{g:Array j3}{off:Nat}
  (C:g.size=cs.length) (j:∀(k:Nat) x,cs[k]?=some x->VRel G w.heap x (g.getD k va)) (h:Y0 P t cs off=some z) :
  ∃ u,(part t g off).run P w = .ok u w/\VRel G w.heap z u:=by
 unfold Y0 at h;split at h
 .rename_i n l o
  split at h
  .rename_i p
   simp only[qj]at h;subst h;refine⟨.agg (g.extract off (off+n)),by simp[part,YT l,yE o],.agg _ _ zSo ?_⟩;intro k x i;rw[y6]at i;split at i
   .rename_i I
    rw[y7]at i;have:=j _ x i;have e:(g.extract off (off+n)).getD k va=g.getD (off+k) va:=by
     simp only[qB]
     grind
    rw[e];exact this
   grind
  grind
 .rename_i l
  have:=j off z h;have r:off<cs.length:=(qe.1 h).1;simp_all[va,part,YT,qB]
 grind
@[go_sem] def Zz(P:qf)(s f:Nat)(x:AV):Option AV:=
 match x with
 | .agg g=>(qF P s f).bind fun (off,t,_)=>Y0 P t g off
 |_=>none
theorem qaF{s f:Nat}{x:AV}{v:j3}(r:VRel G w.heap x v)(e:Zz P s f x=some z) :
  ∃ u,(Instr.field s v f).run P w = .ok u w/\VRel G w.heap z u:=by
 unfold Zz at e;split at e
 .rename_i p
  cases r with
  |agg _ C g i =>
  cases hf:qF P s f with
  |none=>simp[hf]at e
  |some y =>
   obtain⟨off,t,n⟩:=y;simp only[hf,Option.bind_some]at e;obtain⟨I,J,R,j,rfl,rfl,l,o⟩:=XS hf;obtain⟨u,T,U⟩:=XU g i e;simp_all[Instr.field,run_underlying,asAgg]
 grind
@[go_sem] def ZA(P:qf)(t:j1)(x g:AV):Option AV:=
 match g with
 | .sc (.int _ i) =>
  match x with
  | .agg j=>match Qg P t with
   |some (n,e,p)=>if 0<=i/\i<n then Y0 P e j (i.toNat*p) else none
   |none=>none
  | .sc (.string s)=>match P.underlying t with
   |some .string=>if 0<=i then (match s.data[i.toNat]? with|some b=>some (.sc (.int .u8 b.toNat))|none=>none) else none
   |_=>none
  |_=>none
 |_=>none
theorem qaG{x o:AV}{v u:j3}(r:VRel G w.heap x v)(T:VRel G w.heap o u)(e:ZA P t x o=some z) :
  ∃ y,(Instr.index t v u).run P w = .ok y w/\VRel G w.heap z y:=by
 unfold ZA at e;split at e
 .rename_i k i
  cases T;split at e
  .rename_i cs
   cases r with
   |agg _ vs U hv =>
   split at e
   .rename_i n el p ha
    split at e
    .rename_i C
     obtain⟨I,a0⟩:=XT ha;obtain⟨y,h1,J⟩:=XU U hv e;simp_all[Instr.index,asIntOf,run_underlying,yE]
    grind
   grind
  .rename_i s
   cases r;split at e
   .rename_i I
    split at e
    .rename_i C
     split at e
     .rename_i b R
      simp only[qj]at e;subst e;refine⟨.int .u8 b.toNat,?_,.sc _ rfl⟩;have j:i.toNat<s.data.size:=(zM.1 R).1;have l:s[i.toNat]?=some b:=by
       have J:s.data[i.toNat]=b:=(zM.1 R).2;have g:i.toNat<s.size:=j;rw[getElem?_pos s i.toNat g];exact congrArg some J
      simp[Instr.index,asIntOf,run_underlying I,C,l]
     grind
    grind
   grind
  grind
 grind
@[go_sem] def optI:Option AV->Option (Option Int)
 |none=>some none
 |some (.sc (.int _ n))=>some (some n)
 |_=>none
@[go_sem] def ZB(P:qf)(t:j1)(x:AV)(lo i mx:Option AV):Option AV:=
 match optI lo,optI i,optI mx with
 |some lo,some i,some mx =>
  match x,P.underlying t with
  | .lst full g,some (.slice _) =>
   let n:Int:=g.length
   let h:=i.getD n
   let l:=lo.getD 0
   match mx with
   |none=>if 0<=l/\l<=h/\h<=n then some (.lst (full&&decide (h=n)) ((g.take h.toNat).drop l.toNat)) else none
   |some m=>if 0<=l/\l<=h/\h<=m/\m<=n/\i.isSome then some (.lst (decide (m=h)) ((g.take h.toNat).drop l.toNat)) else none
  | .sl b p off len,some (.slice e) =>
   let h:=i.getD len
   let l:=lo.getD 0
   match mx with
   |none=>if 0<=l/\l<=h/\h<=len/\(l=0\/l<len)/\szOf P e=some p then some (.sl b p (off+l.toNat*p) (h-l).toNat) else none
   |some _=>none
  | .ip j,some (.array n e) =>
   let h:=i.getD n
   let l:=lo.getD 0
   match mx with
   |none=>if 0<=l/\l<=h/\h<=n/\(l=0\/l<n)/\szOf P e=some 1/\j.length=n then some (.lst (decide (h=n)) (((j.take h.toNat).drop l.toNat).map fun c=>[c])) else none
   |some _=>none
  | .ptr b off,some (.array n e) =>
   match mx with
   |none=>if off=0/\lo.getD 0=0/\0<=i.getD n/\i.getD n<=n/\(szOf P e).isSome=true then some (.sl b 0 0 (i.getD n).toNat) else none
   |some _=>none
  | .sc (.string s),some .string =>
   let n:Int:=s.size
   let h:=i.getD n
   let l:=lo.getD 0
   match mx with
   |none=>if 0<=l/\l<=h/\h<=n then some (.sc (.string (s.extract l.toNat h.toNat))) else none
   |some _=>none
  |_,_=>none
 |_,_,_=>none
theorem uo{k:IntKind}{i:Int}{y:Nat}{c:BoundsCode}(g:0<=i)(j:i<=y):(Instr.sliceBound (.int k i) y c).run P w = .ok i.toNat w:=by
 simp[Instr.sliceBound,asIntOf,g,j]
theorem V0{o:Option AV}(e:optI o=some g) :
  ∀{v:Option j3},(∀ x,o=some x->∃ u,v=some u/\VRel G h x u)->(o=none->v=none)->(g=none/\v=none)\/∃ k n,g=some n/\v=some (.int k n):=by
 intro v i j;unfold optI at e;split at e
 .grind
 .rename_i k n
  simp only[qj]at e;obtain⟨u,l,r⟩:=i _ rfl;cases r
  grind
 grind
theorem Qj{isSlice:Bool}{len cap:Nat}{lo mx:Option Int}
  (j:(lo=none/\vlo=none)\/∃ k n,lo=some n/\vlo=some (.int k n)) (o:(g=none/\vhi=none)\/∃ k n,g=some n/\vhi=some (.int k n))
  (p:(mx=none/\vmx=none)\/∃ k n,mx=some n/\vmx=some (.int k n)) (r:mx.isSome=true->g.isSome=true)
  (U:0<=lo.getD 0) (h1:lo.getD 0<=g.getD len) (h2:g.getD len<=mx.getD cap) (h3:mx.getD cap<=cap) (T:len<=cap) :
  (Instr.sliceBounds isSlice len cap vlo vhi vmx).run P w = .ok ((lo.getD 0).toNat,(g.getD len).toNat,(mx.getD cap).toNat) w:=by
 rcases j with ⟨rfl,rfl⟩|⟨R,l,rfl,rfl⟩<;>rcases o with ⟨rfl,rfl⟩|⟨t,h,rfl,rfl⟩<;>rcases p with ⟨rfl,rfl⟩|⟨C,m,rfl,rfl⟩<;>simp only[Option.getD_none,Option.getD_some]at * <;>
  simp only[Option.isSome_none,Option.isSome_some,reduceCtorEq,imp_false,not_true_eq_false]at r
 .simp [Instr.sliceBounds]
 .grind [Instr.sliceBound,uo,Instr.sliceBounds,qE,zh,qG]
 .have I:(Instr.sliceBound (.int C m) cap (if isSlice then .slice3Acap else .slice3Alen)).run P w = .ok m.toNat w:=uo zOm zOm
  have i:(Instr.sliceBound (.int t h) m.toNat .slice3B).run P w = .ok h.toNat w:=uo zOm zOm;simp only[Instr.sliceBounds,qE,zh,qG,i,I];simp
 .grind [Instr.sliceBound,uo,Instr.sliceBounds,qE,zh,qG]
 .have i:(Instr.sliceBound (.int t h) cap (if isSlice then .sliceAcap else .sliceAlen)).run P w = .ok h.toNat w:=uo zOm zOm
  have J:(Instr.sliceBound (.int R l) h.toNat (if (none:Option j3).isSome then .slice3C else .sliceB)).run P w = .ok l.toNat w:=uo zOm zOm;simp only[Instr.sliceBounds,qE,zh,qG,J,i];simp
 .have I:(Instr.sliceBound (.int C m) cap (if isSlice then .slice3Acap else .slice3Alen)).run P w = .ok m.toNat w:=uo zOm zOm
  have i:(Instr.sliceBound (.int t h) m.toNat .slice3B).run P w = .ok h.toNat w:=uo zOm zOm;have J:(Instr.sliceBound (.int R l) h.toNat (if (some (Value.int C m)).isSome then .slice3C else .sliceB)).run P w = .ok l.toNat w:=uo zOm zOm;simp only[Instr.sliceBounds,qE,zh,qG,J,i,I]
theorem XV{sz:Nat}:(∀ r,r∈xs->r.length=sz)->∀ l:Nat,(xs.drop l).flatten=xs.flatten.drop (l*sz):=by
 induction xs with
 |nil=>intro _ l;simp
 |cons y j g =>
  intro i l;cases l with
  |zero=>simp
  |succ l =>
   simp only[List.drop_succ_cons,un];rw[g (fun r o=>i r (zP1 o)),Nat.succ_mul,Nat.add_comm,<-List.drop_drop]
   grind
theorem VRel.lstSub{full:Bool}{sz:Nat}{a:Option Addr}{cap l i m:Nat}
  (r:VRel G h (.lst full xs) (.slice a xs.length cap)) (J:∀ x,x∈xs->x.length=sz) (h1:l<=i) (P:i<=xs.length) (h3:i<=m) (hm:m<=cap) (j:Bool) (hf:j=true->m=i) :
  VRel G h (.lst j ((xs.take i).drop l)) (.slice (if m=l then a else a.map (·.add (l*sz))) (i-l) (m-l)):=by
 have a2:((xs.take i).drop l).length=i-l:=zSo;by_cases he:i=l
 .subst he
  have o:(xs.take i).drop i=[]:=vE zOm;rw[o,Nat.sub_self];cases a with
  |none =>
   have:xs=[]/\cap=0:=by cases r;exact⟨rfl,rfl⟩
   have R:m=0:=zOm;subst R;simp;exact .nil j
  |some a =>
   have:(if m=i then some a else (some a).map (·.add (i*sz)))=some (if m=i then a else a.add (i*sz)):=by split<;>rfl
   rw[this];exact .emp j _ _ (fun h=>zW1 (hf h))
 .have T:m≠l:=by omega
  rw[if_neg T];generalize a3:xs.length=n at r;cases r with
  |nil=>simp at P;omega
  |emp=>simp at P;omega
  |lst _ _ g a cap cs e fr rd hb hs hl hc U hz C hv =>
   have a0:xs≠[]:=by intro e;subst e;simp at P;omega
   obtain⟨y,hy⟩:∃ y,y∈xs:=List.exists_mem_of_ne_nil xs a0;have p:g=sz:=by rw[<-hz y hy,J y hy]
   subst p;have t:(a.add (l*g)).block=a.block:=by unfold Addr.add;split<;>rfl
   have a1:(a.add (l*g)).spot=none:=by unfold Addr.add;split<;>simp[hs]
   have a4:(a.add (l*g)).off=a.off+l*g:=by unfold Addr.add;split<;>simp_all
   have key:∀(k:Nat) x,((xs.take i).drop l).flatten[k]?=some x->xs.flatten[l*g+k]?=some x:=by
    intro k x I;rw[XV (fun r C=>hz r (vd C)),y7]at I
    grind [List.flatten_append,uZ,qI,qe]
   have:=VRel.lst (G:=G) (h:=h) j ((xs.take i).drop l) g (a.add (l*g)) (m-l) cs e fr (fun k=>rd (l*g+k)) (by rw[t];exact hb) a1 zOm (fun h=>zW1 (hf h)) (by rw[t];exact U)
    (fun r C=>hz r (vd (List.mem_of_mem_drop C))) (fun k x I=>by grind) (fun k x I=>hv _ x (key k x I))
   grind
theorem VRel.lst_inv{full:Bool}{v:j3}(r:VRel G h (.lst full xs) v) :
  ∃ a cap,v = .slice a xs.length cap/\xs.length<=cap/\(full=true->cap=xs.length)/\(∃ sz,∀ x,x∈xs->x.length=sz):=by
 cases r with
 |nil=>exact⟨none,0,rfl,qn _,fun _=>rfl,0,zSp⟩
 |emp _ a cap g=>exact⟨some a,cap,rfl,Nat.zero_le _,g,0,zSp⟩
 |lst _ _ sz a cap l e o rd p t i g C j I J=>exact⟨some a,cap,rfl,i,g,sz,j⟩
def zX(sz:Nat)(xs:List (List AV)):Prop:=∀ r,r∈xs->r.length=sz
theorem qaH{x:AV}{lo hi mx:Option AV}{v:j3}(r:VRel G w.heap x v)
  (a6:∀ y,lo=some y->∃ u,vlo=some u/\VRel G w.heap y u) (a0:lo=none->vlo=none) (a7:∀ y,hi=some y->∃ u,vhi=some u/\VRel G w.heap y u) (a1:hi=none->vhi=none)
  (a8:∀ y,mx=some y->∃ u,vmx=some u/\VRel G w.heap y u) (a2:mx=none->vmx=none)
  (a9:∀ full xs,x = .lst full xs->∃ e sz bt,qz P t=some (e,sz,bt)/\zX sz xs)
  (e:ZB P t x lo hi mx=some z):∃ y,(Instr.sliceAt t v vlo vhi vmx).run P w = .ok y w/\VRel G w.heap z y:=by
 unfold ZB at e;split at e
 .rename_i g o ar aa ad ae
  have J:=V0 (G:=G) (h:=w.heap) aa a6 a0;have R:=V0 (G:=G) (h:=w.heap) ad a7 a1;have T:=V0 (G:=G) (h:=w.heap) ae a8 a2;clear aa ad ae a6 a0 a7 a1 a8 a2;split at e
  .rename_i full xs el U
   obtain⟨a,cap,rfl,af,ak,_⟩:=r.lst_inv;obtain⟨e',sz,bt,hs,ag⟩:=a9 full xs rfl;obtain⟨au,ah,ai,al,av⟩:=jT hs;have an:e'=el:=by rw[U]at ah;simpa using ah.symm
   subst an;have C:szOf P e'=some sz:=by simp[szOf,ai,al]
   simp only at e;split at e
   .split at e
    .rename_i hc
     obtain⟨c1,c2,c3⟩:=hc;simp only[qj]at e;subst e;have i:=Qj (P:=P) (w:=w) (isSlice:=true) (len:=xs.length) (cap:=cap) J R T zSp c1 c2 zSo zSp af;refine⟨_,by simp only[Instr.sliceAt,Instr.slice,qE,run_underlying U,qG,i,yE C,zh];rfl,?_⟩;have hl:(g.getD 0).toNat<=(o.getD xs.length).toNat:=zOm;simp only[Option.getD_none,Int.toNat_natCast];exact VRel.lstSub r ag hl zOm zOm (qn _) _ (fun hf=>by
      simp only[qq,decide_eq_true_eq]at hf;have:=ak hf.1;omega)
    .exact absurd e zSp
   .rename_i m
    split at e
    .rename_i hc
     obtain⟨c1,c2,c3,c4,c5⟩:=hc;simp only[qj]at e;subst e;have i:=Qj (P:=P) (w:=w) (isSlice:=true) (len:=xs.length) (cap:=cap) J R T (fun _=>c5) c1 c2 (by simpa using c3) zSo af;refine⟨_,by simp only[Instr.sliceAt,Instr.slice,qE,run_underlying U,qG,i,yE C,zh];rfl,?_⟩;have hl:(g.getD 0).toNat<=(o.getD xs.length).toNat:=zOm;simp only[Option.getD_some];exact VRel.lstSub r ag hl zOm zOm zOm _ (fun hf=>by
      simp only[decide_eq_true_eq]at hf;omega)
    .exact absurd e zSp
  .rename_i b sz off len el U
   simp only at e;split at e
   .split at e
    .rename_i hc
     obtain⟨c1,c2,c3,c4,C⟩:=hc;simp only[qj]at e;subst e;cases r with
     |sl _ _ _ _ p a4 cap hb ht hl =>
     have i:=Qj (P:=P) (w:=w) (isSlice:=true) (len:=len) (cap:=cap) J R T zSp c1 c2 zSo zSp hl;refine⟨_,by simp only[Instr.sliceAt,Instr.slice,qE,run_underlying U,qG,i,yE C,zh];rfl,?_⟩;simp only[Option.getD_none,Int.toNat_natCast];have e1:(if cap=(g.getD 0).toNat then some (⟨p,off,none⟩:Addr) else (some (⟨p,off,none⟩:Addr)).map (·.add ((g.getD 0).toNat*sz)))=some ⟨p,off+(g.getD 0).toNat*sz,none⟩:=by
      split
      .rename_i aj
       have:(g.getD 0).toNat=0:=zOm;simp[this]
      .simp only[qS,Addr.add]
       split<;>simp_all
     rw[e1,show (o.getD (len:Int)).toNat-(g.getD 0).toNat=(o.getD (len:Int)-g.getD 0).toNat by omega];refine .sl b sz _ _ p a4 _ hb ?_ zOm;have aw:(g.getD 0).toNat<=cap:=zOm;refine zV (Nat.le_of_eq ?_) ht;rw[Nat.add_assoc,<-Nat.add_mul];congr 2;omega
    .exact absurd e zSp
   .exact absurd e zSp
  .rename_i cs n el U
   simp only at e;split at e
   .split at e
    .rename_i hc
     obtain⟨c1,c2,c3,c4,C,ax⟩:=hc;simp only[qj]at e;subst e;cases r with
     |ip _ a arr e' fr rd hb hs hi hr hv =>
     obtain⟨ab,ao,ay⟩:=a;simp only at hb hs hi hr;subst hs;have i:=Qj (P:=P) (w:=w) (isSlice:=false) (len:=n) (cap:=n) J R T zSp c1 c2 zSo zSp (qn n);refine⟨_,by simp only[Instr.sliceAt,Instr.sureAddr,qE,run_underlying U,qG,i,yE C,zh];rfl,?_⟩;simp only[Option.getD_none,Int.toNat_natCast,Nat.mul_one];have e1:(some (if n=(g.getD 0).toNat then (⟨ab,ao,none⟩:Addr) else (⟨ab,ao,none⟩:Addr).add (g.getD 0).toNat))=some ⟨ab,ao+(g.getD 0).toNat,none⟩:=by
      split
      .rename_i aj
       have:(g.getD 0).toNat=0:=zOm;simp[this]
      .simp only[Addr.add]
       split<;>simp_all
     rw[e1];have I:(((cs.take (o.getD (n:Int)).toNat).drop (g.getD 0).toNat).map fun c=>[c]).length=(o.getD (n:Int)).toNat-(g.getD 0).toNat:=by
      simp only[zJ,List.length_drop,vH];omega
     have a5:∀ l:List AV,(l.map fun c=>[c]).flatten=l:=by
      intro l;induction l with
      |nil=>rfl
      |cons x l ih=>simp[ih]
     by_cases h0:(o.getD (n:Int)).toNat-(g.getD 0).toNat=0
     .rw [h0]
      have:(((cs.take (o.getD (n:Int)).toNat).drop (g.getD 0).toNat).map fun c=>[c])=[]:=vE (by rw[I,h0]);rw[this];exact .emp _ _ _ (fun h=>by rw[decide_eq_true_eq]at h;omega)
     .rw [<-I]
      have a3:∀(k:Nat) x,(((cs.take (o.getD (n:Int)).toNat).drop (g.getD 0).toNat).map fun c=>[c]).flatten[k]?=some x->cs[(g.getD 0).toNat+k]?=some x:=by
       intro k x hx;rw[a5,y7,y6]at hx;split at hx
       .exact hx
       .exact absurd hx zSp
      refine .lst _ _ 1 ⟨ab,ao+(g.getD 0).toNat,none⟩ _ arr e' fr (fun k=>rd ((g.getD 0).toNat+k)) hb rfl (by rw[I];omega) (fun h=>by rw[decide_eq_true_eq]at h;rw[I];omega) hi ?_ ?_ ?_
      .intro r aq
       obtain⟨c,_,rfl⟩:=qk.1 aq;rfl
      .intro k x hx
       have:=hr _ x (a3 k x hx);simpa[Nat.add_assoc] using this
      .intro k x hx
       exact hv _ x (a3 k x hx)
    .exact absurd e zSp
   .exact absurd e zSp
  .rename_i b off n el U
   split at e
   .split at e
    .rename_i hc
     obtain⟨rfl,c1,c2,c3,c4⟩:=hc;obtain⟨sz,C⟩:=Option.isSome_iff_exists.1 c4;simp only[qj]at e;subst e;cases r with
     |ptr _ _ p a4 hb =>
     have i:=Qj (P:=P) (w:=w) (isSlice:=false) (len:=n) (cap:=n) J R T zSp zOm zOm zSo zSp (qn n);refine⟨_,by simp only[Instr.sliceAt,Instr.sureAddr,qE,run_underlying U,qG,i,yE C,zh];rfl,?_⟩;simp only[Option.getD_none,Int.toNat_natCast,c1,Int.toNat_zero,Nat.zero_mul,Nat.sub_zero];have e1:(some (if n=0 then (⟨p,0,none⟩:Addr) else (⟨p,0,none⟩:Addr).add 0))=some ⟨p,0,none⟩:=by
      split
      .rfl
      .simp only[Addr.add]
       split<;>simp_all
     rw[e1];exact .sl b 0 0 _ p a4 n hb zSp zOm
    .exact absurd e zSp
   .exact absurd e zSp
  .rename_i s U
   cases r;simp only at e;split at e
   .split at e
    .rename_i hc
     obtain⟨c1,c2,c3⟩:=hc;simp only[qj]at e;subst e;rcases T with ⟨_,rfl⟩|⟨_,_,h,_⟩
     .have i:=Qj (P:=P) (w:=w) (isSlice:=false) (len:=s.size) (cap:=s.size) J R (mx:=none) (vmx:=none) (.inl ⟨rfl,rfl⟩) zSp c1 c2 (by simp<;>omega) zSp (qn _)
      exact⟨_,by simp only[Instr.sliceAt,Instr.slice,qE,run_underlying U,qG,i,zh,Option.isSome_none,Bool.false_eq_true,if_false],.sc _ rfl⟩
     .exact absurd h zSp
    .exact absurd e zSp
   .exact absurd e zSp
  .exact absurd e zSp
 .exact absurd e zSp
end
end Go.Ev
namespace Go.Ev
open Go Go.RowKit
theorem qaI(off:Nat):∀(l:List j3) (s:Nat) (cs:Array j3),((l.zipIdx s).foldl (fun (cs:Array j3) (x:j3×Nat)=>cs.setIfInBounds (off+x.2) x.1) cs).size=cs.size:=by
 intro l;induction l with
 |nil=>intro s cs;rfl
 |cons y j g=>intro s cs;simp only[List.zipIdx_cons,List.foldl_cons,g];simp
theorem qaJ(off:Nat):∀(l:List j3) (s:Nat) (cs:Array j3) (k:Nat),off+s+l.length<=cs.size ->
  ((l.zipIdx s).foldl (fun (cs:Array j3) (x:j3×Nat)=>cs.setIfInBounds (off+x.2) x.1) cs).getD k va =
   if off+s<=k/\k<off+s+l.length then l.getD (k-(off+s)) va else cs.getD k va:=by
 intro l;induction l with
 |nil=>intro s cs k _;rw[if_neg (by simp only[List.length_nil];omega)];simp
 |cons y j i =>
  intro s cs k h;simp only[zq]at h;simp only[List.zipIdx_cons,List.foldl_cons];rw[i (s+1) _ k zSo];by_cases g:off+(s+1)<=k/\k<off+(s+1)+j.length
  .rw [if_pos g,if_pos (by simp only[zq];omega)]
   rw[show k-(off+s)=(k-(off+(s+1)))+1 by omega];simp
  .rw [if_neg g]
   by_cases o:k=off+s
   .subst o
    rw[if_pos (by simp only[zq];omega)];simp[qB,show off+s<cs.size by omega]
   .rw [if_neg (by simp only[zq];omega)]
    simp only[qB];rw[Array.getElem?_setIfInBounds_ne zOm]
@[go_sem] def u5(place:Nat->Option (Nat×Nat))(cells:List AV):List (Nat×AV)->Option (List AV)
 | []=>some cells
 | (i,v) :: g =>
  match place i with
  |none=>none
  |some (off,size)=>if v.cells.length=size/\off+size<=cells.length/\v.cells.all AV.one=true then u5 place (putCells cells off v.cells) g else none
theorem XW(cells:List AV)(off:Nat)(xs:List AV)(h:off+xs.length<=cells.length):(putCells cells off xs).length=cells.length:=by
 rw[yq _ _ _ h];simp;omega
theorem qaK(cells:List AV)(off:Nat)(xs:List AV)(h:off+xs.length<=cells.length)(k:Nat) :
  (putCells cells off xs)[k]?=if off<=k/\k<off+xs.length then xs[k-off]? else cells[k]?:=by
 rw[yq _ _ _ h,zc];by_cases g:k<off
 .rw [zIn,qI zSo,y6,if_pos g]
 .have i:(cells.take off).length=off:=by simp;omega
  rw[qT zOm,i];by_cases j:k<off+xs.length
  .rw [if_pos zOm,zGa]
  .rw [zIn,qT zOm,y7]
   congr 1;omega
def ZC(G:Gh)(h:Array Obj):List (Nat×AV)->List (Nat×j3)->Prop
 | [],[]=>True
 | (i,x) :: g,(j,v) :: l=>i=j/\VRel G h x v/\ZC G h g l
 |_,_=>False
theorem XX{G:Gh}{h:Array Obj}{place:Nat->Option (Nat×Nat)}:∀(ps:List (Nat×AV)) (l:List (Nat×j3)) (cells:List AV) (arr:Array j3) (z:List AV),ZC G h ps l ->
  arr.size=cells.length->(∀(k:Nat) x,cells[k]?=some x->VRel G h x (arr.getD k va))->u5 place cells ps=some z ->
  ∃ r,Instr.fill place arr l=some r/\r.size=z.length/\z.length=cells.length/\∀(k:Nat) x,z[k]?=some x->VRel G h x (r.getD k va):=by
 intro ps;induction ps with
 |nil =>
  intro l cells arr z t J P h;cases l with
  |nil =>
   simp only[u5,qj]at h;subst h;exact⟨arr,rfl,J,rfl,P⟩
  |cons=>exact t.elim
 |cons p ps ih =>
  intro l cells arr z t J P h;obtain⟨i,x⟩:=p;cases l with
  |nil=>exact t.elim
  |cons q l =>
   obtain⟨j,v⟩:=q;obtain⟨rfl,rx,t⟩:=t;simp only[u5]at h;split at h
   .exact absurd h zSp
   .rename_i off size R
    split at h
    .rename_i o
     obtain⟨c1,c2,c3⟩:=o;obtain⟨a0,g,T⟩:=rx.cells (fun c U=>by simpa using qJ.1 c3 c U);have hl:v.cells.toList.length=size:=zSo;obtain⟨r,h1,h2,h3,h4⟩:=ih l (putCells cells off x.cells) (v.cells.zipIdx.foldl (fun cs (x:j3×Nat)=>cs.setIfInBounds (off+x.2) x.1) arr) z t
      (by rw[XW _ _ _ zOm,<-Array.foldl_toList,Array.toList_zipIdx,qaI,J])
      (by
       intro k y C;rw[qaK _ _ _ zOm]at C;rw[<-Array.foldl_toList,Array.toList_zipIdx,qaJ off _ 0 arr k zOm];by_cases I:off<=k/\k<off+x.cells.length
       .rw [if_pos I]at C
        rw[if_pos zOm];have:=g _ y C;simpa[qB,q8] using this
       .rw [if_neg I]at C
        rw[zIn];exact P k y C) h
     refine⟨r,?_,h2,by rw[h3,XW _ _ _ zOm],h4⟩;simp only[Instr.fill,R];rw[if_neg zSo];exact h1
    .exact absurd h zSp
def y8(P:qf)(t:j1):Option (Nat->Option (Nat×Nat)):=
 match P.underlying t with
 |some (.array _ e)=>(szOf P e).map fun s=>fun i=>some (i*s,s)
 |some (.struct j)=>(j.toList.mapM (fun f=>(P.info? f.type).map fun i=>(f.offset,i.size))).map fun g=>fun i=>g.toArray[i]?
 |_=>none
@[go_sem] def ZD(P:qf)(t:j1)(ps:List (Nat×AV)):Option AV:=
 match qx P t,y8 P t with
 |some z,some place=>(u5 place z.cells ps).map .agg
 |_,_=>none
theorem ZE{G:Gh}{h:Array Obj}(v:j3)(g:∀ c,c∈(ofV v).cells->c.one=true) :
  v.cells.size=(ofV v).cells.length/\∀(k:Nat) x,(ofV v).cells[k]?=some x->VRel G h x (v.cells.getD k va):=
 let ⟨i,j,_⟩:=(VRel.ofV (G:=G) (h:=h) v).cells g
 ⟨i,j⟩
theorem qaL{P:qf}{G:Gh}{w:j2}{t:j1}{ps:List (Nat×AV)}{p:Array (Nat×j3)}{z:AV}(hp:ZC G w.heap ps p.toList)
  (hz:∀ y,qx P t=some y->y.cells.all AV.one=true) (e:ZD P t ps=some z):∃ u,(Instr.build t p).run P w = .ok u w/\VRel G w.heap z u:=by
 unfold ZD at e;split at e
 .rename_i T place j g
  cases hf:u5 place T.cells ps with
  |none=>simp[hf]at e
  |some r =>
   simp only[hf,qS,qj]at e;subst e;have I:=hz T j;unfold qx at j;cases l:P.info? t with
   |none=>simp[l]at j
   |some it =>
    simp only[l,Option.bind_some,yQ]at j;obtain⟨v,U,rfl⟩:=j;obtain⟨g1,g2⟩:=ZE (G:=G) (h:=w.heap) v (fun c hc=>by simpa using qJ.1 I c hc);obtain⟨cs,h1,h2,h3,h4⟩:=XX ps p.toList _ v.cells r hp g1 g2 hf;refine⟨.agg cs,?_,.agg _ _ h2 h4⟩;refine run_build w t p cs ?_;unfold y8 at g;unfold Program.built;split at g
    .rename_i n el J
     cases o:P.info? el with
     |none=>simp[szOf,o]at g
     |some ie =>
      simp only[szOf,o,qS,qj]at g;subst g;simp only[J,l,o,U];exact h1
    .rename_i fs J
     cases R:fs.toList.mapM (fun f=>(P.info? f.type).map fun i=>(f.offset,i.size)) with
     |none=>simp[R]at g
     |some C =>
      simp only[R,qS,qj]at g;subst g;simp only[J,l,U,R];exact h1
    .exact absurd g zSp
 .exact absurd e zSp
end Go.Ev
namespace Go.Ev
open Go Go.RowKit
section
variable {G:Gh}{xs:List (List AV)}{mu:Mu}{sz:Nat}{P:qf}{w:j2}
def zg(sz:Nat)(xs:List (List AV)):Prop:=∀ r,r∈xs->r.length=sz/\r.all AV.one=true
theorem zg.ok(h:zg sz xs):zX sz xs:=fun r g=>(h r g).1
theorem zg.one(h:zg sz xs):∀ c,c∈xs.flatten->c.one=true:=by
 intro c i;obtain⟨r,j,g⟩:=VT.1 i;exact by simpa using qJ.1 (h r j).2 c g
theorem V1(l:List j3)(k:Nat):l.toArray.getD k va=l.getD k va:=by
 simp[qB,q8]
theorem XY(s:Sim G mu w.heap){x:AV}{v:j3}(t:j1)(r:VRel G w.heap x v)(i:x.cells.all AV.one=true) :
  ∃ G',(newVar t v).run P w = .ok ⟨w.heap.size,0,none⟩ (w.alloc (.cells v.cells t))/\Stp G mu w G' (mu++[.arr x.cells]) (w.alloc (.cells v.cells t)) /\
   VRel G' (w.alloc (.cells v.cells t)).heap (.ptr mu.length 0) (.pointer (some ⟨w.heap.size,0,none⟩)):=by
 obtain⟨o,g,_⟩:=r.cells (fun c p=>by simpa using qJ.1 i c p);refine⟨_,rfl,Stp.allocNew s (.cells v.cells t) (.arr x.cells) v.cells.size ?_,.ptr _ 0 w.heap.size v.cells.size ?_⟩
 .intro _
  refine⟨v.cells,t,rfl,rfl,zOm,fun j y l=>⟨by simpa using qJ.1 i y (qZ l),g j y l⟩⟩
 .show (G.blk++[_])[mu.length]?=_
  rw[<-s.len];simp
theorem qaM(s:Sim G mu w.heap){x:AV}{v:j3}(t:j1)(r:VRel G w.heap x v)(j:x.cells.all AV.one=true) :
  ∃ G',(newVar t v).run P w = .ok ⟨w.heap.size,0,none⟩ (w.alloc (.cells v.cells t))/\Stp G mu w G' mu (w.alloc (.cells v.cells t)) /\
   VRel G' (w.alloc (.cells v.cells t)).heap (.ip x.cells) (.pointer (some ⟨w.heap.size,0,none⟩)):=by
 obtain⟨l,g,_⟩:=r.cells (fun c o=>by simpa using qJ.1 j c o);have st:=Stp.allocImm s (.cells v.cells t);refine⟨_,rfl,st,.ip _ _ v.cells t (0,0) (fun k=>v.cells.getD k va) (YR w _) rfl (.inr rfl) ?_ ?_⟩
 .intro k y i
  have:k<v.cells.size:=by have:=(qe.1 i).1;omega
  simp[qB,this]
 .intro k y i
  exact st.vrel s (g k y i)
theorem XZ(z:List AV)(n:Nat){k:Nat}{x:AV}(h:((zp n z).flatten)[k]?=some x):z[k % z.length]?=some x:=by
 induction n generalizing k with
 |zero=>simp at h
 |succ n i =>
  simp only[List.replicate_succ,un]at h;by_cases g:k<z.length
  .rw [qI g]at h
   rw[Nat.mod_eq_of_lt g];exact h
  .rw [qT zOm]at h
   have:=i h;rw[Nat.mod_eq_sub_mod zOm];exact this
theorem X0(z:List AV)(n:Nat):((zp n z).flatten).length=n*z.length:=by simp
@[go_sem] def Qk(sz:Nat):List (List AV)->List (Nat×AV)->Option (List (List AV))
 |rows,[]=>some rows
 |rows,(i,v) :: g=>if v.cells.length=sz/\i<rows.length/\v.cells.all AV.one=true then Qk sz (rows.set i v.cells) g else none
theorem ZF:∀(rows:List (List AV)) (i:Nat) (r:List AV),zX sz rows->r.length=sz->i<rows.length->(rows.set i r).flatten=putCells rows.flatten (i*sz) r:=by
 intro rows;induction rows with
 |nil=>intro i r _ _ h;simp at h
 |cons y j P =>
  intro i r o p R;have C:y.length=sz:=o y zSp;have I:(y :: j).flatten.length=(j.length+1)*sz:=zW (xs:=y :: j) o;cases i with
  |zero =>
   rw[yq _ _ _ (by rw[I,p,Nat.succ_mul];omega)];simp[p,<-C]
  |succ i =>
   simp only[List.set_cons_succ,un];have t:i<j.length:=zUs R;have l:zX sz j:=fun r p=>o r (zP1 p)
   rw[P i r l p t];have J:i*sz+r.length<=j.flatten.length:=by
    rw[zW l,p];have:(i+1)*sz<=j.length*sz:=Nat.mul_le_mul_right _ t;rw[Nat.succ_mul]at this;exact this
   rw[yq _ _ _ J,yq _ _ _ (by simp only[qU,C,Nat.succ_mul];omega)];rw[Nat.succ_mul,Nat.add_comm (i*sz) sz,<-C];rw[List.take_append,List.drop_append];have t1:List.take (y.length+i*y.length) y=y:=zK zOm;have d1:List.drop (y.length+(i*y.length+r.length)) y=[]:=List.drop_eq_nil_of_le zOm;simp[Nat.add_assoc,t1,d1]
theorem qaN:∀(ps:List (Nat×AV)) (rows g:List (List AV)),zX sz rows->Qk sz rows ps=some g ->
  u5 (fun i=>some (i*sz,sz)) rows.flatten ps=some g.flatten/\zX sz g/\g.length=rows.length:=by
 intro ps;induction ps with
 |nil =>
  intro rows g j h;simp only[Qk,qj]at h;subst h;exact⟨rfl,j,rfl⟩
 |cons p ps t =>
  intro rows g j h;obtain⟨i,v⟩:=p;simp only[Qk]at h;split at h
  .rename_i C
   obtain⟨c1,c2,c3⟩:=C;have l:zX sz (rows.set i v.cells):=by
    intro r I;rcases List.mem_or_eq_of_mem_set I with h|h
    .exact j r h
    .subst h;exact c1
   obtain⟨J,P,R⟩:=t _ g l h;refine⟨?_,P,by rw[R];simp⟩;simp only[u5];have o:i*sz+sz<=rows.flatten.length:=by
    rw[zW j];have:(i+1)*sz<=rows.length*sz:=Nat.mul_le_mul_right _ c2;rw[Nat.succ_mul]at this;exact this
   rw[if_pos ⟨c1,o,c3⟩,<-ZF rows i v.cells j c1 c2];exact J
  .exact absurd h zSp
@[go_sem] def ZG(P:qf)(t:j1)(len:Nat)(ps:List (Nat×AV)):Option AV:=
 match qz P t with
 |some (e,p,_) =>
  match qx P e with
  |some z=>if len*p<=16777216/\z.cells.length=p/\z.cells.all AV.one=true then (Qk p (zp len z.cells) ps).map (.lst true) else none
  |none=>none
 |none=>none
theorem Ja{t:j1}{z:AV}(h:qx P t=some z):∃ i v,P.info? t=some i/\i.zero=some v/\z=ofV v:=by
 unfold qx at h;cases g:P.info? t with
 |none=>simp[g]at h
 |some it =>
  simp only[g,Option.bind_some,yQ]at h;obtain⟨v,j,rfl⟩:=h;exact⟨it,v,rfl,j,rfl⟩
theorem VRel.newLst{h:Array Obj}{b cap:Nat}{cs:Array j3}{e:j1}{g:Nat×Nat}(full:Bool)(i:h[b]?=some (.cells cs e g))(j:xs.length<=cap)(l:full=true->cap=xs.length)
  (o:G.imm b) (p:zX sz xs) (C:xs.flatten.length<=cs.size) (r:∀(k:Nat) x,xs.flatten[k]?=some x->VRel G h x (cs.getD k va)):VRel G h (.lst full xs) (.slice (some ⟨b,0,none⟩) xs.length cap):=by
 refine .lst full xs sz ⟨b,0,none⟩ cap cs e g (fun k=>cs.getD k va) i rfl j l o p ?_ r;intro k x t;have:k<cs.size:=by have:=(qe.1 t).1;omega
 simp[qB,this]
theorem X1{z:Array j3}{n k:Nat}(g:k<n)(i:0<z.size):(((Array.range n).map (z[· % z.size]!)).getD k va)=z.getD (k % z.size) va:=by
 have j:k % z.size<z.size:=Nat.mod_lt _ i;simp[qB,g,j,getElem!_pos]
theorem qaO(s:Sim G mu w.heap){t:j1}{len:Nat}{ps:List (Nat×AV)}{vs:Array (Nat×j3)}{x:AV}(hp:ZC G w.heap ps vs.toList)
  (e:ZG P t len ps=some x):Good P G mu w (Instr.buildSlice t len vs) x mu:=by
 unfold ZG at e;split at e
 .rename_i el p bt hs
  split at e
  .rename_i z hz
   split at e
   .rename_i hc
    obtain⟨c1,c2,c3⟩:=hc;cases o:Qk p (zp len z.cells) ps with
    |none=>simp[o]at e
    |some rows =>
     simp only[o,qS,qj]at e;subst e;obtain⟨a7,hu,C,a0,a8⟩:=jT hs;have a1:szOf P el=some p:=by simp[szOf,C,a0]
     obtain⟨it,l,a2,a3,rfl⟩:=Ja hz;have I:zX p (zp len (ofV l).cells):=by
      intro r o;rw[List.eq_of_mem_replicate o];exact c2
     obtain⟨f1,f2,f3⟩:=qaN ps _ rows I o;have g:=ZE (G:=G) (h:=w.heap) l (fun c hc=>by simpa using qJ.1 c3 c hc);have i:((zp len (ofV l).cells).flatten).length=len*p:=by rw[X0,c2]
     obtain⟨arr,T,k2,k3,k4⟩:=XX (G:=G) (h:=w.heap) ps vs.toList _ ((Array.range (len*p)).map ((if len*p=0 then #[] else l.cells)[· % (if len*p=0 then #[] else l.cells).size]!)) _ hp (by simp[i])
      (by
       intro k y U;have a4:k<len*p:=by rw[<-i];exact(qe.1 U).1
       have J:¬len*p=0:=zOm;have:=XZ _ _ U;rw[c2]at this;simp only[if_neg J];have R:l.cells.size=p:=by rw[g.1,c2]
       rw[X1 a4 (by have hz:p≠0:=(by intro h0;subst h0;simp at J);omega),R];exact g.2 _ y this) f1
     have st:=Stp.allocImm s (.cells arr el);have j:rows.length=len:=by rw[f3];simp
     refine⟨.slice (some ⟨w.heap.size,0,none⟩) len len,_,_,?_,st,?_⟩
     .have a5:(zeroValue el).run P w = .ok l w:=by simp[zeroValue,typeInfo,a2,a3]
      have a6:¬(len*p > 2 ^ 24):=zOm;simp only[Instr.buildSlice,qE,run_underlying hu,qG,yE a1,if_neg a6];by_cases h0:len*p=0
      .simp only[if_pos h0]at T⊢
       simp only[qE,qG,zh,T,newRow,run_newObj];rfl
      .simp only[if_neg h0]at T⊢
       simp only[qE,a5,qG,zh,T,newRow,run_newObj];rfl
     .have:=VRel.newLst (G:=⟨fun b=>G.imm b\/b=w.heap.size,G.blk⟩) (h:=(w.alloc (.cells arr el)).heap) (xs:=rows) (sz:=p) (b:=w.heap.size) (cap:=len) true (YR w _) zOm (fun _=>j.symm) (.inr rfl) f2 zOm
       (fun k y U=>st.vrel s (k4 k y U))
      rw[j]at this;exact this
   .exact absurd e zSp
  .exact absurd e zSp
 .exact absurd e zSp
end
end Go.Ev
namespace Go.Ev
open Go Go.RowKit
theorem Stp.move{G:Gh}{mu:Mu}{w:j2}(s:Sim G mu w.heap)(i:Nat)(c:Cell)(r o:Nat)(hc:mu[i]?=some c)(hd:c ≠ .dead)(hk:G.blk[i]?=some (r,o)) :
  Stp G mu w ⟨G.imm,G.blk++[(r,o)]⟩ (mu.set i .dead++[c]) w:=by
 have R:G.le ⟨G.imm,G.blk++[(r,o)]⟩:=⟨fun b h=>h,fun j x h=>by
  have:j<G.blk.length:=(qe.1 h).1;show (G.blk++[_])[j]?=_;rw[qI this];exact h⟩
 have a4:=s.len;have a0:(mu.set i Cell.dead).length=mu.length:=zSp
 have C:∀(j:Nat) (l:Cell) b t,(mu.set i Cell.dead++[c])[j]?=some l->l ≠ .dead->(G.blk++[(r,o)])[j]?=some (b,t) ->
   (j<mu.length/\j≠i/\mu[j]?=some l/\G.blk[j]?=some (b,t))\/(j=mu.length/\l=c/\b=r/\t=o):=by
  intro j l b t J g P;rcases zy J with ⟨I,p⟩|⟨I,p⟩
  .rcases jy p with ⟨_,h⟩|⟨a1,h⟩
   .exact absurd h g
   .rcases zy P with ⟨_,h'⟩|⟨h',_⟩
    .exact .inl ⟨zOm,a1,h,h'⟩
    .omega
  .rcases zy P with ⟨h',_⟩|⟨_,h'⟩
   .omega
   .obtain ⟨rfl,rfl⟩:=Prod.mk.inj h'
    exact .inr ⟨zOm,p,rfl,rfl⟩
 refine⟨R,⟨by simp[s.len],s.imm,?_,?_,?_,s.tab⟩,fun _ _ _=>rfl,qn _,?_,fun b h => .inl h,rfl,rfl,rfl,qn _⟩
 .intro j l b t J g P
  rcases C j _ b t J g P with ⟨_,_,I,p⟩|⟨_,rfl,rfl,rfl⟩
  .obtain ⟨o',g1,g2⟩:=s.obj j l b t I g p
   exact⟨o',g1,g2.le R⟩
  .obtain ⟨o',g1,g2⟩:=s.obj i l b t hc hd hk
   exact⟨o',g1,g2.le R⟩
 .intro j l b t J g P
  rcases C j _ b t J g P with ⟨_,_,I,p⟩|⟨_,rfl,rfl,rfl⟩
  .exact s.live j l b t I g p
  .exact s.live i l b t hc hd hk
 .intro j k l ck b t t' J a2 g T U a3
  rcases C j _ b t J g U with ⟨l1,n1,I,p⟩|⟨l1,e1,e2,e3⟩<;>rcases C k _ b t' a2 T a3 with ⟨l2,n2,h3,h4⟩|⟨l2,e4,e5,e6⟩
  .exact s.inj j k l ck b t t' I h3 g T p h4
  .subst e5
   exact absurd (s.inj j i l c b t o I hc g hd p hk) n1
  .subst e2
   exact absurd (s.inj k i ck c b t' o h3 hc T hd h4 hk) n2
  .omega
 .intro b P
  obtain⟨j,l,t,J,g,U⟩:=P;rcases C j _ b t J g U with ⟨_,_,I,p⟩|⟨_,rfl,rfl,rfl⟩
  .exact .inl ⟨j,l,t,I,g,p⟩
  .exact .inl ⟨i,l,t,hc,hd,hk⟩
@[go_sem] def ZH(n:Nat)(z:List AV):List AV:=
 match z with
 | [x]=>zp n x
 |z=>(zp n z).flatten
theorem X2(n:Nat)(z:List AV):ZH n z=(zp n z).flatten:=by
 unfold ZH;split
 .rename_i x
  induction n with
  |zero=>rfl
  |succ n g=>simp only[List.replicate_succ,un,<-g];rfl
 .rfl
@[go_sem] def Ql(P:qf)(mu:Mu)(t:j1)(len cap:AV):Option (AV×Mu):=
 match len,cap,qz P t with
 | .sc (.int .i64 l),.sc (.int .i64 c),some (e,p,g) =>
  match qx P e with
  |some z=>if 0<=l/\l<=c/\c<=4294967296/\g<=16384/\z.cells.length=p/\z.cells.all AV.one=true/\p≠0 then
    some (.sl mu.length p 0 l.toNat,mu++[.arr (ZH l.toNat z.cells)]) else none
  |none=>none
 |_,_,_=>none
theorem Jb{n:Int}(g : -9223372036854775808<=n)(i:n<=9223372036854775807):qs.wrap n=n:=IntWalk.i64_in n ⟨g,i⟩
theorem zWr{x:Int}(g:-9223372036854775808<=x:=by omega)(i:x<=9223372036854775807:=by omega):qs.wrap x=x:=Jb g i
theorem zWk(k:Nat)(g:-9223372036854775808<=(k:Int)+1:=by omega)(i:(k:Int)+1<=9223372036854775807:=by omega):qs.wrap ((k:Int)+1)=(k:Int)+1:=Jb g i
theorem qaP{P:qf}{G:Gh}{mu I:Mu}{w:j2}(s:Sim G mu w.heap){t:j1}{len cap x:AV}{vl vc:j3}(rl:VRel G w.heap len vl)(rc:VRel G w.heap cap vc)
  (e:Ql P mu t len cap=some (x,I)):Good P G mu w (Instr.makeSlice t vl vc) x I:=by
 unfold Ql at e;split at e
 .rename_i l c el p bt hs
  cases rl;cases rc;split at e
  .rename_i z hz
   split at e
   .rename_i U
    obtain⟨c1,c2,c3,c4,c5,c6,c7⟩:=U;simp only[qj,vf]at e;obtain⟨rfl,rfl⟩:=e;obtain⟨i,hu,o,a0,a1⟩:=jT hs;have a2:szOf P el=some p:=by simp[szOf,o,a0]
    obtain⟨it,r,a3,a4,rfl⟩:=Ja hz;have g:=ZE (G:=G) (h:=w.heap) r (fun c U=>by simpa using qJ.1 c6 c U);have a5:(zeroValue el).run P w = .ok r w:=by simp[zeroValue,typeInfo,a3,a4]
    have a6:qs.wrap l=l:=zWr;have a7:qs.wrap c=c:=zWr;have ab:((i.bytes:Nat):Int)*c<=2 ^ 48:=by
     rw[a1];have h1:(bt:Int)*c<=16384*4294967296:=Int.mul_le_mul zOm zOm zOm zOm;omega
    have J:r.cells.size=p:=by rw[g.1,c5]
    let arr:Array j3:=(Array.range (c.toNat*p)).map ((if c.toNat*p=0 then #[] else r.cells)[· % (if c.toNat*p=0 then #[] else r.cells).size]!)
    have R:arr.size=c.toNat*p:=by simp[arr]
    have ad:l.toNat*p<=c.toNat*p:=Nat.mul_le_mul_right _ zOm;have a8:(ZH l.toNat (ofV r).cells).length=l.toNat*p:=by rw[X2,X0,c5]
    have st:=Stp.allocNew s (.cells arr el) (.arr (ZH l.toNat (ofV r).cells)) (c.toNat*p) (by
     intro _;refine⟨arr,el,rfl,R,zOm,fun j y hj=>?_⟩;have ae:j<l.toNat*p:=by rw[<-a8];exact(qe.1 hj).1
     have a9:¬c.toNat*p=0:=zOm;rw[X2]at hj;have hy:=XZ _ _ hj;refine⟨by simpa using qJ.1 c6 y (qZ hy),?_⟩;have:=g.2 _ y hy;simp only[arr,if_neg a9];rw[X1 zOm zOm,J,<-c5];exact this)
    refine⟨.slice (some ⟨w.heap.size,0,none⟩) l.toNat c.toNat,_,_,?_,st,?_⟩
    .have aa:(typeInfo el).run P w = .ok i w:=by simp[typeInfo,o]
     have n1:¬(((i.bytes:Nat):Int)*c > 2 ^ 48):=zOm;have C:((decide (c<0)||decide (((i.bytes:Nat):Int)*c > 2 ^ 48))||decide (l<0)||decide (l > c))=false:=by
      simp only[Bool.or_eq_false_iff,decide_eq_false_iff_not];exact⟨⟨⟨zOm,n1⟩,zOm⟩,zOm⟩
     simp only[Instr.makeSlice,qE,run_underlying hu,qG,asInt,asIntOf,zh,aa,a6,a7,C,Bool.false_eq_true,if_false,run_askRoom,yE a2];by_cases T:c.toNat*p=0
     .simp only[if_pos T,qE,zh,qG,newRow,run_newObj]
      simp only[arr,if_pos T];rfl
     .simp only[if_neg T,qE,a5,zh,qG,newRow,run_newObj]
      simp only[arr,if_neg T];rfl
    .refine .sl _ p 0 _ w.heap.size (c.toNat*p) c.toNat ?_ zOm zOm
     show (G.blk++[_])[mu.length]?=_;rw[<-s.len];simp
   .exact absurd e zSp
  .exact absurd e zSp
 .exact absurd e zSp
end Go.Ev
namespace Go.Ev
open Go Go.RowKit
section
variable {P:qf}{w:j2}
def qH(mu:Mu):AV->Option (List (List AV))
 | .lst _ g=>some g
 | .sl b p off len=>match mu[b]? with
  |some (.arr cells)=>if off+len*p<=cells.length then some ((qo len).map fun i=>(cells.drop (off+i*p)).take p) else none
  |_=>none
 |_=>none
theorem V2(sz:Nat):∀(len:Nat) (cells:List AV),len*sz<=cells.length->((qo len).map fun i=>(cells.drop (i*sz)).take sz).flatten=cells.take (len*sz):=by
 intro len;induction len with
 |zero=>intro cells _;simp
 |succ n g =>
  intro cells h;rw[List.range_succ,zd,List.flatten_append,g cells (by rw[Nat.succ_mul]at h;omega)];simp only[List.map_cons,List.map_nil,un,List.flatten_nil,List.append_nil,Nat.succ_mul];rw[List.take_add]
theorem Jc{G:Gh}{mu:Mu}(s:Sim G mu w.heap){x:AV}{v:j3}{ys:List (List AV)}{sz:Nat}(r:VRel G w.heap x v)(h:qH mu x=some ys)(R:zg sz ys) :
  ∃(a:Option Addr) (cap:Nat) (news:List j3),v = .slice a ys.length cap/\news.length=ys.length*sz/\(∀ u∈news,u.oneCell'=true) /\
   (∀(k:Nat) y,ys.flatten[k]?=some y->VRel G w.heap y (news.getD k va))/\(Builtin.firstCells sz ys.length v).run P w = .ok news.toArray w/\(Builtin.firstCells sz ys.length v).run P w.drew = .ok news.toArray w.drew:=by
 have fin:∀(a:Addr) (cap:Nat) (rd:Nat->j3),(∀(k:Nat) y,ys.flatten[k]?=some y->w.cell? (a.add k)=some (rd k)/\VRel G w.heap y (rd k))->v = .slice (some a) ys.length cap ->
   ∃(a:Option Addr) (cap:Nat) (news:List j3),v = .slice a ys.length cap/\news.length=ys.length*sz/\(∀ u∈news,u.oneCell'=true) /\
   (∀(k:Nat) y,ys.flatten[k]?=some y->VRel G w.heap y (news.getD k va))/\(Builtin.firstCells sz ys.length v).run P w = .ok news.toArray w/\(Builtin.firstCells sz ys.length v).run P w.drew = .ok news.toArray w.drew:=by
  intro a cap rd T U;subst U;have o:=zW R.ok;have t:∀ k,k<ys.length*sz->∃ y,ys.flatten[k]?=some y:=fun k hk=>⟨ys.flatten[k]' zOm,by simp[o,hk]⟩
  refine⟨some a,cap,(qo (ys.length*sz)).map rd,rfl,zSp,?_,?_,?_,?_⟩
  .intro u hu
   obtain⟨k,hk,rfl⟩:=qk.1 hu;obtain⟨y,l⟩:=t k (zUs hk);exact(T k y l).2.one (R.one y (qZ l))
  .grind
  .grind [Builtin.firstCells,run_loadCells]
  .simp only[Builtin.firstCells]
   exact run_loadCells w.drew a _ rd (fun j hj=>by simp_all)
 unfold qH at h;split at h
 .rename_i full g
  simp only[qj]at h;subst h;cases r with
  |nil=>exact⟨none,0,[],rfl,zSp,zSp,zSp,by simp[Builtin.firstCells],by simp[Builtin.firstCells]⟩
  |emp _ a cap hc=>simp_all
  |lst _ _ i a cap cs e fr rd hb hs hl hc hi a2 hr U =>
   exact fin a cap rd (fun k y l=>⟨by rw[wG hb hs];exact hr k y l,U k y l⟩) rfl
 .rename_i b i off len
  split at h
  .rename_i cells hc
   split at h
   .rename_i a3
    simp only[qj]at h;cases r with
    |sl _ _ _ _ p a0 cap hb ht hl =>
    obtain⟨arr,e,h1,h2,h3,h4⟩:=s.arr b cells p a0 hc hb;have C:ys.length=len:=by rw[<-h];simp
    subst C;by_cases h0:ys.length=0
    .simp_all
    .have I:i=sz:=by
      have J:0<ys.length:=zOm;have hm:(cells.drop (off+0*i)).take i∈ys:=by
       rw[<-h];exact qk.2 ⟨0,zUs J,rfl⟩
      have:=(R _ hm).1;have a1:i<=ys.length*i:=Nat.le_mul_of_pos_left _ J;simp at this;omega
     subst I;have o:ys.flatten=(cells.drop off).take (ys.length*i):=by
      rw[<-h];have:=V2 i ys.length (cells.drop off) zSo;simp only[List.drop_drop]at this;simpa using this
     refine fin ⟨p,off,none⟩ cap (fun k=>arr.getD (off+k) va) (fun k y l=>?_) rfl;rw[o,y6]at l;split at l
     .rw [y7]at l
      refine⟨?_,(h4 _ y l).2⟩;rw[wG (a:=⟨p,off,none⟩) h1 rfl];have a4:off+k<cells.length:=(qe.1 l).1;have:off+k<arr.size:=zOm;simp[qB,this]
     grind
   grind
  grind
 grind
def y9(P:qf)(mu:Mu)(i:Array j1)(s x:AV)(K:AV->Mu->Prop):Prop:=
  ∃ t o e p r j,i=#[t,o]/\qz P t=some (e,p,r)/\(qz P o).isSome=true/\(∃ l,qx P e=some l/\l.cells.length=p/\l.cells.all AV.one=true)/\p≠0/\r<=16384/\qH mu x=some j/\zg p j /\
    ((∃ g,s = .lst true g/\zg p g/\g.length+j.length<=4294967296/\(j=[]->K s mu)/\(j≠[]->K (.sl mu.length p 0 (g.length+j.length)) (mu++[.arr (g++j).flatten]))) \/
     (∃ b len cells,s = .sl b p 0 len/\mu[b]?=some (.arr cells)/\len*p<=cells.length/\len+j.length<=4294967296 /\
        K (.sl mu.length p 0 (len+j.length)) (mu.set b .dead++[.arr (cells.take (len*p)++j.flatten)])))
theorem X3{t C ty e:j1}{i:TypeInfo}{d:j1}(I:P.underlying t=some (.slice e))(o:P.underlying C=some (.slice d))(J:P.info? e=some i)
  {base:Option Addr} {g j n cap:Nat} {a:Option Addr} {news:List j3} {w':j2}
  (hf:(Builtin.firstCells i.size n (.slice a n cap)).run P w = .ok news.toArray w) (l:g+n<=j)
  (p:∀ b,base=some b->(storeCells (b.add (g*i.size)) news).run P w = .ok () w') (r:base=none->w'=w) :
  (Builtin.append_ #[t,C] ty #[.slice base g j,.slice a n cap]).run P w = .ok (.slice base (g+n) j) w':=by
 cases base with
 |none =>
  have:=r rfl;subst this;simp[Builtin.append_,run_underlying I,run_underlying o,sizeOf,typeInfo,J,Builtin.lenOf,l,hf]
 |some b =>
  have:=p b rfl;simp[Builtin.append_,run_underlying I,run_underlying o,sizeOf,typeInfo,J,Builtin.lenOf,l,hf,this]
theorem qaQ{t I ty e:j1}{i:TypeInfo}{z:j3}{d:j1}(R:P.underlying t=some (.slice e))(r:P.underlying I=some (.slice d))(T:P.info? e=some i)(U:i.zero=some z)
  {base a:Option Addr} {g j n cap:Nat} {l news:List j3}
  (C:(Builtin.firstCells i.size g (.slice base g j)).run P w.drew = .ok l.toArray w.drew) (hf:(Builtin.firstCells i.size n (.slice a n cap)).run P w.drew = .ok news.toArray w.drew)
  (hg:j<g+n) (a0:((g+n:Nat):Int)<=9223372036854775807) (J:Builtin.nextslicecap (g+n) j*i.bytes<=281474976710656) :
  (Builtin.append_ #[t,I] ty #[.slice base g j,.slice a n cap]).run P w =
   .ok (.slice (some ⟨w.heap.size,0,none⟩) (g+n) (grownCap w (g+n) j e))
    (w.drew.alloc (.cells (l++(news++(yb z.cells (grownCap w (g+n) j e-(g+n))).toList)).toArray e)):=by
 have hn:¬(g+n<=j):=zOm;have o:¬(9223372036854775807<((g:Int)+(n:Int))):=zOm;have p:¬(281474976710656<Builtin.nextslicecap (g+n) j*i.bytes):=zOm;simp[Builtin.append_,run_underlying R,run_underlying r,sizeOf,typeInfo,zeroValue,T,U,Builtin.lenOf,hn,o,p,Question.forced,hf,C,newRow,grownCap];congr 2;apply Array.ext';simp
theorem X4(w:j2)(g i:Nat)(e:j1):g<=grownCap w g i e:=by
 simp only[grownCap,Question.cut];omega
theorem X5{g cap bt:Nat}(h:cap<g)(i:g<=4294967296)(j:bt<=16384):Builtin.nextslicecap g cap*bt<=281474976710656:=by
 refine growslice_fits h ?_;have:g*bt<=4294967296*16384:=Nat.mul_le_mul i j;omega
theorem X6{G:Gh}{mu:Mu}(s:Sim G mu w.heap){R:Array j1}{ty:j1}{sv xv:AV}{vs vx:j3}(rs:VRel G w.heap sv vs)(rx:VRel G w.heap xv vx){K:AV->Mu->Prop}
  (h:y9 P mu R sv xv K):∃ z l,K z l/\Good P G mu w (Builtin.append_ R ty #[vs,vx]) z l:=by
 obtain⟨t,t',e,p,bt,ys,rfl,aw,bm,⟨zv,ax,ay,az⟩,bn,b0,b1,aa,h⟩:=h;obtain⟨i,hu,hi,rfl,rfl⟩:=jT aw;obtain⟨d,ah⟩:∃ d,P.underlying t'=some (.slice d):=by
  grind [qz,jT]
 obtain⟨i',z,b2,hz,rfl⟩:=Ja ax;obtain rfl:i=i':=Option.some.inj (hi.symm.trans b2);have al:z.cells.size=i.size:=by rw[(ZE (G:=G) (h:=w.heap) z (fun c hc=>by simpa using qJ.1 az c hc)).1,ay]
 obtain⟨a,cap,C,rfl,ai,an,a6,hf,b3⟩:=Jc (P:=P) s rx b1 aa;have b4:=zW aa.ok
 have grow:∀(base:Option Addr) (o T:Nat) (I:List j3) (oc:List AV) (b5:Mu) (G1:Gh),o*i.size=oc.length->I.length=oc.length->(∀(k:Nat) y,oc[k]?=some y->y.one=true/\VRel G w.heap y (I.getD k va)) ->
   (Builtin.firstCells i.size o (.slice base o T)).run P w.drew = .ok I.toArray w.drew->T<o+ys.length->o+ys.length<=4294967296 ->
   Good P G mu w (Builtin.append_ #[t,t'] ty #[.slice base o T,.slice a ys.length cap]) (.sl mu.length i.size 0 (o+ys.length)) (mu++[.arr (oc++ys.flatten)]):=by
  intro base o T I oc b5 G1 b6 a3 U ab hg a7;have a2:=qaQ (ty:=ty) hu ah hi hz ab b3 hg zOm (X5 hg a7 b0);have b7:=X4 w (o+ys.length) T e;generalize grownCap w (o+ys.length) T e=gc at a2 b7;have b8:(yb z.cells (gc-(o+ys.length))).toList.length=(gc-(o+ys.length))*z.cells.size:=by simp[size_zeroCells]
  have sd:Sim G mu w.drew.heap:=s;have st:=Stp.allocNew sd (.cells (I++(C++(yb z.cells (gc-(o+ys.length))).toList)).toArray e) (.arr (oc++ys.flatten)) ((I++(C++(yb z.cells (gc-(o+ys.length))).toList)).length) (by
   intro _;refine⟨_,e,rfl,zSp,by simp only[qU];omega,fun j y hj=>?_⟩;rw[V1,q8];by_cases ad:j<oc.length
   .rw [qI ad]at hj
    rw[zGa,<-q8];exact U j y hj
   .rw [qT zOm]at hj
    rw[qT zOm,a3];have:j-oc.length<ys.flatten.length:=(qe.1 hj).1;rw[zGa,<-q8];exact⟨aa.one y (qZ hj),a6 _ y hj⟩)
  have ao:(I++(C++(yb z.cells (gc-(o+ys.length))).toList)).length=gc*i.size:=by
   simp only[qU,b8,al,a3,<-b6,ai,<-Nat.add_mul];congr 1;omega
  rw[ao]at st;refine⟨_,_,_,a2,(Stp.drew s).trans s st,?_⟩;refine .sl _ i.size 0 _ w.heap.size (gc*i.size) gc ?_ zOm zOm;show (G.blk++[_])[mu.length]?=_;rw[<-s.len];simp
 rcases h with ⟨g,rfl,aj,a7,b9,bb⟩|⟨b,len,cells,rfl,hc,aq,a7,hk⟩
 .obtain ⟨a0,af,I,rfl,a3,_,U,ab,a5⟩:=Jc (P:=P) s rs (ys:=g) rfl aj
  have ar:af=g.length:=by
   obtain⟨a1,c1,h1,_,h2,_⟩:=rs.lst_inv;cases h1;exact h2 rfl
  subst ar;by_cases hy:ys=[]
  .subst hy
   refine⟨_,_,b9 rfl,_,_,_,?_,Stp.refl s,rs⟩;have hn:C=[]:=vE (zUs ai);subst hn;exact X3 (ty:=ty) hu ah hi hf zSp (fun b hb=>rfl) (fun _=>rfl)
  .have bo:0<ys.length:=List.length_pos_iff.2 hy
   have au:=zW aj.ok;have:=grow a0 g.length g.length I g.flatten mu G au.symm (by rw[a3,au]) (fun k y hk=>⟨aj.one y (qZ hk),U k y hk⟩) a5 zOm a7;rw[<-List.flatten_append]at this;exact⟨_,_,bb hy,this⟩
 .refine ⟨_,_,hk,?_⟩
  have ak:qH mu (.sl b i.size 0 len)=some ((qo len).map fun j=>(cells.drop (j*i.size)).take i.size):=by
   simp only[qH,hc,yc];rw[if_pos aq]
  have bc:=rs;cases rs with
  |sl _ _ _ _ J ae a8 hb ht hl =>
  obtain⟨arr,e',h1,h2,h3,h4⟩:=s.arr b cells J ae hc hb;have av:zg i.size ((qo len).map fun j=>(cells.drop (j*i.size)).take i.size):=by
   intro r hr;obtain⟨j,hj,rfl⟩:=qk.1 hr;have be:j<len:=zUs hj;have:(j+1)*i.size<=len*i.size:=Nat.mul_le_mul_right _ be;rw[Nat.succ_mul]at this;refine⟨zSo,?_⟩;rw[qJ];intro c bg;obtain⟨k,hk⟩:=List.mem_iff_getElem?.1 (List.mem_of_mem_drop (vd bg));exact(h4 k c hk).1
  have bh:=V2 i.size len cells aq;obtain⟨a0,af,I,hv,a3,_,U,ab,a5⟩:=Jc (P:=P) s bc ak av;rw[bh]at U;simp only[zJ,List.length_range]at hv a3 ab a5;by_cases a4:len+ys.length<=a8
  ·
   have bq:len*i.size+C.length<=arr.size:=by
    have h5:=Nat.mul_le_mul_right i.size a4;rw[Nat.add_mul]at h5;rw[ai,h2];omega
   have a2:=run_storeCells_at P J (len*i.size) e' C 0 arr w h1 zOm an;simp only[Nat.add_zero]at a2;have bi:=X3 (ty:=ty) (w':=w.setRow J (arr.toList.take (len*i.size)++C++arr.toList.drop (len*i.size+C.length)).toArray) hu ah hi hf a4 (base:=some ⟨J,0,none⟩)
    (fun b' bj=>by
     cases bj;have:(⟨J,0,none⟩:Addr).add (len*i.size)=⟨J,len*i.size,none⟩:=by unfold Addr.add;split<;>simp_all
     rw[this];exact a2) zSp
   have st1:=Stp.write (w':=w.setRow J (arr.toList.take (len*i.size)++C++arr.toList.drop (len*i.size+C.length)).toArray) s b (.arr cells) (.arr (cells.take (len*i.size)++ys.flatten)) J ae
    (.cells (arr.toList.take (len*i.size)++C++arr.toList.drop (len*i.size+C.length)).toArray e' (0,0)) hc zSp zSp hb zSp (setRow_heap w J arr _ e' _ h1) (fun k hk=>setRow_other w J k _ hk) rfl rfl rfl
    (by
     have ag:(cells.take (len*i.size)).length=len*i.size:=zSo;have bk:(arr.toList.take (len*i.size)).length=len*i.size:=zSo;refine⟨_,e',rfl,zSo,by simp only[qU,ag,b4];omega,fun j y hj=>?_⟩;rw[V1,q8,zc];by_cases ad:j<len*i.size
     .rw [zGa,y6,if_pos ad]at hj
      rw[zGa,y6,if_pos ad,vC,<-qB];exact h4 j y hj
     .rw [qT zOm,ag]at hj
      rw[qT zOm,bk];have:j-len*i.size<ys.flatten.length:=(qe.1 hj).1;rw[zGa,<-q8];exact⟨aa.one y (qZ hj),a6 _ y hj⟩)
   have a9:b<mu.length:=(qe.1 hc).1;have st2:=Stp.move st1.sim b (.arr (cells.take (len*i.size)++ys.flatten)) J ae (zP1 a9) zSp hb;rw[List.set_set]at st2;refine⟨_,_,_,bi,st1.trans s st2,?_⟩;refine .sl _ i.size 0 _ J ae a8 ?_ ht a4;show (G.blk++[_])[mu.length]?=_;rw[<-s.len];simp
  .obtain ⟨v,w',G',k1,k2,k3⟩:=grow (some ⟨J,0,none⟩) len a8 I (cells.take (len*i.size)) mu G zSo (by rw[a3];simp;omega) (fun k y hk=>by
    refine⟨?_,U k y hk⟩;rw[y6]at hk;split at hk
    .exact (h4 k y hk).1
    .exact absurd hk zSp) a5 zOm a7
   have st2:=Stp.kill k2.sim b;have a9:b<mu.length:=(qe.1 hc).1;rw[List.set_append_left _ _ a9]at st2;exact⟨v,w',G',k1,k2.trans s st2,k3⟩
end
end Go.Ev
namespace Go.Ev
open Go Go.RowKit
section
variable {es:List (AV×AV)}{xs:List (List AV)}{cs:List AV}
structure St where
 tm:Nat->AV
 mu:Mu
def St.put(st:St)(d:Option Tmp)(v:AV)(m:Mu):St:=
 ⟨match d with|some d=>fun i=>if i=d then v else st.tm i|none=>st.tm,m⟩
def St.ev(st:St):uk->AV
 | .tmp t=>st.tm t
 | .const v=>ofV v
 | .global _ => .any
 | .func f => .fn (.func f) [] []
structure Pol where
 mt:List Nat:=[]
inductive AEnd where
 |ret (v:AV)
 |pan (v:AV)
def zz(G:Gh)(h:Array Obj)(args:List AV)(g:Array j3):Prop:=
 g.size=args.length/\∀(k:Nat) x,args[k]?=some x->VRel G h x (g.getD k va)
def yd(P:qf)(f:us):Prop:=∀(args:Array j3) (w:j2),(callFunc f args).run P w = .ok (.enter f args) w
def qL(P:qf)(f:us)(args:List AV)(mu:Mu)(R:AEnd->Mu->Prop):Prop:=yd P f /\
 ∀(G:Gh) (w:j2) (o:Array j3),Sim G mu w.heap->zz G w.heap args o ->
  Calls P f o w fun e i=>∃ j l,Stp G mu w j l i /\
   ((∃ r v,R (.ret r) l/\e = .returned v/\VRel j i.heap r v)\/(∃ r v,R (.pan r) l/\e = .panicked [{ v,recovered:=false }]/\VRel j i.heap r v))
structure ZI (B:Nat) (w w':j2):Prop extends Below B w w' where
 drawn:w.drawn<=w'.drawn
def qd(P:qf)(f:us)(args:List AV)(r:AV):Prop:=yd P f /\
 ∀(i:Nat->Prop) (w:j2) (l:Array j3),Sim ⟨i,[]⟩ [] w.heap->zz ⟨i,[]⟩ w.heap args l ->
  Calls P f l w fun e j=>∃ g v,e = .returned v/\(∀ b,i b->g b)/\(∀ b,g b->b<j.heap.size/\(i b\/w.heap.size<=b))/\ZI w.heap.size w j/\VRel ⟨g,[]⟩ j.heap r v
def qaR(P:qf)(f:us)(args:List AV)(r:AV):Prop:=yd P f /\
 ∀(g:Nat->Prop) (w:j2) (j:Array j3),Sim ⟨g,[]⟩ [] w.heap->zz ⟨g,[]⟩ w.heap args j ->
  Calls P f j w fun e i=>∃ l v,e = .returned v/\(∀ b,l b->w.heap.size<=b/\b<i.heap.size)/\ZI w.heap.size w i/\VRel ⟨l,[]⟩ i.heap r v
def HF(x:AV):Prop:=∀(G:Gh) (h:Array Obj) (v:j3),VRel G h x v->VRel ⟨G.imm,[]⟩ h x v
def FL(x:AV):Prop:=∀(G g:Gh) (h i:Array Obj) (v:j3),VRel G h x v->VRel g i x v
theorem HF.any:HF .any:=fun _ _ v _ => .any v
theorem HF.sc(v:j3):HF (.sc v):=fun _ _ u r=>by cases r with|sc _ g=>exact .sc _ g
theorem HF.agg(h:∀ c,c∈cs->HF c):HF (.agg cs):=fun G i u r=>by
 cases r with
 |agg _ o j l=>exact .agg _ _ j (fun k x g=>h x (qZ g) G i _ (l k x g))
theorem HF.tup(h:∀ c,c∈cs->HF c):HF (.tup cs):=fun G i u r=>by
 cases r with
 |tup _ o j l=>exact .tup _ _ j (fun k x g=>h x (qZ g) G i _ (l k x g))
theorem HF.ip(h:∀ c,c∈cs->HF c):HF (.ip cs):=fun G i u r=>by
 cases r with
 |ip _ a arr e j rd l o p t C=>exact .ip _ a arr e j rd l o p t (fun k x g=>h x (qZ g) G i _ (C k x g))
theorem HF.ifc{t:j1}{x:AV}(h:HF x):HF (.ifc t x):=fun G g u r=>by
 cases r with
 |ifc _ _ v i=>exact .ifc _ _ _ (h G g v i)
theorem HF.lst{full:Bool}(h:∀ r,r∈xs->∀ c,c∈r->HF c):HF (.lst full xs):=fun G j u r=>by
 cases r with
 |nil=>exact .nil _
 |emp _ a cap g=>exact .emp _ a cap g
 |lst _ _ p a cap l e o rd t C I g J P R T =>
  refine .lst _ _ p a cap l e o rd t C I g J P R (fun k x i=>?_);obtain⟨row,U,h2⟩:=VT.1 (qZ i);exact h row U x h2 G j _ (T k x i)
theorem HF.fn{f:Fn}{first caps:List AV}(j:∀ c,c∈first->HF c)(l:∀ c,c∈caps->HF c):HF (.fn f first caps):=fun G i u r=>by
 cases r with
 |fn _ _ _ o p t C I J=>exact .fn _ _ _ o p t C (fun k x g=>j x (qZ g) G i _ (I k x g)) (fun k x g=>l x (qZ g) G i _ (J k x g))
theorem HF.im(h:∀ p,p∈es->HF p.1/\HF p.2):HF (.im es):=fun G j u r=>by
 cases r with
 |im _ i ce clock l o t C I J=>exact .im _ i ce clock l o t (fun k x g=>(h x (qZ g)).1 G j _ (C k x g)) (fun k x g=>(h x (qZ g)).2 G j _ (I k x g)) J
theorem HF.ims(h:∀ p,p∈es->HF p.1/\HF p.2):HF (.ims es):=fun G C u r=>by
 cases r with
 |ims _ i I J _ g P r =>
  refine .ims _ i I J _ g P (HF.im (fun p l=>?_) G C _ r);obtain⟨j,o⟩:=List.mem_iff_getElem?.1 l;have t:j<es.length:=by rw[<-g.1];exact(qe.1 o).1
  rw[g.back t]at o;exact h p (qZ o)
theorem FL.sc(v:j3):FL (.sc v):=fun _ _ _ _ u r=>by cases r with|sc _ g=>exact .sc _ g
theorem FL.agg(h:∀ c,c∈cs->FL c):FL (.agg cs):=fun G j l g u r=>by
 cases r with
 |agg _ t o p=>exact .agg _ _ o (fun k x i=>h x (qZ i) G j l g _ (p k x i))
theorem FL.tup(h:∀ c,c∈cs->FL c):FL (.tup cs):=fun G j l g u r=>by
 cases r with
 |tup _ t o p=>exact .tup _ _ o (fun k x i=>h x (qZ i) G j l g _ (p k x i))
theorem FL.ifc{t:j1}{x:AV}(h:FL x):FL (.ifc t x):=fun G i j g u r=>by
 cases r with
 |ifc _ _ v l=>exact .ifc _ _ _ (h G i j g v l)
inductive Rd (mu:Mu):AV->AV->Prop
 |hf (x:AV) (h:HF x):Rd mu x x
 |sl (b sz off len:Nat) (cells:List AV) (ys:List (List AV)) (hc:mu[b]?=some (.arr cells)) (hl:off+len*sz<=cells.length) (hn:ys.length=len) (hz:zX sz ys)
   (h:∀(k:Nat) x y,cells[off+k]?=some x->ys.flatten[k]?=some y->Rd mu x y):Rd mu (.sl b sz off len) (.lst false ys)
 |ptr (b off:Nat) (cells ys:List AV) (hc:mu[b]?=some (.arr cells)) (hn:off+ys.length<=cells.length) (h:∀(k:Nat) x y,cells[off+k]?=some x->ys[k]?=some y->Rd mu x y):Rd mu (.ptr b off) (.ip ys)
 |mp (b:Nat) (es fs:List (AV×AV)) (hc:mu[b]?=some (.mp es)) (hn:fs.length=es.length) (hk:∀(k:Nat) x y,es[k]?=some x->fs[k]?=some y->Rd mu x.1 y.1) (hv:∀(k:Nat) x y,es[k]?=some x->fs[k]?=some y->Rd mu x.2 y.2):Rd mu (.mp b) (.im fs)
 |md (b:Nat) (es fs:List (AV×AV)) (hc:mu[b]?=some (.md es)) (hn:fs.length=es.length) (hk:∀(k:Nat) x y,es[k]?=some x->fs[k]?=some y->Rd mu x.1 y.1) (hv:∀(k:Nat) x y,es[k]?=some x->fs[k]?=some y->Rd mu x.2 y.2):Rd mu (.mp b) (.im fs)
 |agg (xs ys:List AV) (hn:ys.length=xs.length) (h:∀(k:Nat) x y,xs[k]?=some x->ys[k]?=some y->Rd mu x y):Rd mu (.agg xs) (.agg ys)
 |tup (xs ys:List AV) (hn:ys.length=xs.length) (h:∀(k:Nat) x y,xs[k]?=some x->ys[k]?=some y->Rd mu x y):Rd mu (.tup xs) (.tup ys)
 |lst (full:Bool) (xs ys:List (List AV)) (hn:ys.length=xs.length) (hz:∀(k:Nat) x y,xs[k]?=some x->ys[k]?=some y->x.length=y.length) (h:∀(k:Nat) x y,xs.flatten[k]?=some x->ys.flatten[k]?=some y->Rd mu x y):Rd mu (.lst full xs) (.lst full ys)
 |fn (f:Fn) (first first' caps caps':List AV) (hn:first'.length=first.length) (hm:caps'.length=caps.length) (h:∀(k:Nat) x y,first[k]?=some x->first'[k]?=some y->Rd mu x y) (h':∀(k:Nat) x y,caps[k]?=some x->caps'[k]?=some y->Rd mu x y) :
   Rd mu (.fn f first caps) (.fn f first' caps')
 |ifc (t:j1) (x y:AV) (h:Rd mu x y):Rd mu (.ifc t x) (.ifc t y)
 |wk (x:AV) (full:Bool) (ys:List (List AV)) (h:Rd mu x (.lst full ys)):Rd mu x (.lst false ys)
 |ims (x:AV) (es es':List (AV×AV)) (σ τ:Nat->Nat) (hp:PIx σ τ es es') (hd:(es.map Prod.fst).Nodup) (h:Rd mu x (.im es')):Rd mu x (.ims es)
theorem Rd.zsc{mu:Mu}(v:j3):Rd mu (.sc v) (.sc v):=.hf _ (HF.sc _)
theorem X7{ys:List (List AV)}(g:ys.length=xs.length)(i:∀(k:Nat) x y,xs[k]?=some x->ys[k]?=some y->x.length=y.length):xs.flatten.length=ys.flatten.length:=by
 induction xs generalizing ys with
 |nil=>cases ys with
  |nil=>rfl
  |cons=>simp at g
 |cons x xs j =>
  cases ys with
  |nil=>simp at g
  |cons y ys =>
   have l:=i 0 x y rfl rfl;have:=j (ys:=ys) (zUs g) (fun k a b o p=>i (k+1) a b (zUs o) (zUs p));simp only[un,qU,l,this]
theorem Rd.sound{G:Gh}{mu:Mu}{h:Array Obj}(s:Sim G mu h){x y:AV}(r:Rd mu x y):∀{v:j3},VRel G h x v->VRel ⟨fun b=>G.imm b\/Live G mu b,[]⟩ h y v:=by
 have a7:Gh.le ⟨G.imm,[]⟩ ⟨fun b=>G.imm b\/Live G mu b,[]⟩:=⟨fun b h => .inl h,fun _ _ h=>h⟩;induction r with
 |hf x o=>intro v r;exact(o G h v r).le a7
 |sl b p off len cells j P hl hn hz C R =>
  intro v r;subst hn;cases r with
  |sl _ _ _ _ I J cap U ht a5 =>
  obtain⟨arr,e,h1,h2,h3,h4⟩:=s.arr b cells I J P U;by_cases h0:j=[]
  .subst h0;exact .emp false _ cap zSp
  .have a6:=zW hz
   have l:∀(k:Nat) y,j.flatten[k]?=some y->∃ x,cells[off+k]?=some x:=by
    intro k y i;have hk:k<j.length*p:=by rw[<-a6];exact(qe.1 i).1
    exact⟨cells[off+k]' zOm,by simp[show off+k<cells.length by omega]⟩
   refine .lst false j p ⟨I,off,none⟩ cap arr e (0,0) (fun k=>arr.getD (off+k) va) h1 rfl a5 zSp (.inr ⟨b,_,J,P,zSp,U⟩) hz ?_ ?_
   .intro k y i
    obtain⟨x,o⟩:=l k y i;have:off+k<arr.size:=by have:=(qe.1 o).1;omega
    simp[qB,this]
   .intro k y i
    obtain⟨x,o⟩:=l k y i;exact R k x y o i (h4 _ x o).2
 |ptr b off cells j P hn C R =>
  intro v r;cases r with
  |ptr _ _ I J U =>
  obtain⟨arr,e,h1,h2,h3,h4⟩:=s.arr b cells I J P U;have l:∀(k:Nat) y,j[k]?=some y->∃ x,cells[off+k]?=some x:=by
   intro k y i;have hk:k<j.length:=(qe.1 i).1;exact⟨cells[off+k]' zOm,by simp[show off+k<cells.length by omega]⟩
  refine .ip j ⟨I,off,none⟩ arr e (0,0) (fun k=>arr.getD (off+k) va) h1 rfl (.inr ⟨b,_,J,P,zSp,U⟩) ?_ ?_
  .intro k y i
   obtain⟨x,o⟩:=l k y i;have:off+k<arr.size:=by have:=(qe.1 o).1;omega
   simp[qB,this]
  .intro k y i
   obtain⟨x,o⟩:=l k y i;exact R k x y o i (h4 _ x o).2
 |mp b T fs P hn hk hv a2 a3 =>
  intro v r;cases r with
  |mp _ I J U =>
  obtain⟨ce,cl,h1,h2,h3,h4,h5,h6⟩:=s.mp b T I J P U;have l:∀(k:Nat) y,fs[k]?=some y->∃ x,T[k]?=some x:=by
   intro k y i;have hk:k<fs.length:=(qe.1 i).1;exact⟨T[k]' zOm,by simp[show k<T.length by omega]⟩
  refine .im fs I ce cl h1 (.inr ⟨b,_,J,P,zSp,U⟩) zOm ?_ ?_ (.of h5 h6)
  .intro k y i
   obtain⟨x,o⟩:=l k y i;exact a2 k x y o i (h3 k x o)
  .intro k y i
   obtain⟨x,o⟩:=l k y i;exact a3 k x y o i (h4 k x o)
 |md b T fs P hn hk hv a2 a3 =>
  intro v r;cases r with
  |mp _ I J U =>
  obtain⟨ce,cl,h1,h2,h3,h4,h5⟩:=s.md b T I J P U;have l:∀(k:Nat) y,fs[k]?=some y->∃ x,T[k]?=some x:=by
   intro k y i;have hk:k<fs.length:=(qe.1 i).1;exact⟨T[k]' zOm,by simp[show k<T.length by omega]⟩
  refine .im fs I ce cl h1 (.inr ⟨b,_,J,P,zSp,U⟩) zOm ?_ ?_ h5
  .intro k y i
   obtain⟨x,o⟩:=l k y i;exact a2 k x y o i (h3 k x o)
  .intro k y i
   obtain⟨x,o⟩:=l k y i;exact a3 k x y o i (h4 k x o)
 |agg g j hn C R =>
  intro v r;cases r with
  |agg _ vs hm hv =>
  refine .agg _ _ zOm (fun k y i=>?_);have hk:k<j.length:=(qe.1 i).1;have o:g[k]?=some (g[k]' zOm):=by simp[show k<g.length by omega]
  exact R k _ y o i (hv k _ o)
 |tup g j hn C R =>
  intro v r;cases r with
  |tup _ vs hm hv =>
  refine .tup _ _ zOm (fun k y i=>?_);have hk:k<j.length:=(qe.1 i).1;have o:g[k]?=some (g[k]' zOm):=by simp[show k<g.length by omega]
  exact R k _ y o i (hv k _ o)
 |lst full g j hn hz C R =>
  intro v r;have a6:=X7 hn hz;cases r with
  |nil=>cases j with
   |nil=>exact .nil _
   |cons=>simp at hn
  |emp _ a cap P=>cases j with
   |nil=>exact .emp _ a cap P
   |cons=>simp at hn
  |lst _ _ p a cap cs e fr rd U hs hl P hi a8 hr hv =>
   rw[<-hn];have l:∀(k:Nat) y,j.flatten[k]?=some y->∃ x,g.flatten[k]?=some x:=by
    intro k y i;have hk:k<j.flatten.length:=(qe.1 i).1;exact⟨g.flatten[k]' zOm,by simp only[qv (show k<g.flatten.length by omega)]⟩
   refine .lst full j p a cap cs e fr rd U hs zOm (by rw[hn];exact P) (.inl hi) ?_ ?_ ?_
   .intro r a9
    obtain⟨k,hk⟩:=List.mem_iff_getElem?.1 a9;have ae:k<j.length:=(qe.1 hk).1;have o:g[k]?=some (g[k]' zOm):=by simp[show k<g.length by omega]
    rw[<-hz k _ r o hk];exact a8 _ (qZ o)
   .intro k y i
    obtain⟨x,o⟩:=l k y i;exact hr k x o
   .intro k y i
    obtain⟨x,o⟩:=l k y i;exact R k x y o i (hv k x o)
 |fn f first a1 a0 a4 hn hm C aa R ab =>
  intro v r;cases r with
  |fn _ _ _ vs ws af ag hv hw =>
  refine .fn f _ _ vs ws zOm zOm (fun k y i=>?_) (fun k y i=>?_)
  .have hk:k<a1.length:=(qe.1 i).1
   have o:first[k]?=some (first[k]' zOm):=by simp[show k<first.length by omega]
   exact R k _ y o i (hv k _ o)
  .have hk:k<a4.length:=(qe.1 i).1
   have o:a0[k]?=some (a0[k]' zOm):=by simp[show k<a0.length by omega]
   exact ab k _ y o i (hw k _ o)
 |ifc t x y C R =>
  intro v r;cases r with
  |ifc _ _ v hv=>exact .ifc t y v (R hv)
 |wk x full j C R =>
  intro v r;have:=R r;cases this with
  |nil=>exact .nil _
  |emp _ a cap P=>exact .emp _ a cap zSp
  |lst _ _ p a cap cs e fr rd U hs hl P hi hz hr hv=>exact .lst _ _ p a cap cs e fr rd U hs hl zSp hi hz hr hv
 |ims x T ad σ τ hp hd C R =>
  intro v r;exact .ims T ad σ τ v hp hd (R r)
end
end Go.Ev
namespace Go.Ev
open Go Go.RowKit
section
variable {s x:AV}{K:AV->Mu->Prop}{h:Array Obj}{i:Array j1}{G:Gh}{mu:Mu}{P:qf}{w:j2}
def cutM(keep:Nat->Bool):Mu->Nat->Mu
 | [],_=>[]
 |c :: l,i=>(if keep i=true then c else .dead) :: cutM keep l (i+1)
theorem jI(keep:Nat->Bool):∀(mu:Mu) (i k:Nat),(cutM keep mu k)[i]?=(mu[i]?).map fun c=>if keep (k+i)=true then c else .dead
 | [],i,k=>by simp[cutM]
 |c :: l,0,k=>by simp[cutM]
 |c :: l,i+1,k=>by
  rw[cutM,vb,vb,jI keep l i (k+1)];have:k+1+i=k+(i+1):=zOm;rw[this]
theorem uq(keep:Nat->Bool):∀(mu:Mu) (k:Nat),(cutM keep mu k).length=mu.length
 | [],_=>rfl
 |c :: l,k=>by simp[cutM,uq keep l (k+1)]
theorem ji{keep:Nat->Bool}{i:Nat}{c:Cell}(h:(cutM keep mu 0)[i]?=some c)(l:c ≠ .dead):mu[i]?=some c/\keep i=true:=by
 rw[jI]at h;cases j:mu[i]? with
 |none=>rw[j]at h;simp at h
 |some o =>
  rw[j]at h;simp only[qS,yc,qj]at h;by_cases g:keep i=true
  .rw [if_pos g]at h;subst h;exact⟨rfl,g⟩
  .rw [if_neg g]at h;exact absurd h.symm l
theorem Live.cut{keep:Nat->Bool}{b:Nat}(h:Live G (cutM keep mu 0) b):Live G mu b:=by
 obtain⟨i,c,g,l,j,o⟩:=h;exact⟨i,c,g,(ji l j).1,j,o⟩
theorem Sim.cut(s:Sim G mu h)(keep:Nat->Bool):Sim G (cutM keep mu 0) h:=by
 refine⟨by rw[uq];exact s.len,s.imm,fun i c g l r o p=>s.obj i c g l (ji r o).1 o p,fun i c g l r o p=>s.live i c g l (ji r o).1 o p,?_,s.tab⟩;intro i j ci C b I J r o p t P R;exact s.inj i j ci C b I J (ji r p).1 (ji o t).1 p t P R
def frz(G:Gh)(give:Nat->Bool)(mu:Mu):Gh:=⟨fun b=>G.imm b\/Live G (cutM give mu 0) b,G.blk⟩
theorem V3(s:Sim G mu h)(give:Nat->Bool):Sim (frz G give mu) (cutM (fun i=>!give i) mu 0) h:=by
 have J:G.le (frz G give mu):=⟨fun b C => .inl C,fun _ _ h=>h⟩;refine⟨by rw[uq];exact s.len,?_,?_,?_,?_,s.tab.mono (fun b h => .inl h) (fun _ _=>rfl)⟩
 .rintro b (C|⟨i,c,g,p,l,r⟩)
  .exact s.imm b C
  .obtain ⟨o,P,_⟩:=s.obj i c b g (ji p l).1 l r
   exact(zM.1 P).1
 .intro i c t g p l r
  obtain⟨o,P,U⟩:=s.obj i c t g (ji p l).1 l r;exact⟨o,P,U.mono J (Ext.refl _ _)⟩
 .rintro i c t g p l r (C|⟨j,c',I,g1,R,g3⟩)
  .exact s.live i c t g (ji p l).1 l r C
  .have e:=s.inj i j c c' t g I (ji p l).1 (ji g1 R).1 l R r g3
   subst e;have a1:=(ji p l).2;have a2:=(ji g1 R).2;simp[a2]at a1
 .intro i j ci cj b ti tj p l r T h5 h6
  exact s.inj i j ci cj b ti tj (ji p r).1 (ji l T).1 r T h5 h6
theorem u6(s:Sim G mu w.heap)(give:Nat->Bool):Stp G mu w (frz G give mu) (cutM (fun i=>!give i) mu 0) w:=by
 refine⟨⟨fun b g => .inl g,fun _ _ h=>h⟩,V3 s give,fun _ _ _=>rfl,qn _,?_,?_,rfl,rfl,rfl,qn _⟩
 .rintro b ⟨i,c,j,o,l,p⟩
  exact .inl ⟨i,c,j,(ji o l).1,l,p⟩
 .rintro b (g|g)
  .exact .inl g
  .exact .inr (.inl g.cut)
theorem V4(s:Sim G mu h)(give:Nat->Bool){x y:AV}{v:j3}(r:Rd (cutM give mu 0) x y)(g:VRel G h x v):VRel (frz G give mu) h y v:=
 VRel.mono (G:=⟨fun b=>G.imm b\/Live G (cutM give mu 0) b,[]⟩) (G':=frz G give mu) ⟨fun _ j=>j,fun i x l=>by simp at l⟩ (Ext.refl _ _) (r.sound (s.cut give) g)
theorem y9.det(h:y9 P mu i s x K):∃ v m,y9 P mu i s x (fun a b=>a=v/\b=m)/\K v m:=by
 obtain⟨t,I,e,p,J,j,R,T,U,a4,a5,a6,a7,a8,h⟩:=h;rcases h with ⟨g,l,o,r,b4,b5⟩|⟨b,len,cells,l,o,r,b4,b5⟩
 .by_cases C:j=[]
  .exact ⟨_,_,⟨t,I,e,p,J,j,R,T,U,a4,a5,a6,a7,a8,.inl ⟨g,l,o,r,fun _=>⟨rfl,rfl⟩,fun h=>absurd C h⟩⟩,b4 C⟩
  .exact ⟨_,_,⟨t,I,e,p,J,j,R,T,U,a4,a5,a6,a7,a8,.inl ⟨g,l,o,r,fun h=>absurd h C,fun _=>⟨rfl,rfl⟩⟩⟩,b5 C⟩
 .exact ⟨_,_,⟨t,I,e,p,J,j,R,T,U,a4,a5,a6,a7,a8,.inr ⟨b,len,cells,l,o,r,b4,rfl,rfl⟩⟩,b5⟩
theorem y9.mono{R:AV->Mu->Prop}(h:y9 P mu i s x K)(l:∀ v m,K v m->R v m):y9 P mu i s x R:=by
 obtain⟨t,T,e,p,U,j,a1,a2,a3,a4,a5,a6,a7,a8,h⟩:=h;refine⟨t,T,e,p,U,j,a1,a2,a3,a4,a5,a6,a7,a8,?_⟩;rcases h with ⟨g,o,r,C,I,J⟩|⟨b,len,cells,o,r,C,I,J⟩
 .exact .inl ⟨g,o,r,C,fun h=>l _ _ (I h),fun h=>l _ _ (J h)⟩
 .exact .inr ⟨b,len,cells,o,r,C,I,l _ _ J⟩
def X8(P:qf)(mu:Mu)(l:Array j1)(s x:AV)(K:AV->Mu->Prop):Prop:=
 ∃ t o e p r j n g,l=#[t,o]/\qz P t=some (e,p,r)/\P.underlying o=some (.int .i64)/\qx P e=some j/\j.cells.length=p/\j.cells.all AV.one=true/\p≠0/\r<=16384/\x = .sc (.int .i64 (Int.ofNat n))/\0<n/\s = .lst true g/\zg p g/\g.length+n<=4294967296 /\
  K (.sl mu.length p 0 (g.length+n)) (mu++[.arr (g.flatten++(qo (n*p)).map fun i=>j.cells.getD (i % p) .any)])
theorem qaS(s:Sim G mu w.heap){a2:Array j1}{ty:j1}{sv xv:AV}{vs vx:j3}(rs:VRel G w.heap sv vs)(rx:VRel G w.heap xv vx){K:AV->Mu->Prop}
  (h:X8 P mu a2 sv xv K):∃ z l,K z l/\Good P G mu w (Builtin.append_ a2 ty #[vs,vx]) z l:=by
 obtain⟨t,tn,e,p,bt,zv,n,g,rfl,ag,ah,ai,a3,a4,ar,a5,rfl,hn,rfl,J,aj,hk⟩:=h;obtain⟨i,hu,hi,rfl,rfl⟩:=jT ag;obtain⟨i',z,ak,hz,rfl⟩:=Ja ai;obtain rfl:i=i':=Option.some.inj (hi.symm.trans ak);obtain⟨o,al⟩:=ZE (G:=G) (h:=w.heap) z (fun c hc=>by simpa using qJ.1 a4 c hc);rw[a3]at o;obtain⟨a0,a6,C,rfl,R,_,a7,av,a8⟩:=Jc (P:=P) s rs (ys:=g) rfl J;have a9:a6=g.length:=by
  obtain⟨a1,c1,h1,_,h2,_⟩:=rs.lst_inv;cases h1;exact h2 rfl
 subst a9;cases rx with
 |sc _ _ =>
 have aa:n*i.bytes<=281474976710656:=zV (Nat.mul_le_mul (show n<=4294967296 by omega) a5) zOm;have I:=Lib.run_append_grow_zeros w t tn ty e i z .i64 .i64 hu ah hi hz a0 g.length g.length C a8 n hn zOm zOm zOm aa (X5 zOm aj a5);have ab:=X4 w (g.length+n) g.length e;generalize grownCap w (g.length+n) g.length e=gc at I ab;have ad:=zW J.ok;have an:(yb z.cells n).size=n*i.size:=by simp[yb,o]
 have ao:(yb z.cells (gc-(g.length+n))).size=(gc-(g.length+n))*i.size:=by simp[yb,o]
 have ae:∀ j,j<n*i.size->(yb z.cells n).getD j va=z.cells.getD (j % i.size) va:=by
  intro j r;have T:0<i.size:=zOm;have U:j % i.size<z.cells.size:=by rw[o];exact Nat.mod_lt _ T
  simp[yb,o,qB,r,getElem!_pos z.cells (j % i.size) U,u4 U]
 have sd:Sim G mu w.drew.heap:=s;have st:=Stp.allocNew sd (.cells (C.toArray++yb z.cells n++yb z.cells (gc-(g.length+n))) e) (.arr (g.flatten++(qo (n*i.size)).map fun j=>(ofV z).cells.getD (j % i.size) .any)) (gc*i.size) (by
  intro _;have au:g.length*i.size+n*i.size+(gc-(g.length+n))*i.size=gc*i.size:=by
   rw[<-Nat.add_mul,<-Nat.add_mul];congr 1;omega
  refine⟨_,e,rfl,by simp[R,an,ao];omega,by simp[ad,<-Nat.add_mul];exact Nat.mul_le_mul_right _ ab,fun j y r=>?_⟩;by_cases aq:j<g.flatten.length
  .rw [qI aq]at r
   refine⟨J.one y (qZ r),?_⟩;have:=a7 j y r;rw[qB,Array.append_assoc,Array.getElem?_append_left zSo];rw[q8]at this;show VRel G w.heap y _;simpa using this
  .rw [qT zOm,zm]at r
   have af:j-g.flatten.length<n*i.size:=by
    cases hq:(qo (n*i.size))[j-g.flatten.length]? with
    |none=>rw[hq]at r;cases r
    |some q=>have:=(qe.1 hq).1;simpa using this
   rw[YO af]at r;have T:0<i.size:=zOm;have U:(j-g.flatten.length) % i.size<(ofV z).cells.length:=by rw[a3];exact Nat.mod_lt _ T
   simp only[qS,qj]at r;rw[q8,qv U]at r;subst r;refine⟨by simpa using qJ.1 a4 _ (List.getElem_mem U),?_⟩;have e1:(C.toArray++yb z.cells n++yb z.cells (gc-(g.length+n))).getD j va=(yb z.cells n).getD (j-g.flatten.length) va:=by
    rw[qB,qB,Array.append_assoc,Array.getElem?_append_right zSo,Array.getElem?_append_left (by simp[R];omega)];simp[R,ad]
   rw[e1,ae _ af];exact al _ _ (qv U))
 refine⟨_,_,hk,_,_,_,I,(Stp.drew s).trans s st,?_⟩;refine .sl _ i.size 0 _ w.heap.size (gc*i.size) gc ?_ zOm zOm;show (G.blk++[_])[mu.length]?=_;rw[<-s.len];simp
def qA(P:qf)(mu:Mu)(g:Array j1)(s x:AV)(K:AV->Mu->Prop):Prop:=
 y9 P mu g s x K\/((∃ give j,Rd (cutM give mu 0) x j/\y9 P (cutM (fun i=>!give i) mu 0) g s j K)\/X8 P mu g s x K)
theorem qA.det(h:qA P mu i s x K):∃ v m,qA P mu i s x (fun a b=>a=v/\b=m)/\K v m:=by
 rcases h with h|⟨give,j,l,o⟩|⟨t,r,e,p,C,I,n,J,R,T,U,a4,a5,a6,a7,a8,a9,b1,b2,b3,b4,k⟩
 .obtain ⟨v,m,g,k⟩:=h.det;exact⟨v,m,.inl g,k⟩
 .obtain ⟨v,m,g,k⟩:=o.det;exact⟨v,m,.inr (.inl ⟨give,j,l,g⟩),k⟩
 .exact ⟨_,_,.inr (.inr ⟨t,r,e,p,C,I,n,J,R,T,U,a4,a5,a6,a7,a8,a9,b1,b2,b3,b4,rfl,rfl⟩),k⟩
theorem qA.mono{l:AV->Mu->Prop}(h:qA P mu i s x K)(j:∀ v m,K v m->l v m):qA P mu i s x l:=by
 rcases h with h|⟨give,o,r,C⟩|⟨t,I,e,p,J,R,n,g,T,U,a3,a4,a5,a6,a7,a8,a9,b1,b2,b3,b4,k⟩
 .exact .inl (h.mono j)
 .exact .inr (.inl ⟨give,o,r,C.mono j⟩)
 .exact .inr (.inr ⟨t,I,e,p,J,R,n,g,T,U,a3,a4,a5,a6,a7,a8,a9,b1,b2,b3,b4,j _ _ k⟩)
theorem qaT(s:Sim G mu w.heap){g:Array j1}{ty:j1}{o p:AV}{r t:j3}(i:VRel G w.heap o r)(j:VRel G w.heap p t){K:AV->Mu->Prop}
  (h:qA P mu g o p K):∃ z l,K z l/\Good P G mu w (Builtin.append_ g ty #[r,t]) z l:=by
 rcases h with h|⟨give,x',C,I⟩|h
 .exact X6 s i j h
 .obtain ⟨z,l,J,v,R,T,g1,U,g3⟩:=X6 (ty:=ty) (V3 s give) (i.mono (u6 s give).le (Ext.refl _ _)) (V4 s give C j) I
  exact⟨z,l,J,v,R,T,g1,(u6 s give).trans s U,g3⟩
 .exact qaS s i j h
inductive Gv (mu:Mu) (give:Nat->Bool):AV->AV->Prop where
 |same (x:AV):Gv mu give x x
 |rd (x y:AV) (h:Rd (cutM give mu 0) x y):Gv mu give x y
 |fn (f:Fn) (first first' caps caps':List AV) (hn:first'.length=first.length) (hm:caps'.length=caps.length) (h:∀(k:Nat) x y,first[k]?=some x->first'[k]?=some y->Gv mu give x y)
   (h':∀(k:Nat) x y,caps[k]?=some x->caps'[k]?=some y->Gv mu give x y):Gv mu give (.fn f first caps) (.fn f first' caps')
theorem Gv.sound(s:Sim G mu h){give:Nat->Bool}{x y:AV}(r:Gv mu give x y):∀{v:j3},VRel G h x v->VRel (frz G give mu) h y v:=by
 have t:G.le (frz G give mu):=⟨fun b I => .inl I,fun _ _ h=>h⟩;induction r with
 |same x=>intro v j;exact j.mono t (Ext.refl _ _)
 |rd x y r=>intro v j;exact V4 s give r j
 |fn f first g i l hn hm hr J P C =>
  intro v j;cases j with
  |fn _ _ _ R T U a0 j hw =>
  refine .fn f _ _ R T zOm zOm (fun k y o=>?_) (fun k y o=>?_)
  .have hk:k<g.length:=(qe.1 o).1
   have p:first[k]?=some (first[k]' zOm):=qv _;exact P k _ y p o (j k _ p)
  .have hk:k<l.length:=(qe.1 o).1
   have p:i[k]?=some (i[k]' zOm):=qv _;exact C k _ y p o (hw k _ p)
end
end Go.Ev
namespace Go.Ev
open Go Go.RowKit
section
variable {x:AV}{h:Array Obj}{G:Gh}{P:qf}{u:j3}{w:j2}
theorem ZJ{e:j1}{q:IntKind}{cs:Array j3}{i:Nat}{v:j3}(g:P.underlying e=some (.int q))(h:cs[i]?=some v):(part e cs i).run P w = .ok v w:=by
 have j:(isAgg e).run P w = .ok false w:=by simp[isAgg,run_underlying g]
 simp[part,j,h]
theorem ZK{xs ys:List AV}{b:Bool}(h:aEqs (x :: xs) ys=some b):∃ k a b' i,x = .sc (.int k a)/\ys = .sc (.int k b') :: i/\(((a == b')=true/\aEqs xs i=some b)\/((a == b')=false/\b=false)):=by
 cases x with
 |sc v =>
  cases v with
  |int k a =>
   cases ys with
   |nil=>simp[aEqs]at h
   |cons y ys =>
    cases y with
    |sc u =>
     cases u with
     |int l b' =>
      by_cases j:k=l
      .subst j
       cases g:(a == b') with
       |true=>exact⟨k,a,b',ys,rfl,rfl,.inl ⟨g,by simpa[aEqs,g] using h⟩⟩
       |false=>exact⟨k,a,b',ys,rfl,rfl,.inr ⟨g,by simpa[aEqs,g] using h.symm⟩⟩
      .simp [aEqs,j]at h
     |_=>simp[aEqs]at h
    |_=>simp[aEqs]at h
  |_=>simp[aEqs]at h
 |_=>simp[aEqs]at h
theorem qaU(d:Nat){e:j1}{q:IntKind}(p:P.underlying e=some (.int q))(C I:Array j3):∀(xs ys:List AV) (i:Nat) (b:Bool),aEqs xs ys=some b ->
  (∀(k:Nat) x,xs[k]?=some x->∃ v,C[i+k]?=some v/\VRel G w.heap x v)->(∀(k:Nat) x,ys[k]?=some x->∃ v,I[i+k]?=some v/\VRel G w.heap x v) ->
  (forIn (m:=Sem) (List.range' i xs.length) ((none:Option Bool),()) fun i T=>do
   let a <-part e C i
   let b <-part e I i
   let c <-Op.equalIn (d+1) e a b
   if (!c)=true then pure (ForInStep.done (some false,())) else pure (ForInStep.yield (none,()))).run P w = .ok (if b then (none,()) else (some false,())) w:=by
 intro xs;induction xs with
 |nil =>
  intro ys i b h _ _;cases ys with
  |nil=>simp only[aEqs,qj]at h;subst h;rfl
  |cons=>simp[aEqs]at h
 |cons x xs U =>
  intro ys i b h J R;have h':=ZK h;clear h;obtain⟨k,a,b',r,rfl,rfl,h⟩:=h';obtain⟨v,l,rv⟩:=J 0 _ rfl;obtain⟨u,o,ru⟩:=R 0 _ rfl;cases rv;cases ru;rw[Nat.add_zero]at l o;simp only[zq,List.range'_succ,List.forIn_cons,qE,ZJ p l,ZJ p o,qG,run_equalIn_int w d e k q a b' p];rcases h with ⟨g,h⟩|⟨g,rfl⟩
  .rw [g]
   simp only[Bool.not_true,Bool.false_eq_true,if_false,zh,qG];refine U r (i+1) b h (fun j x t=>?_) (fun j x t=>?_)
   .have:=J (j+1) x (zUs t)
    rwa[show i+(j+1)=i+1+j by omega]at this
   .have:=R (j+1) x (zUs t)
    rwa[show i+(j+1)=i+1+j by omega]at this
  .rw [g]
   simp
theorem Qm{xs:List AV}{g:Array j3}(o:g.size=xs.length)(l:∀(k:Nat) x,xs[k]?=some x->VRel G h x (g.getD k va)) :
  ∀(k:Nat) x,xs[k]?=some x->∃ v,g[0+k]?=some v/\VRel G h x v:=by
 intro k x j;have p:k<xs.length:=(qe.1 j).1;have i:k<g.size:=zOm;refine⟨g.getD k va,?_,l k x j⟩;simp[qB,i]
theorem X9(d:Nat){t e:j1}{n:Nat}{q:IntKind}(l:P.underlying t=some (.array n e))(o:P.underlying e=some (.int q))(p:szOf P e=some 1)
  {xs ys:List AV} {g i:Array j3} (r:xs.length=n) (C:VRel G w.heap (.agg xs) (.agg g)) (I:VRel G w.heap (.agg ys) (.agg i)) {b:Bool} (h:aEqs xs ys=some b) :
  (Op.equalIn (d+2) t (.agg g) (.agg i)).run P w = .ok b w:=by
 cases C with
 |agg _ _ J R =>
 cases I with
 |agg _ _ T U =>
 unfold Op.equalIn;simp only[qE,run_underlying l,qG,yE p,Nat.mul_one,Std.Legacy.Range.forIn_eq_forIn_range'];have j:(Std.Legacy.Range.size [:n])=xs.length:=by simp[Std.Legacy.Range.size,r]
 rw[j];have:=qaU (G:=G) d o g i xs ys 0 b h (Qm J R) (Qm T U);rw[this];cases b<;>simp
theorem qaV(d:Nat)(J R:Array j3):∀(fs:List Field) (i:Nat) (xs ys:List AV) (b:Bool),Qh P fs i=true->xs.length=fs.length->aEqs xs ys=some b ->
  (∀(k:Nat) x,xs[k]?=some x->∃ v,J[i+k]?=some v/\VRel G w.heap x v)->(∀(k:Nat) x,ys[k]?=some x->∃ v,R[i+k]?=some v/\VRel G w.heap x v) ->
  (Op.eqFields (d+1) J R fs).run P w = .ok b w:=by
 intro fs;induction fs with
 |nil =>
  intro i xs ys b _ p h _ _;have:xs=[]:=vE (zUs p);subst this;cases ys with
  |nil=>simp only[aEqs,qj]at h;subst h;rfl
  |cons=>simp[aEqs]at h
 |cons f fs ih =>
  intro i xs ys b hf p h T U;cases xs with
  |nil=>simp at p
  |cons x xs =>
   simp only[Qh,qq,beq_iff_eq,bne_iff_ne,ne_eq]at hf;obtain⟨⟨⟨h1,h2⟩,r⟩,h4⟩:=hf;have h':=ZK h;clear h;obtain⟨k,a,b',t,rfl,rfl,h⟩:=h';obtain⟨v,l,rv⟩:=T 0 _ rfl;obtain⟨u,o,ru⟩:=U 0 _ rfl;cases rv;cases ru;rw[Nat.add_zero]at l o;obtain⟨q,C⟩:∃ q,P.underlying f.type=some (.int q):=by
    unfold XM at r;split at r
    .exact ⟨_,by assumption⟩
    .exact absurd r zSp
   rw[Op.eqFields,if_pos h2];simp only[h1,qE,ZJ C l,ZJ C o,qG,run_equalIn_int w d f.type k q a b' C];rcases h with ⟨g,h⟩|⟨g,rfl⟩
   .rw [g]
    simp only[Bool.not_true,Bool.false_eq_true,if_false];refine ih (i+1) xs t b h4 (zUs p) h (fun j x I=>?_) (fun j x I=>?_)
    .have:=T (j+1) x (zUs I)
     rwa[show i+(j+1)=i+1+j by omega]at this
    .have:=U (j+1) x (zUs I)
     rwa[show i+(j+1)=i+1+j by omega]at this
   .rw [g]
    simp
theorem qaW(d:Nat){t:j1}{fs:Array Field}(j:P.underlying t=some (.struct fs))(hf:Qh P fs.toList 0=true)(o:P.stoodInHeld t=false)
  {xs ys:List AV} {g i:Array j3} (p:xs.length=fs.size) (r:VRel G w.heap (.agg xs) (.agg g)) (C:VRel G w.heap (.agg ys) (.agg i)) {b:Bool} (h:aEqs xs ys=some b) :
  (Op.equalIn (d+2) t (.agg g) (.agg i)).run P w = .ok b w:=by
 have l:P.fieldsOf t=fs:=by simp[Program.fieldsOf,j]
 rw[run_equalIn_agg w (d+1) t g i (by rw[l];exact j) o,l];cases r with
 |agg _ _ I J =>
 cases C with
 |agg _ _ R T =>
 exact qaV d g i fs.toList 0 xs ys b hf (zUs p) h (Qm I J) (Qm R T)
inductive KK where
 |now
 |arr (n:Nat)
def keyKind(P:qf)(g:j1):Option KK:=
 match P.underlying g with
 |some (.int _)|some .string|some .bool=>some .now
 |some (.array n e)=>match P.underlying e,szOf P e with
  |some (.int _),some 1=>some (.arr n)
  |_,_=>none
 |_=>none
@[go_sem] def ja(P:qf)(i:j1)(x y:AV):Option Bool:=
 match P.underlying i with
 |some (.int _)=>(match x,y with | .sc (.int k a),.sc (.int l b)=>if k=l then some (a == b) else none|_,_=>none)
 |some .string=>(match x,y with | .sc (.string a),.sc (.string b)=>some (a == b)|_,_=>none)
 |some .bool=>(match x,y with | .sc (.bool a),.sc (.bool b)=>some (a == b)|_,_=>none)
 |some (.array n e)=>(match P.underlying e,szOf P e with
  |some (.int _),some 1=>(match x,y with | .agg g,.agg j=>if g.length=n/\j.length=n then aEqs g j else none|_,_=>none)
  |_,_=>none)
 |_=>none
def q9(P:qf)(g:j1)(k:AV):List (AV×AV)->Nat->Option (Option Nat)
 | [],_=>some none
 |e :: T,i=>match ja P g k e.1 with
  |some true=>some (some i)
  |some false=>q9 P g k T (i+1)
  |none=>none
@[go_sem] def Qn(q:IntKind):AV->Bool
 | .sc (.int k _)=>k == q
 |_=>false
@[go_sem] def yF(P:qf)(i:j1)(x:AV):Bool:=
 match P.underlying i with
 |some (.int q)=>Qn q x
 |some .string=>(match x with | .sc (.string _)=>true|_=>false)
 |some .bool=>(match x with | .sc (.bool _)=>true|_=>false)
 |some (.array n e)=>(match P.underlying e,szOf P e with
  |some (.int q),some 1=>(match x with | .agg g=>g.length == n&&g.all (Qn q)|_=>false)
  |_,_=>false)
 |_=>false
theorem qaX(m:Bool)(d:Nat){e:j1}{q:IntKind}(j:P.underlying e=some (.int q))(l:szOf P e=some 1)(g:Array j3):∀(n i:Nat),i+n<=g.size ->
    (forIn (m := Sem) (List.range' i n) PUnit.unit fun i o => do
            let p <-Go.sizeOf e
            let x <-part e g (i*p)
            Instr.checkKey m (d+1) e x
            pure (ForInStep.yield PUnit.unit)).run P w = .ok PUnit.unit w:=by
  intro n;induction n with
  |zero=>intro i _;rfl
  |succ n r =>
    intro i h;have t:g[i]?=some (g[i]' zOm):=by simp[show i<g.size by omega]
    have C:∀ v,(Instr.checkKey m (d+1) e v).run P w = .ok () w:=by
      intro v;unfold Instr.checkKey;simp[run_underlying j]
    simp only[List.range'_succ,List.forIn_cons,qE,yE l,qG,Nat.mul_one,ZJ j t,C,zh];exact r (i+1) zOm
theorem ZL{j:j1}{v:j3}(m:Bool)(r:VRel G w.heap x v)(h:yF P j x=true):(Instr.checkKey m 10000 j v).run P w = .ok () w:=by
 unfold yF at h;have now:∀ d,P.underlying j=some d->(∀ n e,d ≠ .array n e)->(∀ p,d ≠ .struct p)->(∀ t,d ≠ .interface t)->(Instr.checkKey m 10000 j v).run P w = .ok () w:=by
  intro d i C I J;show (Instr.checkKey m (9999+1) j v).run P w=_;unfold Instr.checkKey;simp only[qE,run_underlying i,qG];cases d<;>first|rfl | (exact absurd rfl (C _ _)) | (exact absurd rfl (I _)) | (exact absurd rfl (J _))
 split at h
 .rename_i i;exact now _ i zSp zSp zSp
 .rename_i i;exact now _ i zSp zSp zSp
 .rename_i i;exact now _ i zSp zSp zSp
 .rename_i n e i
  split at h
  .rename_i R T
   split at h
   .rename_i g
    cases r with
    |agg _ o U hv =>
    have hl:g.length=n:=by
     rw[qq]at h;simpa using h.1
    show (Instr.checkKey m (9998+2) j (.agg o)).run P w=_;unfold Instr.checkKey;simp only[qE,run_underlying i,qG,Std.Legacy.Range.forIn_eq_forIn_range'];have l:(Std.Legacy.Range.size [:n])=n:=by simp[Std.Legacy.Range.size]
    rw[l,qaX m 9998 R T o n 0 zOm];simp
   .exact absurd h zSp
  .exact absurd h zSp
 .exact absurd h zSp
def yr(G:Gh)(h:Array Obj)(es:List (AV×AV))(ce:List vz):Prop:=ce.length=es.length/\∀(k:Nat) x,es[k]?=some x->∃ e,ce[k]?=some e/\VRel G h x.1 e.key/\VRel G h x.2 e.val
theorem Ka{j:j1}{y:AV}{v:j3}{b:Bool}{d:TypeDesc}(l:P.underlying j=some d)(o:∀ n e,d ≠ .array n e)(p:VRel G h x u)(r:VRel G h y v)(g:ja P j x y=some b) :
    Instr.sameNow d u v=some b:=by
  unfold ja at g;rw[l]at g;cases d<;>simp only at g<;>first | (exact absurd g (by simp;done)) | (exact absurd rfl (o _ _))|skip
  all_goals
    split at g
    · cases p;cases r
      first
        | (simpa[Instr.sameNow] using g;done)
        | (split at g
           · rename_i i;simp only[qj]at g;subst g;simp[Instr.sameNow,i]
           · exact absurd g zSp)
    · exact absurd g zSp
theorem qaY{C:j1}{d:TypeDesc}(I:P.underlying C=some d)(J:∀ n e,d ≠ .array n e)(R:VRel G h x u):∀(es:List (AV×AV)) (ce:List vz) (i:Nat) (r:Option Nat),
  yr G h es ce->q9 P C x es i=some r->Instr.findNow d u ce i=some (r.map fun j=>(j,(ce.getD (j-i) default).val))/\∀ j,r=some j->i<=j/\j<i+es.length:=by
 intro es;induction es with
 |nil =>
  intro ce i r g hf;have:ce=[]:=vE g.1;subst this;simp only[q9,qj]at hf;subst hf;exact⟨rfl,zSp⟩
 |cons e es ih =>
  intro ce i r g hf;cases ce with
  |nil=>have:=g.1;simp at this
  |cons c ce =>
   obtain⟨c',l,T,rv⟩:=g.2 0 e rfl;simp only[YK,qj]at l;subst l;simp only[q9]at hf;split at hf
   .rename_i p
    simp only[qj]at hf;subst hf;have:=Ka I J R T p;exact⟨by simp[Instr.findNow,this],fun j o=>by simp at o;subst o;simp⟩
   .rename_i p
    have:=Ka I J R T p;have t:yr G h es ce:=⟨by have:=g.1;simpa using this,fun k y hy=>g.2 (k+1) y (zUs hy)⟩;obtain⟨h1,U⟩:=ih ce (i+1) r t hf;refine⟨?_,fun j o=>?_⟩
    .simp only[Instr.findNow,this,h1]
     cases r with
     |none=>rfl
     |some j =>
      have:=U j rfl;simp only[qS];rw[show j-i=(j-(i+1))+1 by omega];simp
    .have:=U j o;simp;omega
   .exact absurd hf zSp
theorem qaZ{p e:j1}{n:Nat}{q:IntKind}(U:P.underlying p=some (.array n e))(he:P.underlying e=some (.int q))(hs:szOf P e=some 1){x:AV}{u:j3}(rx:VRel G w.heap x u) :
  ∀(es:List (AV×AV)) (ce:List vz) (i:Nat) (r:Option Nat),yr G w.heap es ce->q9 P p x es i=some r ->
   (Instr.findAsking p u ce i).run P w = .ok (r.map fun j=>(j,(ce.getD (j-i) default).val)) w/\∀ j,r=some j->i<=j/\j<i+es.length:=by
 intro es;induction es with
 |nil =>
  intro ce i r o hf;have:ce=[]:=vE o.1;subst this;simp only[q9,qj]at hf;subst hf;exact⟨rfl,zSp⟩
 |cons y es ih =>
  intro ce i r o hf;cases ce with
  |nil=>have:=o.1;simp at this
  |cons c ce =>
   obtain⟨c',t,I,rv⟩:=o.2 0 y rfl;simp only[YK,qj]at t;subst t;simp only[q9]at hf;have heq:∀ b,ja P p x y.1=some b->(Op.equal p u c.key).run P w = .ok b w:=by
    intro b l;unfold ja at l;rw[U]at l;simp only[he,hs]at l;split at l
    .rename_i g ys J
     split at l
     .rename_i hl
      rw[J]at I;generalize hq:c.key=ck at I;cases rx with
      |agg _ vs hn hv =>
      cases I with
      |agg _ ws hm hw =>
      exact X9 (G:=G) 9998 U he hs hl.1 (.agg _ _ hn hv) (.agg _ _ hm hw) l
     .exact absurd l zSp
    .exact absurd l zSp
   split at hf
   .rename_i R
    simp only[qj]at hf;subst hf;exact⟨by simp[Instr.findAsking,heq _ R],fun j C=>by simp at C;subst C;simp⟩
   .rename_i R
    have T:yr G w.heap es ce:=⟨by have:=o.1;simpa using this,fun k z hz=>o.2 (k+1) z (zUs hz)⟩;obtain⟨h1,h2⟩:=ih ce (i+1) r T hf;refine⟨?_,fun j C=>?_⟩
    .simp only[Instr.findAsking,qE,heq _ R,qG,Bool.false_eq_true,if_false,h1]
     cases r with
     |none=>rfl
     |some j =>
      have:=h2 j rfl;simp only[qS];rw[show j-i=(j-(i+1))+1 by omega];simp
    .have:=h2 j C;simp;omega
   .exact absurd hf zSp
theorem u7{l:j1}(I:VRel G w.heap x u)(o:yF P l x=true){es:List (AV×AV)}{ce:Array vz}{r:Option Nat}(p:yr G w.heap es ce.toList)(hf:q9 P l x es 0=some r) :
  (Instr.findKey l u ce.toList).run P w = .ok (r.map fun j=>(j,(ce.getD j default).val)) w/\∀ j,r=some j->j<es.length:=by
 have J:∀ j,ce.toList.getD j default=ce.getD j default:=by
  intro j;simp[q8,qB]
 unfold yF at o;have now:∀ d,P.underlying l=some d->(∀ n e,d ≠ .array n e)->(Instr.findKey l u ce.toList).run P w = .ok (r.map fun j=>(j,(ce.getD j default).val)) w/\∀ j,r=some j->j<es.length:=by
  intro d g T;obtain⟨i,t⟩:=qaY g T I es ce.toList 0 r p hf;simp only[Nat.sub_zero,J]at i;exact⟨by simp[Instr.findKey,run_underlying g,i],fun j C=>zW1 (t j C)⟩
 split at o
 .rename_i g;exact now _ g zSp
 .rename_i g;exact now _ g zSp
 .rename_i g;exact now _ g zSp
 .rename_i n e g
  split at o
  .rename_i U hs
   obtain⟨i,t⟩:=qaZ g U hs I es ce.toList 0 r p hf;simp only[Nat.sub_zero,J]at i;refine⟨?_,fun j C=>zW1 (t j C)⟩;simp only[Instr.findKey,qE,run_underlying g,qG];cases R:ce.toList with
   |nil =>
    have:r=none:=by
     cases es with
     |nil=>simpa[q9] using hf.symm
     |cons=>have:=p.1;rw[R]at this;simp at this
    subst this;simp[Instr.findNow]
   |cons c cs =>
    rw[R]at i;simp only[Instr.findNow,Instr.sameNow];exact i
  .exact absurd o zSp
 .exact absurd o zSp
end
end Go.Ev
namespace Go.Ev
open Go Go.RowKit
section
variable {k x y:AV}{h:Array Obj}{G:Gh}{es:List (AV×AV)}{mu:Mu}{P:qf}{g:j1}{w:j2}
def mapT(P:qf)(t:j1):Option (j1×j1):=match P.underlying t with|some (.map k e)=>some (k,e)|_=>none
theorem wH{t k e:j1}(h:mapT P t=some (k,e)):P.underlying t=some (.map k e):=by
 unfold mapT at h;split at h
 .grind
 grind
@[go_sem] def jz(mu:Mu):AV->Option (List (AV×AV))
 | .im T=>some T
 | .mp b=>match mu[b]? with|some (.mp T)=>some T|_=>none
 | .sc (.map none)=>some []
 |_=>none
theorem Jd(ce:Array vz)(k:Nat)(g:k<ce.size):ce.toList[k]?=some (ce.getD k default):=by
 simp[qB,g]
theorem qa0(s:Sim G mu w.heap){x:AV}{v:j3}{es:List (AV×AV)}(r:VRel G w.heap x v)(h:jz mu x=some es) :
  (v = .map none/\es=[])\/∃ m ce i,v = .map (some m)/\w.heap[m]?=some (.map ce i)/\yr G w.heap es ce.toList:=by
 unfold jz at h;split at h
 .simp only[qj]at h;subst h
  cases r with
  |im _ g ce clock j P o R T U =>
   refine .inr ⟨g,ce,clock,rfl,j,⟨zUs o,fun k x p=>?_⟩⟩
   grind [qe,Jd]
 .split at h
  .rename_i t C
   simp only[qj]at h;subst h;cases r with
   |mp _ g l j =>
    obtain⟨ce,i,I,J,h3,h4,h5,h6⟩:=s.mp _ _ g l C j;refine .inr ⟨g,ce,i,rfl,I,⟨zUs J,fun k x p=>?_⟩⟩
    grind [qe,Jd]
  grind
 .simp only[qj]at h;subst h
  cases r;exact .inl ⟨rfl,rfl⟩
 grind
@[go_sem] def yB(P:qf)(mu:Mu)(t:j1)(m k:AV)(ok:Bool):Option AV:=
 match mapT P t,jz mu m with
 |some (g,j),some T =>
  if yF P g k=true then
   match q9 P g k T 0 with
   |some (some i)=>(T[i]?).map fun e=>if ok then .tup [e.2,.sc (.bool true)] else e.2
   |some none=>(qx P j).map fun z=>if ok then .tup [z,.sc (.bool false)] else z
   |none=>none
  else none
 |_,_=>none
theorem tup2{z:AV}{u v:j3}(i:VRel G h y u)(j:VRel G h z v):VRel G h (.tup [y,z]) (.tuple #[u,v]):=by
 refine .tup _ _ rfl (fun k c g=>?_);cases k with
 |zero=>simp at g;subst g;exact i
 |succ k=>cases k with
  |zero=>simp at g;subst g;exact j
  |succ k=>simp at g
theorem vL{m:Nat}{ce:Array vz}{g:Nat}(h:w.heap[m]?=some (.map ce g)):(getObj m).run P w = .ok (.map ce g) w:=by
 simp[getObj,Sem.run,h]
theorem Kb(s:Sim G mu w.heap){t:j1}{m k z:AV}{ok:Bool}{vm U:j3}(rm:VRel G w.heap m vm)(J:VRel G w.heap k U)(h:yB P mu t m k ok=some z) :
  ∃ u,(Instr.lookup t vm U ok).run P w = .ok u w/\VRel G w.heap z u:=by
 unfold yB at h;split at h
 .rename_i kt et T ht a0
  have I:=wH ht;split at h
  .rename_i o
   have j:∀ b,(Instr.checkKey b 10000 kt U).run P w = .ok () w:=fun b=>ZL b J o
   rcases qa0 s rm a0 with ⟨rfl,rfl⟩|⟨mb,ce,cl,rfl,hb,hr⟩
   .simp only[q9]at h
    cases C:qx P et with
    |none=>simp[C]at h
    |some z0 =>
     simp only[C,qS,qj]at h;subst h;obtain⟨p,l,rfl⟩:=wF C w;have g:=(u7 (es:=[]) (ce:=#[]) J o ⟨rfl,zSp⟩ (r:=none) rfl).1;cases ok
     .exact ⟨p,by simp[Instr.lookup,run_underlying I,j,g,l],.ofV p⟩
     .exact ⟨.tuple #[p,.bool false],by simp[Instr.lookup,run_underlying I,j,g,l],tup2 (.ofV p) (.sc _ rfl)⟩
   .have R:=vL (P:=P) hb
    split at h
    .rename_i i hf
     obtain⟨g,a1⟩:=u7 J o hr hf;have hi:=a1 i rfl;have hx:T[i]?=some T[i]:=zP1 hi;rw[hx]at h;simp only[qS,qj]at h;subst h;obtain⟨e,he,h1,h2⟩:=hr.2 i _ hx;have a2:ce.getD i default=e:=by
      simp_all
     simp only[qS,a2]at g;cases ok
     .exact ⟨e.val,by simp[Instr.lookup,run_underlying I,R,j,g],h2⟩
     .exact ⟨.tuple #[e.val,.bool true],by simp[Instr.lookup,run_underlying I,R,j,g],tup2 h2 (.sc _ rfl)⟩
    .rename_i hf
     obtain⟨g,_⟩:=u7 J o hr hf;simp only[Option.map_none]at g;cases C:qx P et with
     |none=>simp[C]at h
     |some z0 =>
      simp only[C,qS,qj]at h;subst h;obtain⟨p,l,rfl⟩:=wF C w;cases ok
      .exact ⟨p,by simp[Instr.lookup,run_underlying I,R,j,g,l],.ofV p⟩
      .exact ⟨.tuple #[p,.bool false],by simp[Instr.lookup,run_underlying I,R,j,g,l],tup2 (.ofV p) (.sc _ rfl)⟩
    grind
  grind
 grind
theorem Kc:∀(xs ys:List AV),aEqs xs ys=some true->xs=ys
 | [],[],_=>rfl
 | [],_ :: _,h=>by simp[aEqs]at h
 |x :: xs,[],h=>by cases x<;>simp[aEqs]at h
 |x :: xs,y :: ys,h=>by
  unfold aEqs at h;split at h
  .rename_i g i;cases g
  .rename_i k a l k' b o g i
   simp only[List.cons.injEq]at g i;obtain⟨rfl,rfl⟩:=g;obtain⟨rfl,rfl⟩:=i;split at h
   .rename_i p
    subst p;split at h
    .rename_i j
     have:=beq_iff_eq.1 j;subst this;rw[Kc xs ys h]
    grind
   grind
  grind
theorem Ke(q:IntKind):∀(xs ys:List AV),xs.length=ys.length->xs.all (Qn q)=true->ys.all (Qn q)=true->∃ b,aEqs xs ys=some b
 | [],[],_,_,_=>⟨true,rfl⟩
 | [],_ :: _,h,_,_=>by simp at h
 |_ :: _,[],h,_,_=>by simp at h
 |x :: xs,y :: ys,h,g,i=>by
  simp only[List.all_cons,qq]at g i;obtain⟨b,t⟩:=Ke q xs ys (zUs h) g.2 i.2;have j:=g.1;have l:=i.1;unfold Qn at j l;split at j
  .split at l
   .rename_i C a _ I c
    have o:=beq_iff_eq.1 j;have p:=beq_iff_eq.1 l;subst o;subst p;by_cases r:(a == c)=true
    .simp_all [aEqs]
    simp_all[aEqs]
   grind
  grind
theorem Kf{a b:ByteArray}(h:(a == b)=true):a=b:=by
 obtain⟨x⟩:=a;obtain⟨y⟩:=b;have g:(x == y)=true:=h;rw[beq_iff_eq.1 g]
theorem qa1(h:ja P g x y=some true):x=y:=by
 unfold ja at h;split at h
 .grind
 .grind [qj,Kf,absurd]
 .grind
 .grind [Kc,absurd]
 grind
theorem Kg{l:j1}(i:yF P l x=true)(g:yF P l y=true):∃ b,ja P l x y=some b:=by
 unfold yF at i g;unfold ja;split at i
 .rename_i q j
  simp only[j]at g⊢;unfold Qn at i g;split at i
  .split at g
   .simp_all
   grind
  grind
 .rename_i j
  simp only[j]at g⊢;split at i
  .split at g
   .exact ⟨_,rfl⟩
   grind
  grind
 .rename_i j
  simp only[j]at g⊢;split at i
  .split at g
   .exact ⟨_,rfl⟩
   grind
  grind
 .rename_i n e j
  simp only[j]at g⊢;split at i
  .rename_i q o p
   simp only[o,p]at g⊢;split at i
   .split at g
    .rw [qq]at i g
     have r:=beq_iff_eq.1 i.1;have l2:=beq_iff_eq.1 g.1;simp only;rw[if_pos ⟨r,l2⟩]
     grind [Ke]
    grind
   grind
  grind
 grind
theorem ZM:∀{es:List (AV×AV)} {i j:Nat},q9 P g k es i=some (some j)->i<=j/\∃ e,es[j-i]?=some e/\k=e.1
 | [],i,j,h=>by simp[q9]at h
 |e :: es,i,j,h=>by
  unfold q9 at h;split at h
  .rename_i l
   simp only[qj]at h;subst h;exact⟨qn _,e,zSp,qa1 l⟩
  .obtain ⟨o,p,r,t⟩:=ZM h
   grind
  grind
theorem V5{j:j1}:∀{es:List (AV×AV)} {i:Nat},q9 P j k es i=some none->∀ e,e∈es->ja P j k e.1=some false
 | [],_,_=>zSp
 |e :: es,i,h=>by
  unfold q9 at h;split at h
  .exact absurd h zSp
  .rename_i l
   intro o g;rcases qu.1 g with rfl|g
   .exact l
   .exact V5 h o g
  grind
theorem Kh(l:yF P g k=true):∀(es:List (AV×AV)) (i:Nat),(∀ e,e∈es->yF P g e.1=true)->∃ r,q9 P g k es i=some r
 | [],i,_=>⟨none,rfl⟩
 |e :: es,i,h=>by
  obtain⟨b,p⟩:=Kg l (h e zSp);obtain⟨r,t⟩:=Kh l es (i+1) (fun o j=>h o (zP1 j))
  grind [q9]
theorem PIx.mem{C:Type}{o r:Nat->Nat}{es i:List C}(p:PIx o r es i){x:C}:x∈i↔x∈es:=by
 constructor
 .intro h
  obtain⟨j,l⟩:=List.mem_iff_getElem?.1 h;have g:j<es.length:=by rw[<-p.1];grind
  rw[p.back g]at l
  grind
 .intro h
  obtain⟨j,l⟩:=List.mem_iff_getElem?.1 h;have g:j<es.length:=(qe.1 l).1;rw[<-(p.2 j g).2.2.2.2]at l
  grind
theorem qa2(h:(es.map Prod.fst).Nodup){x y:AV×AV}(g:x∈es)(i:y∈es)(e:x.1=y.1):x=y:=by
 induction es with
 |nil=>simp at g
 |cons z es j =>
  grind
theorem Ki{i:j1}(h:ja P i x y=some false):x≠y:=by
 rintro rfl;unfold ja at h;have agg:∀ g:List AV,aEqs g g≠some false:=by
  intro g;induction g with
  |nil=>simp[aEqs]
  |cons x g o =>
   intro h;obtain⟨k,a,p,j,rfl,r,h⟩:=ZK h
   grind
 have ba:∀ a:ByteArray,(a == a)=true:=fun a=>by obtain⟨l⟩:=a;exact(beq_self_eq_true l)
 split at h
 .grind
 .grind
 .grind
 .grind
 grind
theorem qa3{t T et:j1}{p:List (AV×AV)}{z:AV}{ok:Bool}{σ τ:Nat->Nat}(ht:mapT P t=some (T,et))(I:PIx σ τ es p)(hd:(es.map Prod.fst).Nodup)
  (ho:∀ e,e∈es->yF P T e.1=true) (h:yB P mu t (.im es) k ok=some z):yB P mu t (.im p) k ok=some z:=by
 unfold yB at *
 simp only[ht,jz]at h⊢;split at h
 .rename_i U
  rw[if_pos U];obtain⟨r',o⟩:=Kh U p 0 (fun e r=>ho e (I.mem.1 r));rw[o];split at h
  .rename_i i J
   obtain⟨_,e,r,C⟩:=ZM J;simp only[Nat.sub_zero]at r;rw[r]at h;cases r' with
   |none=>exact absurd C (Ki (V5 o e (I.mem.2 (qZ r))))
   |some j =>
    obtain⟨_,R,g,l⟩:=ZM o;simp only[Nat.sub_zero]at g;have:R=e:=qa2 hd (I.mem.1 (qZ g)) (qZ r) (by rw[<-C,<-l])
    grind
  .rename_i J
   cases r' with
   |none=>exact h
   |some j =>
    obtain⟨_,R,g,l⟩:=ZM o;simp only[Nat.sub_zero]at g;exact absurd l (Ki (V5 J R (I.mem.1 (qZ g))))
  grind
 grind
def yG(P:qf)(mu:Mu)(t:j1)(m k:AV)(ok:Bool):Option AV:=
 match m with
 | .ims T=>(match mapT P t with
  |some (g,_)=>if (T.all fun e=>yF P g e.1)=true then yB P mu t (.im T) k ok else none
  |none=>none)
 |m=>yB P mu t m k ok
@[go_sem] theorem qlK(P:qf)(mu:Mu)(t:j1)(es:List (AV×AV))(k:AV)(ok:Bool):yG P mu t (.ims es) k ok=(match mapT P t with
  |some (g,_)=>if (es.all fun e=>yF P g e.1)=true then yB P mu t (.im es) k ok else none
  |none=>none):=rfl
@[go_sem] theorem qlL(P:qf)(mu:Mu)(t:j1)(es:List (AV×AV))(k:AV)(ok:Bool):yG P mu t (.im es) k ok=yB P mu t (.im es) k ok:=rfl
@[go_sem] theorem qlM(P:qf)(mu:Mu)(t:j1)(b:Nat)(k:AV)(ok:Bool):yG P mu t (.mp b) k ok=yB P mu t (.mp b) k ok:=rfl
@[go_sem] theorem qlN(P:qf)(mu:Mu)(t:j1)(v:j3)(k:AV)(ok:Bool):yG P mu t (.sc v) k ok=yB P mu t (.sc v) k ok:=rfl
theorem qa4(s:Sim G mu w.heap){t:j1}{m k z:AV}{ok:Bool}{g i:j3}(j:VRel G w.heap m g)(l:VRel G w.heap k i)(h:yG P mu t m k ok=some z) :
  ∃ u,(Instr.lookup t g i ok).run P w = .ok u w/\VRel G w.heap z u:=by
 unfold yG at h;split at h
 .rename_i T
  split at h
  .rename_i J R o
   split at h
   .rename_i U
    cases j with
    |ims _ p σ τ _ C I r =>
     exact Kb s r l (qa3 o C I (fun e he=>by grind) h)
   grind
  grind
 .exact Kb s j l h
theorem qa5:∀(xs ys:List AV) (g i:List j3) (n:Nat),aEqs xs ys=some true->g.length=xs.length->i.length=ys.length->(∀(k:Nat) x,xs[k]?=some x->∃ v,g[k]?=some v/\VRel G h x v) ->
  (∀(k:Nat) x,ys[k]?=some x->∃ v,i[k]?=some v/\VRel G h x v)->g.length=i.length/\((g.zip i).all fun (x,y)=>Instr.sameBits n x y)=true:=by
 intro xs;induction xs with
 |nil =>
  intro ys g i n o p r _ _;cases ys with
  |nil=>simp_all
  |cons=>simp[aEqs]at o
 |cons x xs R =>
  intro ys g i n o p r I l;have T:=ZK o;clear o;obtain⟨k,a,b',t,rfl,rfl,h⟩:=T;rcases h with ⟨U,h⟩|⟨_,h⟩
  .cases g with
   |nil=>simp at p
   |cons v g =>
    cases i with
    |nil=>simp at r
    |cons u i =>
     obtain⟨v',J,r1⟩:=I 0 _ rfl;obtain⟨u',P,r2⟩:=l 0 _ rfl;simp at J P;subst J;subst P;cases r1;cases r2;obtain⟨g1,g2⟩:=R t g i n h (zUs p) (zUs r) (fun j y C=>I (j+1) y (zUs C)) (fun j y C=>l (j+1) y (zUs C));refine⟨by simp[g1],?_⟩;simp_all[List.zip_cons_cons,List.all_cons,Instr.sameBits]
  grind
theorem V6{kt:j1}{u v:j3}(R:VRel G h x u)(T:VRel G h y v)(i:ja P kt x y=some true):Instr.sameBits 10000 v u=true:=by
 unfold ja at i;split at i
 .split at i
  .cases R;cases T
   split at i
   .simp_all [qj,beq_iff_eq,Instr.sameBits]
   grind
  grind
 .split at i
  .cases R;cases T
   simp_all[Option.some.inj,Instr.sameBits,beq_toListBytes,beq_iff_eq]
  grind
 .split at i
  .cases R;cases T
   have i:=Option.some.inj i;simp_all[Instr.sameBits,beq_iff_eq]
  grind
 .split at i
  .split at i
   .rename_i g j
    split at i
    .rename_i hl
     cases R with
     |agg _ p U hv =>
     cases T with
     |agg _ t hm hw =>
     have g1:=Qm U hv;have g2:=Qm hm hw;have:=qa5 (G:=G) (h:=h) g j p.toList t.toList 9999 i (zUs U) (zUs hm) (fun k x hx=>by have:=g1 k x hx;simpa using this) (fun k x hx=>by have:=g2 k x hx;simpa using this);have C:∀(a b:List j3),a.length=b.length->((a.zip b).all fun (x,y)=>Instr.sameBits 9999 x y)=true->(∀ c,c∈a->∃ k n,c = .int k n)->(∀ c,c∈b->∃ k n,c = .int k n)->((b.zip a).all fun (x,y)=>Instr.sameBits 9999 x y)=true:=by
      intro a;induction a with
      |nil=>intro b _ _ _ _;simp
      |cons c a ih =>
       intro b hl h ha hb;cases b with
       |nil=>simp at hl
       |cons d b =>
        obtain⟨k1,n1,rfl⟩:=ha c zSp;obtain⟨k2,n2,rfl⟩:=hb d zSp;simp only[List.zip_cons_cons,List.all_cons,qq]at h⊢;refine⟨?_,ih b (zUs hl) h.2 (fun c o=>ha c (zP1 o)) (fun c o=>hb c (zP1 o))⟩;simp only[Instr.sameBits,qq,beq_iff_eq]at h⊢;exact⟨h.1.1.symm,h.1.2.symm⟩
     have ints:∀(g j:List AV),aEqs g j=some true->(∀ c,c∈g->∃ k n,c = .sc (.int k n))/\(∀ c,c∈j->∃ k n,c = .sc (.int k n)):=by
      intro g;induction g with
      |nil=>intro j h;cases j with
       |nil=>simp
       |cons=>simp[aEqs]at h
      |cons x g ih =>
       intro j h;have h':=ZK h;clear h;obtain⟨k,a,b',a0,rfl,rfl,h⟩:=h';rcases h with ⟨_,h⟩|⟨_,h⟩
       .obtain ⟨g1,g2⟩:=ih a0 h
        refine⟨fun c o=>?_,fun c o=>?_⟩
        .rcases qu.1 o with rfl|o
         .exact ⟨k,a,rfl⟩
         .exact g1 c o
        .rcases qu.1 o with rfl|o
         .exact ⟨k,b',rfl⟩
         .exact g2 c o
       .exact absurd h zSp
     obtain⟨i1,i2⟩:=ints g j i;have val:∀(l:List AV) (I:Array j3),I.size=l.length->(∀(k:Nat) x,l[k]?=some x->VRel G h x (I.getD k va))->(∀ c,c∈l->∃ k n,c = .sc (.int k n))->∀ c,c∈I.toList->∃ k n,c = .int k n:=by
      intro l I U hv hi c o;obtain⟨k,i⟩:=List.mem_iff_getElem?.1 o;have J:I[k]?=some c:=zUs i;have a1:k<l.length:=by have:=(zM.1 J).1;omega
      obtain⟨q,n,e⟩:=hi l[k] zSp;have r:=hv k l[k] (zP1 a1);rw[e,mW J]at r;cases r;exact⟨q,n,rfl⟩
     have hs:=C p.toList t.toList this.1 this.2 (val g p U hv i1) (val j t hm hw i2);show (t.size == p.size&&(t.toList.zip p.toList).all fun (x,y)=>Instr.sameBits 9999 x y)=true
     grind
    grind
   grind
  grind
 grind
theorem V7:∀(es:List (AV×AV)) (i j:Nat),q9 P g k es i=some (some j)->i<=j/\∃ e,es[j-i]?=some e/\ja P g k e.1=some true:=by
 intro es;induction es with
 |nil=>intro i j h;simp[q9]at h
 |cons e es l =>
  intro i j h;simp only[q9]at h;split at h
  .grind
  .grind
  grind
end
end Go.Ev
namespace Go.Ev
open Go Go.RowKit
section
variable {ce:Array vz}{h:Array Obj}{G:Gh}{es:List (AV×AV)}{l mu:Mu}{g:Nat}{P:qf}{w:j2}
@[go_sem] def Je(es:List (AV×AV))(i:Option Nat)(k v:AV):List (AV×AV):=
 match i with
 |some i=>es.set i (k,v)
 |none=>es++[(k,v)]
theorem ur{r:Nat}(h:w.heap[r]?=some (.map ce g))(o:Obj):(setObj r o).run P w = .ok () { w with heap:=w.heap.setIfInBounds r o }:=by
 simp[setObj,Sem.run,h]
theorem V8(w:j2)(r:Nat)(o:Obj)(h:r<w.heap.size):({ w with heap:=w.heap.setIfInBounds r o }:j2).heap[r]?=some o:=by
 simp[h]
theorem V9(w:j2)(r k:Nat)(o:Obj)(h:k≠r):({ w with heap:=w.heap.setIfInBounds r o }:j2).heap[k]?=w.heap[k]?:=by
 grind
theorem Jf(s:Sim G mu w.heap){b:Nat}{v:j3}{es:List (AV×AV)}(r:VRel G w.heap (.mp b) v)(l:mu[b]?=some (.mp es)) :
  ∃ m g ce,v = .map (some m)/\G.blk[b]?=some (m,g)/\w.heap[m]?=some (.map ce ce.size)/\yr G w.heap es ce.toList/\(∀(k:Nat) (e:vz),ce[k]?=some e->e.born=k):=by
 cases r with
 |mp _ i g j =>
  obtain⟨ce,I,o,p,J,P,t,C⟩:=s.mp _ _ i g l j;subst t;refine⟨i,g,ce,rfl,j,o,⟨zUs p,fun k x R=>?_⟩,C⟩
  grind [qe,Jd]
theorem qa6(i:yr G h es ce.toList)(l:∀(k:Nat) (e:vz),ce[k]?=some e->e.born=k):jS G h g (.map ce ce.size) (.mp es):=by
 refine⟨ce,ce.size,rfl,by simpa using i.1,fun k x j=>?_,fun k x j=>?_,rfl,l⟩
 .obtain ⟨e,o,p,r⟩:=i.2 k x j
  simp_all
 .obtain ⟨e,o,p,r⟩:=i.2 k x j
  simp_all
theorem Kj(g:yr G h es ce.toList){i:Nat}(C:i<es.length){k v:AV}{o p:j3}(I:VRel G h k o)(J:VRel G h v p) :
  yr G h (es.set i (k,v)) (ce.modify i fun e=>{ e with key:=o,val:=p }).toList:=by
 refine⟨by simpa using g.1,fun j x l=>?_⟩;rcases jy l with ⟨rfl,rfl⟩|⟨r,l⟩
 .have t:j<ce.size:=by have:=g.1;simp at this;omega
  simp_all
 .obtain ⟨e,P,R,T⟩:=g.2 j x l
  grind
theorem Ua(i:yr G h es ce.toList){k v:AV}{l o:j3}(t:VRel G h k l)(C:VRel G h v o)(n:Nat) :
  yr G h (es++[(k,v)]) (ce.push { key:=l,val:=o,born:=n }).toList:=by
 have r:ce.size=es.length:=by simpa using i.1
 refine⟨zP1 r,fun j x g=>?_⟩;rcases zy g with ⟨I,g⟩|⟨rfl,rfl⟩
 .obtain ⟨e,J,P,R⟩:=i.2 j x g
  grind
 simp_all
theorem Ub(g:∀(k:Nat) (e:vz),ce[k]?=some e->e.born=k)(i:Nat)(f:vz->vz)(hf:∀ e,(f e).born=e.born):∀(k:Nat) (e:vz),(ce.modify i f)[k]?=some e->e.born=k:=by
 grind
theorem Kk(g:∀(k:Nat) (e:vz),ce[k]?=some e->e.born=k)(x:vz)(i:x.born=ce.size):∀(k:Nat) (e:vz),(ce.push x)[k]?=some e->e.born=k:=by
 grind
theorem Stp.putMap(s:Sim G mu w.heap){b m j:Nat}{es i:List (AV×AV)}{ce g:Array vz}(o:mu[b]?=some (.mp es))(p:G.blk[b]?=some (m,j))(r:w.heap[m]?=some (.map ce ce.size))
  (t:yr G w.heap i g.toList) (l:∀(k:Nat) (e:vz),g[k]?=some e->e.born=k):Stp G mu w G (mu.set b (.mp i)) { w with heap:=w.heap.setIfInBounds m (.map g g.size) }:=by
 grind [zM,Stp.write,V8,V9,qa6]
theorem qa7(s:Sim G mu w.heap){b:Nat}{v:j3}{es:List (AV×AV)}(r:VRel G w.heap (.mp b) v)(o:mu[b]?=some (.md es)) :
  ∃ m g ce j,v = .map (some m)/\G.blk[b]?=some (m,g)/\w.heap[m]?=some (.map ce j)/\yr G w.heap es ce.toList/\jh ce j:=by
 cases r with
 |mp _ i g l =>
  obtain⟨ce,j,p,t,I,J,C⟩:=s.md _ _ i g o l;refine⟨i,g,ce,j,rfl,l,p,⟨zUs t,fun k x P=>?_⟩,C⟩
  grind [qe,Jd]
theorem qa8{i:Nat}(j:yr G h es ce.toList)(o:jh ce g):jS G h i (.map ce g) (.md es):=by
 refine⟨ce,g,rfl,by simpa using j.1,fun k x l=>?_,fun k x l=>?_,o⟩
 .obtain ⟨e,p,r,t⟩:=j.2 k x l
  simp_all
 .obtain ⟨e,p,r,t⟩:=j.2 k x l
  simp_all
theorem Stp.putMapD(s:Sim G mu w.heap){b m j:Nat}{c:Cell}{i:List (AV×AV)}{o:Obj}{g:Array vz}{p:Nat}(r:mu[b]?=some c)(t:c ≠ .dead)(C:G.blk[b]?=some (m,j))(I:w.heap[m]?=some o)
  (J:yr G w.heap i g.toList) (l:jh g p):Stp G mu w G (mu.set b (.md i)) { w with heap:=w.heap.setIfInBounds m (.map g p) }:=by
 grind [zM,Stp.write,V8,V9,qa8]
theorem qa9{l:Nat}(o:jh ce l)(i:Nat)(f:vz->vz)(hf:∀ e,(f e).born=e.born):jh (ce.modify i f) l:=by
 have key:∀(k:Nat) (e:vz),(ce.modify i f)[k]?=some e->∃ g,ce[k]?=some g/\g.born=e.born:=by
  grind
 refine⟨fun k e h=>?_,fun j k e p r t T=>?_⟩
 .obtain ⟨g,C,I⟩:=key k e h
  rw[<-I];exact o.1 k g C
 .obtain ⟨J,g1,U⟩:=key j e r
  obtain⟨P,R,g4⟩:=key k p t;exact o.2 j k J P g1 R zOm
theorem qbA{i:Nat}(g:jh ce i)(x:vz)(I:x.born=i):jh (ce.push x) (i+1):=by
 have key:∀(k:Nat) (e:vz),(ce.push x)[k]?=some e->(k=ce.size/\e=x)\/ce[k]?=some e:=by
  grind
 refine⟨fun k e h=>?_,fun j k e l r t C=>?_⟩
 .rcases key k e h with ⟨_,rfl⟩|h
  .omega
  .have:=g.1 k e h;omega
 .rcases key j e r with ⟨o,rfl⟩|o<;>rcases key k l t with ⟨p,rfl⟩|p
  .omega
  .have:=g.1 k l p;omega
  .have:=g.1 j e o;omega
  .exact g.2 j k e l o p C
theorem qbB{l:Nat}(o:jh ce l)(i:Nat):jh (ce.eraseIdxIfInBounds i) l:=by
 have key:∀ k:Nat,∃ j:Nat,(ce.eraseIdxIfInBounds i)[k]?=ce[j]?/\j=if k<i then k else if i<ce.size then k+1 else k:=by
  grind
 refine⟨fun k e h=>?_,fun j k e t p r C=>?_⟩
 .obtain ⟨j,g,_⟩:=key k
  rw[g]at h;exact o.1 j e h
 .obtain ⟨I,g,R⟩:=key j
  obtain⟨J,P,T⟩:=key k;rw[g]at p;rw[P]at r;have:=o.2 I J e t p r C
  grind
theorem qbC(j:yr G h es ce.toList){i:Nat}(t:i<es.length):yr G h (es.eraseIdx i) (ce.eraseIdxIfInBounds i).toList:=by
 have o:ce.size=es.length:=by simpa using j.1
 have e:(ce.eraseIdxIfInBounds i).toList=ce.toList.eraseIdx i:=by
  simp_all
 rw[e];refine⟨by simp[List.length_eraseIdx,o],fun k x g=>?_⟩;rw[List.getElem?_eraseIdx]at g;by_cases l:k<i
 .rw [if_pos l]at g
  obtain⟨c,p,r⟩:=j.2 k x g
  grind
 .rw [if_neg l]at g
  obtain⟨c,p,r⟩:=j.2 (k+1) x g
  grind
@[go_sem] def vM(P:qf)(mu:Mu)(t:j1)(m k v:AV):Option Mu:=
 match m,mapT P t with
 | .mp b,some (g,_)=>match mu[b]? with
  |some (.mp T)=>if yF P g k=true then (q9 P g k T 0).map fun r=>mu.set b (.mp (Je T r k v)) else none
  |some (.md T)=>if yF P g k=true then (q9 P g k T 0).map fun r=>mu.set b (.md (Je T r k v)) else none
  |_=>none
 |_,_=>none
theorem Uc{o n:j3}(h:Instr.sameBits 10000 o n=true):(Instr.keyThatStays o n).run P w = .ok n w:=by
 simp[Instr.keyThatStays,h]
theorem Kl(s:Sim G mu w.heap){t:j1}{m k v:AV}{vm vk vv:j3}(rm:VRel G w.heap m vm)(rk:VRel G w.heap k vk)(rv:VRel G w.heap v vv)(h:vM P mu t m k v=some l) :
  ∃ w',(Instr.mapUpdate t vm vk vv).run P w = .ok () w'/\Stp G mu w G l w':=by
 unfold vM at h;split at h
 .rename_i b kt et ht
  have hu:=wH ht;split at h
  .rename_i T hm
   split at h
   .rename_i I
    obtain⟨mb,a5,ce,rfl,hb,J,R,g⟩:=Jf s rm hm;have U:(Instr.checkKey false 10000 kt vk).run P w = .ok () w:=ZL false rk I;have hg:=vL (P:=P) J;have a6:ce.size=T.length:=by simpa using R.1
    cases hf:q9 P kt k T 0 with
    |none=>simp[hf]at h
    |some r =>
     simp only[hf,qS,qj]at h;subst h;obtain⟨j,a1⟩:=u7 rk I R hf;cases r with
     |none =>
      have o:=Ua R rk rv ce.size;have p:=Kk g { key:=vk,val:=vv,born:=ce.size } rfl;refine⟨_,?_,Stp.putMap s hm hb J o p⟩;simp only[Option.map_none]at j;simp[Instr.mapUpdate,run_underlying hu,hg,U,j,ur J]
     |some i =>
      obtain⟨_,e,he,a0⟩:=V7 T 0 i hf;rw[Nat.sub_zero]at he;obtain⟨c,hc,a2,a7⟩:=R.2 i e he;have a3:ce[i]?=some c:=zUs hc;have C:=V6 rk a2 a0;have o:=Kj R (a1 i rfl) rk rv;have p:=Ub g i (fun e=>{ e with key:=vk,val:=vv }) (fun _=>rfl);refine⟨_,?_,Stp.putMap s hm hb J o p⟩;simp only[qS]at j;simp[Instr.mapUpdate,run_underlying hu,hg,U,j,a3,Uc C,ur J]
   grind
  .rename_i T hm
   split at h
   .rename_i I
    obtain⟨mb,a5,ce,cl,rfl,hb,J,R,g⟩:=qa7 s rm hm;have U:(Instr.checkKey false 10000 kt vk).run P w = .ok () w:=ZL false rk I;have hg:=vL (P:=P) J;have a6:ce.size=T.length:=by simpa using R.1
    cases hf:q9 P kt k T 0 with
    |none=>simp[hf]at h
    |some r =>
     simp only[hf,qS,qj]at h;subst h;obtain⟨j,a1⟩:=u7 rk I R hf;cases r with
     |none =>
      have o:=Ua R rk rv cl;have p:=qbA g { key:=vk,val:=vv,born:=cl } rfl;refine⟨_,?_,Stp.putMapD s hm zSp hb J o p⟩;simp only[Option.map_none]at j;simp[Instr.mapUpdate,run_underlying hu,hg,U,j,ur J]
     |some i =>
      obtain⟨_,e,he,a0⟩:=V7 T 0 i hf;rw[Nat.sub_zero]at he;obtain⟨c,hc,a2,a7⟩:=R.2 i e he;have a3:ce[i]?=some c:=zUs hc;have C:=V6 rk a2 a0;have o:=Kj R (a1 i rfl) rk rv;have p:=qa9 g i (fun e=>{ e with key:=vk,val:=vv }) (fun _=>rfl);refine⟨_,?_,Stp.putMapD s hm zSp hb J o p⟩;simp only[qS]at j;simp[Instr.mapUpdate,run_underlying hu,hg,U,j,a3,Uc C,ur J]
   grind
  grind
 grind
@[go_sem] def wI(P:qf)(mu:Mu)(t:j1)(m k:AV):Option (AV×Mu):=
 match m,mapT P t with
 | .mp b,some (g,j)=>match mu[b]? with
  |some (.mp T)=>if yF P g k=true then
    match q9 P g k T 0 with
    |some (some i)=>(T[i]?).map fun e=>(.tup [e.2,.sc (.int .i64 i)],mu.set b (.mp (T.set i (k,e.2))))
    |some none=>(qx P j).map fun z=>(.tup [z,.sc (.int .i64 T.length)],mu.set b (.mp (T++[(k,z)])))
    |none=>none
   else none
  |_=>none
 |_,_=>none
theorem qbD(s:Sim G mu w.heap){t:j1}{m k z:AV}{vm U:j3}(rm:VRel G w.heap m vm)(rk:VRel G w.heap k U)(h:wI P mu t m k=some (z,l)) :
  Good P G mu w (Instr.mapEntry t vm U) z l:=by
 unfold wI at h;split at h
 .rename_i b kt et ht
  have hu:=wH ht;split at h
  .rename_i T hm
   split at h
   .rename_i p
    obtain⟨mb,a9,ce,rfl,hb,hh,r,g⟩:=Jf s rm hm;have a0:(Instr.checkKey false 10000 kt U).run P w = .ok () w:=ZL false rk p;have hg:=vL (P:=P) hh;have a2:ce.size=T.length:=by simpa using r.1
    split at h
    .rename_i i hf
     obtain⟨o,aa⟩:=u7 rk p r hf;obtain⟨_,e,he,a1⟩:=V7 T 0 i hf;rw[Nat.sub_zero]at he;rw[he]at h;simp only[qS,qj,vf]at h;obtain⟨rfl,rfl⟩:=h;obtain⟨c,hc,a3,a4⟩:=r.2 i e he;have C:ce[i]?=some c:=zUs hc;have I:=V6 rk a3 a1;have a5:ce.getD i default=c:=by simp[qB,C]
     have J:yr G w.heap (T.set i (k,e.2)) (ce.modify i fun e=>{ e with key:=U }).toList:=by
      refine⟨by simpa using r.1,fun j x hx=>?_⟩;rcases jy hx with ⟨rfl,rfl⟩|⟨ab,hx⟩
      .grind
      .obtain ⟨e',ad,h1,h2⟩:=r.2 j x hx
       grind
     have R:=Ub g i (fun e=>{ e with key:=U }) (fun _=>rfl);have a6:c.born=i:=g i c C;have st:=Stp.putMap s hm hb hh J R;refine⟨.tuple #[c.val,.int .i64 i],_,G,?_,st,tup2 (st.vrel s a4) (.sc _ rfl)⟩;simp only[qS,a5]at o;simp[Instr.mapEntry,run_underlying hu,hg,a0,o,C,Uc I,ur hh,goInt,a6]
    .rename_i hf
     obtain⟨o,_⟩:=u7 rk p r hf;cases hz:qx P et with
     |none=>simp[hz]at h
     |some z0 =>
      simp only[hz,qS,qj,vf]at h;obtain⟨rfl,rfl⟩:=h;obtain⟨zv,a7,rfl⟩:=wF hz w;have J:=Ua r rk (VRel.ofV (G:=G) (h:=w.heap) zv) ce.size;have R:=Kk g { key:=U,val:=zv,born:=ce.size } rfl;have st:=Stp.putMap s hm hb hh J R;refine⟨.tuple #[zv,.int .i64 T.length],_,G,?_,st,tup2 (.ofV zv) (.sc _ rfl)⟩;simp only[Option.map_none]at o;simp[Instr.mapEntry,run_underlying hu,hg,a0,o,a7,ur hh,goInt,a2]
    grind
   grind
  grind
 grind
@[go_sem] def Jg(mu:Mu)(m g v:AV):Option Mu:=
 match m,g with
 | .mp b,.sc (.int _ i)=>match mu[b]? with
  |some (.mp T)=>if 0<=i then (T[i.toNat]?).map fun e=>mu.set b (.mp (T.set i.toNat (e.1,v))) else none
  |_=>none
 |_,_=>none
theorem qbE(s:Sim G mu w.heap){t:j1}{m st v:AV}{vm vs p:j3}(rm:VRel G w.heap m vm)(rs:VRel G w.heap st vs)(rv:VRel G w.heap v p)(h:Jg mu m st v=some l) :
  ∃ w',(Instr.entryStore t vm vs p).run P w = .ok () w'/\Stp G mu w G l w':=by
 unfold Jg at h;split at h
 .rename_i b q i
  split at h
  .rename_i T hm
   split at h
   .rename_i a1
    cases r:T[i.toNat]? with
    |none=>simp[r]at h
    |some e =>
     simp only[r,qS,qj]at h;subst h;obtain⟨mb,a2,ce,rfl,hb,C,I,g⟩:=Jf s rm hm;cases rs;have hg:=vL (P:=P) C;obtain⟨c,hc,a3,a4⟩:=I.2 _ e r;have J:ce[i.toNat]?=some c:=zUs hc;have R:i.toNat<ce.size:=(zM.1 J).1;have o:ce.findIdx? (fun e=>(e.born:Int) == i)=some i.toNat:=by
      rw[Array.findIdx?_eq_some_iff_getElem];refine⟨R,?_,fun j hj=>?_⟩
      .grind
      .have:ce[j].born=j:=g j _ (by simp[show j<ce.size by omega])
       simp[this];omega
     have U:yr G w.heap (T.set i.toNat (e.1,v)) (ce.modify i.toNat fun e=>{ e with val:=p }).toList:=by
      refine⟨by simpa using I.1,fun j x hx=>?_⟩;rcases jy hx with ⟨rfl,rfl⟩|⟨a5,hx⟩
      .grind
      .obtain ⟨e',a6,h1,h2⟩:=I.2 j x hx
       grind
     have a0:=Ub g i.toNat (fun e=>{ e with val:=p }) (fun _=>rfl);refine⟨_,?_,Stp.putMap s hm hb C U a0⟩;simp[Instr.entryStore,hg,asInt,asIntOf,o,ur C]
   grind
  grind
 grind
theorem qbF(s:Sim G mu w.heap){t:j1}:Good P G mu w (Instr.makeMap t none) (.mp mu.length) (mu++[.mp []]):=by
 have st:=Stp.allocNew s (.map #[] 0) (.mp []) 0 (fun _=>⟨#[],0,rfl,rfl,zSp,zSp,rfl,zSp⟩);refine⟨.map (some w.heap.size),_,_,?_,st,.mp _ w.heap.size 0 ?_⟩
 .simp [Instr.makeMap]
 .show (G.blk++[_])[mu.length]?=_
  rw[<-s.len];simp
@[go_sem] def Jh(P:qf)(mu:Mu)(t:j1)(m:AV):Option (AV×Mu):=
 match mapT P t,m with
 |some _,.im T=>some (.ptr mu.length 0,mu++[.it T []])
 |some _,.ims T=>some (.ptr mu.length 0,mu++[.it T []])
 |some _,.sc (.map none)=>some (.ptr mu.length 0,mu++[.it [] []])
 |_,_=>none
theorem qbG(s:Sim G mu w.heap){t:j1}{m z:AV}{U:j3}(i:VRel G w.heap m U)(h:Jh P mu t m=some (z,l)):Good P G mu w (Instr.range t U) z l:=by
 unfold Jh at h;split at h
 .rename_i o T p
  obtain⟨kt,et⟩:=o;have r:=wH p;simp only[qj,vf]at h;obtain⟨rfl,rfl⟩:=h;have j:=i;cases i with
  |im _ g ce clock C I hn hk hv hd =>
  have st:=Stp.allocNew s (.mapIter (some g) clock #[] clock) (.it T []) 0 (fun h => .inl ⟨g,T,id,id,ce,clock,j,C,I,PIx.refl T,zSp,zSp⟩);refine⟨.pointer (some ⟨w.heap.size,0,none⟩),_,_,?_,st,.ptr _ 0 w.heap.size 0 ?_⟩
  .have J:=vL (P:=P) C
   simp[Instr.range,run_underlying r,J]
  .show (G.blk++[_])[mu.length]?=_
   rw[<-s.len];simp
 .rename_i o T p
  obtain⟨kt,et⟩:=o;have r:=wH p;simp only[qj,vf]at h;obtain⟨rfl,rfl⟩:=h;cases i with
  |ims _ R σ τ _ hp a0 i =>
  have j:=i;cases i with
  |im _ g ce clock C I hn hk hv hd =>
  have st:=Stp.allocNew s (.mapIter (some g) clock #[] clock) (.it T []) 0 (fun h => .inl ⟨g,R,σ,τ,ce,clock,j,C,I,hp,zSp,zSp⟩);refine⟨.pointer (some ⟨w.heap.size,0,none⟩),_,_,?_,st,.ptr _ 0 w.heap.size 0 ?_⟩
  .have J:=vL (P:=P) C
   simp[Instr.range,run_underlying r,J]
  .show (G.blk++[_])[mu.length]?=_
   rw[<-s.len];simp
 .rename_i o p
  obtain⟨kt,et⟩:=o;have r:=wH p;simp only[qj,vf]at h;obtain⟨rfl,rfl⟩:=h;cases i;have st:=Stp.allocNew s (.mapIter none 0 #[] 0) (.it [] []) 0 (fun _ => .inr ⟨rfl,rfl⟩);refine⟨.pointer (some ⟨w.heap.size,0,none⟩),_,_,?_,st,.ptr _ 0 w.heap.size 0 ?_⟩
  .simp [Instr.range,run_underlying r]
  .show (G.blk++[_])[mu.length]?=_
   rw[<-s.len];simp
 grind
def Ud(mu:Mu)(g:AV)(K:AV->Mu->Prop):Prop:=
 ∃ b T seen,g = .ptr b 0/\mu[b]?=some (.it T seen) /\
  (∀(i:Nat) e,T[i]?=some e->i ∉ seen->K (.tup [.sc (.bool true),e.1,e.2]) (mu.set b (.it T (seen++[i])))) /\
  ((∀ i,i<T.length->i∈seen)->K (.tup [.sc (.bool false)]) mu)
theorem tup1{y:AV}{u:j3}(i:VRel G h y u):VRel G h (.tup [y]) (.tuple #[u]):=by
 refine .tup _ _ rfl (fun k c g=>?_);cases k with
 |zero=>simp at g;subst g;exact i
 |succ k=>simp at g
theorem tup3{x y z:AV}{t u v:j3}(i:VRel G h x t)(j:VRel G h y u)(l:VRel G h z v):VRel G h (.tup [x,y,z]) (.tuple #[t,u,v]):=by
 refine .tup _ _ rfl (fun k c g=>?_)
 match k,g with
 | 0,g=>simp at g;subst g;exact i
 | 1,g=>simp at g;subst g;exact j
 | 2,g=>simp at g;subst g;exact l
 |k+3,g=>simp at g
theorem qbH(s:Sim G mu w.heap){an:AV}{vi:j3}{ty:j1}(ri:VRel G w.heap an vi){K:AV->Mu->Prop}(h:Ud mu an K) :
  ∃ z l,K z l/\Good P G mu w (Instr.next vi false ty) z l:=by
 obtain⟨b,T,seen,rfl,hm,h1,h2⟩:=h;cases ri with
 |ptr _ _ r ao hb =>
 obtain⟨o,ho,ag⟩:=s.obj b _ r ao hm zSp hb;have b2:r<w.heap.size:=(zM.1 ho).1;rcases ag with ⟨m,a1,σ,τ,g,p,rm,a6,hi,I,a2,rfl⟩|⟨rfl,rfl⟩
 .cases rm with
  |im _ _ ce clock ab a7 aq hk hv hd =>
  rw[a6]at ab;obtain⟨rfl,rfl⟩:g=ce/\p=clock:=zUs ab;have hn:g.size=T.length:=by rw[aq];exact I.1
  have ar:∀ j,j<T.length->g[j]?=some (g.getD j default):=fun j hj=>by
   simp_all
  generalize au:(seen.map fun i=>(g.getD (σ i) default).born)=sn at ho;have ad:∀ j,j<T.length->((g.getD j default).born∈sn↔τ j∈seen):=by
   intro j hj;rw[<-au,qk];constructor
   .rintro ⟨i,a7,b3⟩
    have h1:=I.2 i (a2 i a7);have:=hd.2 _ _ _ _ (ar _ h1.1) (ar j hj) b3
    grind
   .intro b4
    exact⟨τ j,b4,by simp only[(I.2 j hj).2.2.2.1]⟩
  have a3:(getObj r).run P w = .ok (.mapIter (some m) p sn.toArray p) w:=by simp[getObj,Sem.run,ho]
  have ah:=vL (P:=P) a6;have J:(!sn.toArray.isEmpty&&!g.isEmpty&&g.all fun e=>decide (e.born>=p))=false:=by
   by_cases bb:g.size=0
   .grind
   .have:(g.all fun e=>decide (e.born>=p))=false:=by
     cases hq:(g.all fun e=>decide (e.born>=p)) with
     |false=>rfl
     |true =>
      have h0:g[0]?=some (g[0]' zOm):=by simp[show 0<g.size by omega]
      have:=(Array.all_eq_true'.1 hq) _ (Array.mem_of_getElem? h0);have bc:=hd.1 0 _ h0
      grind
    rw[this];simp
  have av:∀(a:Array vz),(∀ e,e∈a->e∈g)->(a.filter fun e=>decide (e.born<p))=a/\(a.filter fun e=>decide (e.born>=p))=#[]:=by
   intro a ha;have hb:∀ e,e∈a->e.born<p:=by
    intro e he;obtain⟨k,hk⟩:=Array.mem_iff_getElem?.1 (ha e he);exact hd.1 k e hk
   simp_all
  obtain⟨ai,aj⟩:=av (g.filter fun e=>!sn.toArray.contains e.born) (fun e he=>(Array.mem_filter.1 he).1);generalize C:(g.filter fun e=>!sn.toArray.contains e.born)=left at ai aj;have a0:∀ e,e∈left->∃(k:Nat) (x:AV×AV),T[k]?=some x/\k ∉ seen/\e.born=(g.getD (σ k) default).born/\VRel G w.heap x.1 e.key/\VRel G w.heap x.2 e.val:=by
   intro e he;rw[<-C,Array.mem_filter]at he;obtain⟨k,aw⟩:=Array.mem_iff_getElem?.1 he.1;have a8:k<g.size:=(zM.1 aw).1;have a4:k<T.length:=zOm;have hx:a1[k]?=some (a1[k]' zOm):=by simp[show k<a1.length by omega]
   have a9:g.getD k default=e:=by simp[qB,aw]
   refine⟨τ k,_,by rw[<-I.back a4];exact hx,?_,by rw[(I.2 k a4).2.2.2.1,a9],by have:=hk k _ hx;rwa[a9]at this,by have:=hv k _ hx;rwa[a9]at this⟩;intro hs;have:=he.2;have h3:=(ad k a4).2 hs;rw[a9]at h3;simp[h3]at this
  by_cases a5:left=#[]
  ·
   have ax:∀ i,i<T.length->i∈seen:=by
    intro i hi;refine Classical.byContradiction fun ak=>?_
    obtain⟨q1,q2,q3,q4,q5⟩:=I.2 i hi;have a7:σ i<g.size:=zOm;have:g[σ i]∈left:=by
     rw[<-C,Array.mem_filter];refine⟨zSp,?_⟩;have h4:g.getD (σ i) default=g[σ i]:=by simp[qB,a7]
     have h3:g[σ i].born ∉ sn:=fun h=>ak (by rw[<-h4]at h;have:=(ad _ q1).1 h;rwa[q3]at this)
     simp[h3]
    rw[a5]at this;simp at this
   refine⟨_,_,h2 ax,?_⟩;refine Good.quiet s (v := .tuple #[.bool false]) ?_ (tup1 (.sc _ rfl));simp only[Instr.next,qE,a3,qG,ah,J,Bool.false_eq_true,if_false,C,a5];simp[Question.forced]
  .have R:0<left.size:=by
    rcases Nat.eq_zero_or_pos left.size with h|h
    .exact absurd (Array.eq_empty_of_size_eq_zero h) a5
    .exact h
   have ay:left.isEmpty=false:=by simp[Array.isEmpty];omega
   have ae:∀(n:Nat) (h:n<left.size),left[n]?=some left[n]:=fun n h=>zP1 h
   have key:∀(n:Nat) (U:j2) (b5:n<left.size),U.heap=w.heap->Stp G mu w G mu U->∃ z l,K z l/\∃ v w' G',((do
     setObj r (.mapIter (some m) p (sn.toArray.push left[n].born) p)
     pure (.tuple #[.bool true,left[n].key,left[n].val]):Sem j3)).run P U = .ok v w'/\Stp G mu w G' l w'/\VRel G' w'.heap z v:=by
    intro n U b5 aa al;obtain⟨k,x,hx,ak,b6,r1,r2⟩:=a0 left[n] zSp;have b7:U.heap[r]?=some (.mapIter (some m) p sn.toArray p):=by rw[aa];exact ho
    have az:r<U.heap.size:=by rw[aa];exact b2
    have b8:VRel G U.heap (.im a1) (.map (some m)):=by rw[aa];exact .im _ m g _ a6 hi aq hk hv hd
    have a4:k<T.length:=(qe.1 hx).1;have st:=Stp.write al.sim b (.it T seen) (.it T (seen++[k])) r ao (.mapIter (some m) p (sn++[(g.getD (σ k) default).born]).toArray p) hm zSp zSp hb (w':={ U with heap:=U.heap.setIfInBounds r (.mapIter (some m) p (sn++[(g.getD (σ k) default).born]).toArray p) }) zSp
     (V8 U r _ az) (fun j hj=>V9 U r j _ hj) rfl rfl rfl (.inl ⟨m,a1,σ,τ,g,p,b8,by rw[aa];exact a6,hi,I,fun i hi=>by
      rcases List.mem_append.1 hi with h|h
      .exact a2 i h
      .simp at h;subst h;exact a4,by rw[zd,au,List.map_singleton]⟩)
    have b0:(setObj r (.mapIter (some m) p (sn.toArray.push left[n].born) p)).run P U = .ok () { U with heap:=U.heap.setIfInBounds r (.mapIter (some m) p (sn++[(g.getD (σ k) default).born]).toArray p) }:=by
     simp[setObj,Sem.run,b7,b6]
    refine⟨_,_,h1 k x hx ak,.tuple #[.bool true,left[n].key,left[n].val],_,G,?_,al.trans s st,?_⟩
    .simp only[qE,b0,qG,zh]
    .have t:=al.trans s st
     exact tup3 (.sc _ rfl) (t.vrel s r1) (t.vrel s r2)
   have b9:∀(z:AV) (l:Mu),True:=fun _ _=>trivial
   by_cases af:left.size<=1
   .obtain ⟨z,l,a8,v,w',G',g1,g2,g3⟩:=key 0 w R rfl (Stp.refl s)
    refine⟨z,l,a8,v,w',G',?_,g2,g3⟩;rw[<-g1];simp only[Instr.next,qE,a3,qG,ah,J,Bool.false_eq_true,if_false,C,ai,aj,ay];simp[Question.forced,af,ae 0 R]
   .obtain ⟨z,l,a8,v,w',G',g1,g2,g3⟩:=key (w.tape w.drawn (.mapNext left.size) % left.size) w.drew (Nat.mod_lt _ R) rfl (Stp.drew s)
    refine⟨z,l,a8,v,w',G',?_,g2,g3⟩;rw[<-g1];simp only[Instr.next,qE,a3,qG,ah,J,Bool.false_eq_true,if_false,C,ai,aj,ay];have b1:=Nat.mod_lt (w.tape w.drawn (.mapNext left.size)) R;simp[Question.forced,Question.cut,af,ae _ b1]
 .have a3:(getObj r).run P w = .ok (.mapIter none 0 #[] 0) w:=by simp[getObj,Sem.run,ho]
  refine⟨_,_,h2 (fun i hi=>by simp at hi),Good.quiet s (v := .tuple #[.bool false]) ?_ (tup1 (.sc _ rfl))⟩;simp[Instr.next,a3]
@[go_sem] def wJ(mu:Mu)(g:AV):Option AV:=
 match g with
 | .ptr b 0=>match mu[b]? with
  |some (.it T seen)=>match seen.getLast? with
   |some i=>(T[i]?).map fun e => .tup [e.1,e.2]
   |none=>none
  |_=>none
 |_=>none
theorem qbI(s:Sim G mu w.heap){J z:AV}{vi:j3}(ri:VRel G w.heap J vi)(h:wJ mu J=some z) :
  ∃ u,(Instr.entry vi).run P w = .ok u w/\VRel G w.heap z u:=by
 unfold wJ at h;split at h
 .rename_i b
  split at h
  .rename_i T seen hm
   split at h
   .rename_i i hi
    cases R:T[i]? with
    |none=>simp[R]at h
    |some x =>
     simp only[R,qS,qj]at h;subst h;cases ri with
     |ptr _ _ U a2 hb =>
     obtain⟨o,ho,r⟩:=s.obj b _ U a2 hm zSp hb;rcases r with ⟨m,a3,σ,τ,g,t,rm,a0,aa,a1,a4,rfl⟩|⟨rfl,rfl⟩
     .cases rm with
      |im _ _ ce clock p a5 a6 hk hv hd =>
      rw[a0]at p;obtain⟨rfl,rfl⟩:g=ce/\t=clock:=zUs p;have hn:g.size=T.length:=by rw[a6];exact a1.1
      obtain⟨q1,q2,q3,q4,q5⟩:=a1.2 i (qe.1 R).1;have C:a3[σ i]?=some x:=by rw[q5];exact R
      have l:(seen.map fun i=>(g.getD (σ i) default).born).toArray.back?=some ((g.getD (σ i) default).born):=zP1 hi;generalize (seen.map fun i=>(g.getD (σ i) default).born)=sn at ho l;generalize σ i=i at C l q1;have ab:(getObj U).run P w = .ok (.mapIter (some m) t sn.toArray t) w:=by simp[getObj,Sem.run,ho]
      have ad:=vL (P:=P) a0;have I:i<g.size:=zOm;have a7:g.getD i default=g[i]:=by simp[qB,I]
      rw[a7]at l;have a8:g.find? (fun e=>e.born == g[i].born)=some g[i]:=by
       rw[Array.find?_eq_some_iff_getElem];refine⟨zSp,i,I,rfl,fun j hj=>?_⟩;have a9:j<g.size:=zOm;have:g[j].born≠g[i].born:=fun h=>by
        have:=hd.2 j i _ _ (zP1 a9) (zP1 I) h;omega
       simp[this]
      have r1:=hk i x C;have r2:=hv i x C;simp_all[Instr.entry,tup2]
     .simp at R
   grind
  grind
 grind
end
end Go.Ev
namespace Go.Ev
open Go Go.RowKit
section
variable {mu:Mu}{w:j2}
theorem qbJ{P:qf}{G:Gh}(s:Sim G mu w.heap){x:AV}{v:j3}{ys:List (List AV)}{sz:Nat}(r:VRel G w.heap x v)(h:qH mu x=some ys)(hz:zg sz ys)(n:Nat)(hn:n<=ys.length) :
  ∃(news:List j3),news.length=n*sz/\(∀ u∈news,u.oneCell'=true)/\(∀(k:Nat) y,(ys.take n).flatten[k]?=some y->VRel G w.heap y (news.getD k va)) /\
   (Builtin.lenOf v).run P w = .ok ys.length w/\(Builtin.firstCells sz n v).run P w = .ok news.toArray w:=by
 have J:zg sz (ys.take n):=fun r hr=>hz r (vd hr)
 have R:(ys.take n).flatten.length=n*sz:=by rw[zW J.ok];simp[Nat.min_eq_left hn]
 have o:∀(k:Nat) y,(ys.take n).flatten[k]?=some y->ys.flatten[k]?=some y:=by
  intro k y C;have:ys.flatten=(ys.take n).flatten++(ys.drop n).flatten:=by rw[<-List.flatten_append,uZ]
  rw[this,qI (qe.1 C).1];exact C
 have fin:∀(a:Addr) (cap:Nat) (rd:Nat->j3),(∀(k:Nat) y,ys.flatten[k]?=some y->w.cell? (a.add k)=some (rd k)/\VRel G w.heap y (rd k))->v = .slice (some a) ys.length cap ->
   ∃(news:List j3),news.length=n*sz/\(∀ u∈news,u.oneCell'=true)/\(∀(k:Nat) y,(ys.take n).flatten[k]?=some y->VRel G w.heap y (news.getD k va)) /\
   (Builtin.lenOf v).run P w = .ok ys.length w/\(Builtin.firstCells sz n v).run P w = .ok news.toArray w:=by
  intro a cap rd I hv;subst hv;have t:∀ k,k<n*sz->∃ y,(ys.take n).flatten[k]?=some y:=fun k C=>⟨(ys.take n).flatten[k]' zOm,by simp only[qv (show k<(ys.take n).flatten.length by omega)]⟩
  refine⟨(qo (n*sz)).map rd,zSp,?_,?_,by simp[Builtin.lenOf],?_⟩
  .intro u hu
   obtain⟨k,C,rfl⟩:=qk.1 hu;obtain⟨y,i⟩:=t k (zUs C);exact(I k y (o k y i)).2.one (J.one y (qZ i))
  .intro k y i
   have C:k<n*sz:=by rw[<-R];exact(qe.1 i).1
   have e:((qo (n*sz)).map rd).getD k va=rd k:=by simp[q8,C]
   rw[e];exact(I k y (o k y i)).2
  .simp only[Builtin.firstCells]
   exact run_loadCells w a _ rd (fun j hj=>by obtain⟨y,i⟩:=t j hj;exact(I j y (o j y i)).1)
 unfold qH at h;split at h
 .rename_i full g
  simp only[qj]at h;subst h;cases r with
  |nil =>
   simp only[List.length_nil,Nat.le_zero]at hn;subst hn;exact⟨[],zSp,zSp,zSp,by simp[Builtin.lenOf],by simp[Builtin.firstCells]⟩
  |emp _ a cap hc=>exact fin a cap (fun _=>va) zSp rfl
  |lst _ _ l a cap cs e fr rd hb hs hl hc hi a4 hr hv =>
   exact fin a cap rd (fun k y i=>⟨by rw[wG hb hs];exact hr k y i,hv k y i⟩) rfl
 .rename_i b l off len
  split at h
  .rename_i cells hc
   split at h
   .rename_i a5
    simp only[qj]at h;cases r with
    |sl _ _ _ _ p a1 cap hb ht hl =>
    obtain⟨arr,e,h1,h2,h3,h4⟩:=s.arr b cells p a1 hc hb;have T:ys.length=len:=by rw[<-h];simp
    subst T;by_cases h0:ys.length=0
    .have:ys=[]:=vE h0
     subst this;exact fin ⟨p,off,none⟩ cap (fun _=>va) zSp rfl
    .have U:l=sz:=by
      have a0:0<ys.length:=zOm;have hm:(cells.drop (off+0*l)).take l∈ys:=by
       rw[<-h];exact qk.2 ⟨0,zUs a0,rfl⟩
      have:=(hz _ hm).1;have a3:l<=ys.length*l:=Nat.le_mul_of_pos_left _ a0;simp at this;omega
     subst U;have a2:ys.flatten=(cells.drop off).take (ys.length*l):=by
      rw[<-h];have:=V2 l ys.length (cells.drop off) zSo;simp only[List.drop_drop]at this;simpa using this
     refine fin ⟨p,off,none⟩ cap (fun k=>arr.getD (off+k) va) (fun k y i=>?_) rfl;rw[a2,y6]at i;split at i
     .rw [y7]at i
      refine⟨?_,(h4 _ y i).2⟩;rw[wG (a:=⟨p,off,none⟩) h1 rfl];have a6:off+k<cells.length:=(qe.1 i).1;have:off+k<arr.size:=zOm;simp[qB,this]
     .exact absurd i zSp
   .exact absurd h zSp
  .exact absurd h zSp
 .exact absurd h zSp
theorem Stp.cellsAt{G:Gh}(s:Sim G mu w.heap){b off g l:Nat}{cells xs:List AV}{arr:Array j3}{e:j1}{news:List j3}(P:mu[b]?=some (.arr cells))(R:G.blk[b]?=some (g,l))
  (T:w.heap[g]?=some (.cells arr e (0,0))) (h2:arr.size=l) (h3:cells.length<=l) (J:∀(j:Nat) x,cells[j]?=some x->x.one=true/\VRel G w.heap x (arr.getD j va))
  (o:off+xs.length<=cells.length) (hn:news.length=xs.length) (p:∀ x,x∈xs->x.one=true) (U:∀(k:Nat) x,xs[k]?=some x->VRel G w.heap x (news.getD k va)) :
  Stp G mu w G (mu.set b (.arr (putCells cells off xs))) (w.setRow g (arr.toList.take off++news++arr.toList.drop (off+news.length)).toArray):=by
 refine Stp.write s b (.arr cells) _ g l (.cells (arr.toList.take off++news++arr.toList.drop (off+news.length)).toArray e (0,0)) P zSp zSp R zSp (setRow_heap w g arr _ e _ T)
  (fun k hk=>setRow_other w g k _ hk) rfl rfl rfl ?_
 refine⟨_,e,rfl,zSo,by rw[yq _ _ _ o];simp;omega,?_⟩;intro j y i;rw[yq _ _ _ o,zc]at i;rw[V1,q8,zc];have t:(arr.toList.take off).length=off:=zSo;have C:(cells.take off).length=off:=zSo;by_cases r:j<off
 .rw [zGa,y6,if_pos r]at i
  rw[zGa,y6,if_pos r,vC,<-qB];exact J j y i
 .rw [qT zOm,C]at i
  rw[qT zOm,t];by_cases I:j-off<xs.length
  .rw [qI I]at i
   rw[zGa,<-q8];exact⟨p y (qZ i),U _ y i⟩
  .rw [qT zOm,y7]at i
   rw[qT zOm,y7,vC,<-qB];have e1:off+xs.length+(j-off-xs.length)=j:=zOm;have e2:off+news.length+(j-off-news.length)=j:=zOm;rw[e1]at i;rw[e2];exact J j y i
def delE(es:List (AV×AV)):Option Nat->List (AV×AV)
 |some i=>es.eraseIdx i
 |none=>es
inductive ExtB (P:qf) (mu:Mu):Builtin->Array j1->List AV->AV->Mu->Prop where
 |copy {t t' e:j1} {sz sz0 bt b off len:Nat} {cells:List AV} {ys:List (List AV)} {x:AV} (hs:qz P t=some (e,sz,bt)) (hc:mu[b]?=some (.arr cells)) (hl:off+len*sz<=cells.length)
   (hr:qH mu x=some ys) (hw:zg sz ys) :
   ExtB P mu .copy #[t,t'] [.sl b sz0 off len,x] (.sc (.int .i64 ((min ys.length len:Nat):Int))) (mu.set b (.arr (putCells cells off (ys.take len).flatten)))
 |clear {t e:j1} {sz bt b off len:Nat} {cells:List AV} {zv:AV} (hs:qz P t=some (e,sz,bt)) (hz:qx P e=some zv) (hz1:zv.cells.length=sz) (hz2:zv.cells.all AV.one=true) (hz0:sz≠0) (hc:mu[b]?=some (.arr cells)) (hl:off+len*sz<=cells.length) (hp:0<len) :
   ExtB P mu .clear #[t] [.sl b sz off len] (.tup []) (mu.set b (.arr (putCells cells off ((qo (len*sz)).map fun i=>zv.cells.getD (i % sz) .any))))
 |delete {t t' kt et:j1} {b:Nat} {es:List (AV×AV)} {k:AV} {r:Option Nat} (ht:mapT P t=some (kt,et)) (hc:mu[b]?=some (.mp es)) (hk:yF P kt k=true) (hf:q9 P kt k es 0=some r) :
   ExtB P mu .delete #[t,t'] [.mp b,k] (.tup []) (mu.set b (.md (delE es r)))
theorem qbK{P:qf}{G:Gh}{ae:Mu}(s:Sim G mu w.heap){b:Builtin}{af:Array j1}{ty:j1}{cs:Array Bool}{args:List AV}{o:Array j3}{z:AV}
  (hn:o.size=args.length) (hr:∀(k:Nat) x,args[k]?=some x->VRel G w.heap x (o.getD k va)) (h:ExtB P mu b af args z ae) :
  ∃ u w',(builtin b af ty cs o).run P w = .ok (.value u) w'/\Stp G mu w G ae w'/\VRel G w'.heap z u:=by
 cases h with
 | @copy t t' e p b6 bt b off len cells j x hs R hl aw hw =>
  have r0:=hr 0 _ rfl;have r1:=hr 1 _ rfl;have U:o=#[o.getD 0 va,o.getD 1 va]:=by
   have h2:o.size=2:=zUs hn;apply Array.ext
   .simpa using h2
   .intro i hi ag
    have:i=0\/i=1:=zOm;rcases this with rfl|rfl<;>simp[qB,hi]
  generalize o.getD 0 va=u0 at *
  generalize o.getD 1 va=u1 at *
  subst U;obtain⟨ax,hu,a5,ah,ay⟩:=jT hs;have az:szOf P e=some p:=by simp[szOf,a5,ah]
  obtain⟨I,a8,a9,ai,aj,ak⟩:=qbJ (P:=P) s r1 aw hw (min j.length len) (Nat.min_le_left _ _);have aa:j.take (min j.length len)=j.take len:=by
   rcases Nat.le_total j.length len with h|h
   .rw [Nat.min_eq_left h,zK (qn _),zK h]
   .rw [Nat.min_eq_right h]
  rw[aa]at ai;have al:zg p (j.take len):=fun r hr=>hw r (vd hr)
  have b5:(j.take len).flatten.length=min j.length len*p:=by
   rw[zW al.ok,vH,Nat.min_comm]
  cases r0 with
  |sl _ _ _ _ a0 a2 cap hb ht b0 =>
   obtain⟨arr,el,J,h2,h3,h4⟩:=s.arr b cells a0 a2 R hb;have b7:min j.length len*p<=len*p:=Nat.mul_le_mul_right _ (Nat.min_le_right _ _);have st:=Stp.cellsAt s (off:=off) (xs:=(j.take len).flatten) (news:=I) R hb J h2 h3 h4 zOm zOm al.one ai;have C:=run_storeCells_at P a0 off el I 0 arr w J zOm a9;simp only[Nat.add_zero]at C;refine⟨_,_,?_,st,.sc _ rfl⟩;have an:Nat.min j.length len=min j.length len:=rfl;simp only[builtin,Builtin.copy_,qE,zh,goInt];simp only[vG,YK,vb];simp[run_underlying hu,aj,yE az,an,ak,C]
 | @clear t e p bt b off len cells zv hs hz ao b1 b8 R hl hp =>
  have r0:=hr 0 _ rfl;have U:o=#[o.getD 0 va]:=by
   have h2:o.size=1:=zUs hn;apply Array.ext
   .simpa using h2
   .intro i hi ag
    have:i=0:=zOm;subst this;simp[qB,hi]
  generalize o.getD 0 va=u0 at *
  subst U;obtain⟨ax,hu,a5,ah,ay⟩:=jT hs;obtain⟨z,b2,rfl⟩:=wF hz w;have a6:∀ c,c∈(ofV z).cells->c.one=true:=fun c R=>by simpa using qJ.1 b1 c R
  obtain⟨c1,c2,c3⟩:=(VRel.ofV (G:=G) (h:=w.heap) z).cells a6;have a3:z.cells.size=p:=by rw[c1,ao]
  have a8:(yb z.cells len).toList.length=len*p:=by simp[yb,a3]
  have a1:∀ i:Nat,i % p<p:=fun i=>Nat.mod_lt i zOm
  have a7:∀ i,i<len*p->(yb z.cells len).toList.getD i va=z.cells.getD (i % p) va:=by
   intro i hi;have J:i % p<z.cells.size:=by rw[a3];exact a1 i
   simp[yb,a3,q8,hi,qB];rw[getElem!_pos z.cells (i % p) J,u4 J];rfl
  cases r0 with
  |sl _ _ _ _ a0 a2 cap hb ht b0 =>
   obtain⟨arr,el,J,h2,h3,h4⟩:=s.arr b cells a0 a2 R hb;have a9:∀ v,v∈(yb z.cells len).toList->v.oneCell'=true:=by
    intro v hv;obtain⟨i,hi⟩:=List.mem_iff_getElem?.1 hv;have b3:i<len*p:=by rw[<-a8];exact(qe.1 hi).1
    have:=a7 i b3;rw[q8,hi]at this;simp only[Option.getD_some]at this;rw[this];have J:i % p<z.cells.size:=by rw[a3];exact a1 i
    rw[qB,u4 J];exact c3 _ zSp
   have aq:∀(k:Nat) x,((qo (len*p)).map fun i=>(ofV z).cells.getD (i % p) .any)[k]?=some x->k<len*p/\(ofV z).cells[k % p]?=some x:=by
    intro k x hx;have hk:k<len*p:=by have:=(qe.1 hx).1;simpa using this
    refine⟨hk,?_⟩;have J:k % p<(ofV z).cells.length:=by rw[ao];exact a1 k
    rw[zm,YO hk]at hx;simp only[qS,qj,q8,qv J,Option.getD_some]at hx;rw[qv J,hx]
   have st:=Stp.cellsAt s (off:=off) (xs:=(qo (len*p)).map fun i=>(ofV z).cells.getD (i % p) .any) (news:=(yb z.cells len).toList) R hb J h2 h3 h4 (zUs hl) (by rw[a8];simp)
    (fun x hx=>by
     obtain⟨k,hk⟩:=List.mem_iff_getElem?.1 hx;exact a6 x (qZ (aq k x hk).2))
    (fun k x hx=>by
     obtain⟨g1,g2⟩:=aq k x hx;rw[a7 k g1];exact c2 _ x g2)
   have C:=run_storeCells_at P a0 off el (yb z.cells len).toList 0 arr w J zOm a9;simp only[Nat.add_zero]at C;refine⟨_,_,?_,st,.tup [] #[] rfl zSp⟩;obtain⟨l,rfl⟩:∃ l,len=l+1:=⟨len-1,zOm⟩;simp only[builtin,Builtin.clear_,qE,vG,YK];simp[run_underlying hu,b2,C]
 | @delete t t' kt et b T k r ht R ar hf =>
  have r0:=hr 0 _ rfl;have r1:=hr 1 _ rfl;have U:o=#[o.getD 0 va,o.getD 1 va]:=by
   have h2:o.size=2:=zUs hn;apply Array.ext
   .simpa using h2
   .intro i hi ag
    have:i=0\/i=1:=zOm;rcases this with rfl|rfl<;>simp[qB,hi]
  generalize o.getD 0 va=u0 at *
  generalize o.getD 1 va=u1 at *
  subst U;have hu:=wH ht;obtain⟨mb,a2,ce,rfl,hb,hh,ab,ad⟩:=Jf s r0 R;have au:(Instr.checkKey ce.isEmpty 10000 kt u1).run P w = .ok () w:=ZL _ r1 ar;have hg:=vL (P:=P) hh;obtain⟨a4,b4⟩:=u7 r1 ar ab hf;have av:jh ce ce.size := .of rfl ad;cases r with
  |none =>
   refine⟨_,_,?_,Stp.putMapD s R zSp hb hh ab av,.tup [] #[] rfl zSp⟩;simp only[Option.map_none]at a4;simp[builtin,Builtin.delete_,run_underlying hu,hg,au,a4,ur hh]
  |some i =>
   refine⟨_,_,?_,Stp.putMapD s R zSp hb hh (qbC ab (b4 i rfl)) (qbB av i),.tup [] #[] rfl zSp⟩;simp only[qS]at a4;simp[builtin,Builtin.delete_,run_underlying hu,hg,au,a4,ur hh]
end
end Go.Ev
namespace Go.Ev
open Go Go.RowKit
section
variable {P:qf}
theorem Km{g:j1}{k:AV}{x:AV×AV}:∀{es:List (AV×AV)} {i:Nat} {r:Option Nat},q9 P g k es i=some r->(r.isSome=true->q9 P g k (es++[x]) i=some r)/\(r=none->q9 P g k (es++[x]) i=q9 P g k [x] (i+es.length))
 | [],i,r,h=>by
  simp[q9]at h;subst h;exact⟨fun h=>by simp at h,fun _=>zSp⟩
 |e :: es,i,r,h=>by
  unfold q9 at h;split at h
  .rename_i j
   simp only[qj]at h;subst h;refine⟨fun _=>?_,fun h=>absurd h zSp⟩;rw[yD,q9,j]
  .rename_i j
   obtain⟨o,p⟩:=Km (x:=x) h;refine⟨fun l=>?_,fun l=>?_⟩
   .rw [yD,q9,j];exact o l
   .rw [yD,q9,j]
    simp only;rw[p l,zq];congr 1;omega
  .exact absurd h zSp
theorem Kn{mu l:Mu}{t:j1}{m k z R k' v:AV}(h:wI P mu t m k=some (z,l))(g:yB P mu t R k' false=some v):yB P l t R k' false=some v:=by
 unfold wI at h;split at h
 .rename_i b kt et ht
  split at h
  .rename_i T hm
   split at h
   .rename_i a0
    split at h
    ·
     rename_i i hf;obtain⟨_,e,he,a3⟩:=ZM hf;simp only[Nat.sub_zero]at he;simp only[he,qS,qj,vf]at h;have e1:T.set i (k,e.2)=T:=by
      rw[a3];apply jx;intro j;rw[VU];split
      .rename_i I;subst I
       split
       .exact he.symm
       .rw [yC zOm]
      .rfl
     rw[e1]at h;have e2:mu.set b (.mp T)=mu:=by
      apply jx;intro j;rw[VU];split
      .rename_i I;subst I
       split
       .exact hm.symm
       .rw [yC zOm]
      .rfl
     rw[<-h.2,e2];exact g
    .rename_i hf
     cases U:qx P et with
     |none=>simp[U]at h
     |some zv =>
      simp only[U,qS,qj,vf]at h;obtain⟨_,rfl⟩:=h;have a4:b<mu.length:=(qe.1 hm).1;unfold yB at g⊢;rw[ht]at g⊢
      have key:jz (mu.set b (.mp (T++[(k,zv)]))) R=jz mu R\/(jz mu R=some T/\jz (mu.set b (.mp (T++[(k,zv)]))) R=some (T++[(k,zv)])):=by
       unfold jz;split
       .exact .inl rfl
       .rename_i b'
        by_cases o:b=b'
        .subst o
         rw[hm,List.getElem?_set_self a4];exact .inr ⟨rfl,rfl⟩
        .rw [yP o];exact .inl rfl
       .exact .inl rfl
       .exact .inl rfl
      rcases key with key|⟨k1,k2⟩
      .rw [key];exact g
      .rw [k1]at g
       rw[k2];simp only at g⊢;split at g
       .rename_i C
        rw[if_pos C];cases J:q9 P kt k' T 0 with
        |none=>rw[J]at g;simp at g
        |some r =>
         rw[J]at g;obtain⟨a1,a2⟩:=Km (x:=(k,zv)) J;cases r with
         |some i =>
          rw[a1 rfl];simp only at g⊢;cases p:T[i]? with
          |none=>rw[p]at g;simp at g
          |some e =>
           rw[p]at g;rw[qI (qe.1 p).1,p];exact g
         |none =>
          rw[a2 rfl];simp only[U,qS]at g;obtain⟨bb,o⟩:=Kg C a0;rw[q9,o];cases bb with
          |true =>
           simp only[yc];rw[qT (qn _),Nat.sub_self];simpa using g
          |false =>
           simp only[q9,U,qS];exact g
       .exact absurd g zSp
    .exact absurd h zSp
   .exact absurd h zSp
  .exact absurd h zSp
 .exact absurd h zSp
theorem qbL{mu l:Mu}{t:j1}{m k z i k' v:AV}(h:wI P mu t m k=some (z,l))(g:yG P mu t i k' false=some v):yG P l t i k' false=some v:=by
 cases i with
 |ims T =>
  simp only[yG]at g⊢;cases j:mapT P t with
  |none=>rw[j]at g;exact absurd g zSp
  |some q =>
   rw[j]at g;simp only at g⊢;split at g
   .rename_i o
    rw[if_pos o];exact Kn h g
   .exact absurd g zSp
 |_=>exact Kn h g
end
end Go.Ev
