/-
  Own library, part 1: an abstract reading of values and a calculus over it; contracts of functions; plain lemmas.
-/
import GoSem.Claim
import Derived.WalkKit
import Derived.Laws.AppendOwn
import Derived.Laws.CopyRow
import Derived.Below
import Derived.RangeFuncRecord
import Derived.Laws.BytesString
import Derived.IntWalk
import Derived.Lib.AppendZerosOnto
set_option linter.unusedVariables false
set_option linter.unusedSimpArgs false
set_option maxRecDepth 100000
open Go renaming Value->j3,World->j2,TypeId->j1,MapEntry->xa,undef->wg,Program->qf,Operand->uk,FuncId->us
open List renaming getElem?_eq_some_iff->qg,mem_map->qi,range->qq,mem_cons->qt,getElem?_eq_getElem->qw,getElem?_append_left->qG,replicate->qS,mem_of_getElem?->qU,length_append->qX,map_append->q9,all_eq_true->zb,getElem?_map->zf,append_assoc->zy,length_cons->zz,getD_eq_getElem?_getD->zC,getElem?_append_right->zE,length_map->zK,cons_append->yw,ext_getElem?->jy,getElem?_take->jW,getElem?_cons_succ->vw,take_append_drop->vS,getElem?_drop->vT,mem_of_mem_take->ui,getElem?_toArray->uO,length_take->uP,eq_nil_of_length_eq_zero->wD,flatten_cons->wE,getElem?_cons_zero->Vq,mem_flatten->kU
open Go.IntKind renaming i64->qm
open Nat renaming le_refl->qo,le_trans->zt
open Option.some renaming injEq->qr
open Bool renaming and_eq_true->qD
open Go.Sem renaming run_bind->qM,run_pure->zD
open Go.Result renaming andThen_ok->qP
open Array renaming getD_eq_getD_getElem?->qV,getElem?_eq_some_iff->yv,getElem?_eq_getElem->Zm,getElem?_toList->ZW
open Option renaming map_some->zg,map_eq_some_iff->jK
open Go.Builtin renaming zeroCells->yQ
open Prod.mk renaming injEq->vU
namespace Go
abbrev tG:=ByteArray
section
variable {a b p:Prop}
theorem zOm(h:p:=by omega):p:=h
theorem zSi(h:p:=by simp[go_sem]):p:=h
theorem zS1(x:a)(h:a->p:=by intro x;simp[go_sem,x]):p:=h x
theorem zS2(x:a)(y:b)(h:a->b->p:=by intro x y;simp[go_sem,x,y]):p:=h x y
theorem zS3{c:Prop}(x:a)(y:b)(z:c)(h:a->b->c->p:=by intro x y z;simp[go_sem,x,y,z]):p:=h x y z
theorem zKr(h:p:=by kernel_rfl):p:=h
theorem zSp(h:p:=by simp):p:=h
theorem zP1(x:a)(h:a->p:=by intro x;simp[x]):p:=h x
theorem zSo(h:p:=by simp;omega):p:=h
theorem zUs(x:a)(h:a->p:=by intro x;simpa using x):p:=h x
theorem zVs(x:a)(h:a->p:=by intro x;simpa[go_sem] using x):p:=h x
theorem zW1(x:a)(h:a->p:=by intro x;omega):p:=h x
theorem zW2(x:a)(y:b)(h:a->b->p:=by intro x y;omega):p:=h x y
theorem zDe(h:p:=by decide):p:=h
theorem zIn{c}[Decidable c]{J}{a b:J}(h:¬c:=by omega):(if c then a else b)=b:=if_neg h
theorem zGl{J}{l:List J}{i j a}(h:i≠j:=by omega):(l.set i a)[j]?=l[j]?:=List.getElem?_set_ne h
theorem zGa{J}{l m:List J}{i}(h:i<l.length:=by omega):(l++m)[i]?=l[i]?:=qG h
end
end Go
namespace Go.Ev
open Go
def tabs:List (Nat×List j3):=[(0,[.int .u64 1,.int .u64 10,.int .u64 100,.int .u64 1000,.int .u64 10000,.int .u64 100000,.int .u64 1000000,.int .u64 10000000,.int .u64 100000000,.int .u64 1000000000,.int .u64 10000000000,.int .u64 100000000000,.int .u64 1000000000000,.int .u64 10000000000000,.int .u64 100000000000000,.int .u64 1000000000000000,.int .u64 10000000000000000,.int .u64 100000000000000000,.int .u64 1000000000000000000,.int .u64 10000000000000000000])]
end Go.Ev
namespace Go.Ev
open Go
section
variable {J:Type}{h h':Array Obj}{w:j2}
inductive AV where
 |any
 |sc (v:j3)
 |lst (full:Bool) (xs:List (List AV))
 |sl (b sz off len:Nat)
 |agg (cs:List AV)
 |tup (vs:List AV)
 |ip (cs:List AV)
 |ptr (b off:Nat)
 |mp (b:Nat)
 |im (es:List (AV×AV))
 |ims (es:List (AV×AV))
 |fn (f:Fn) (first caps:List AV)
 |ifc (t:j1) (v:AV)
 |yl (b:Nat)
 deriving Inhabited
def kV:j3->Bool
 | .bool _ | .int _ _ | .float _ _ | .complex _ _ _ | .string _ | .pointer none | .map none | .chan none | .nilFunc | .nilIface=>true
 | .tuple ⟨[]⟩=>true
 |_=>false
def ofC:j3->AV
 | .slice none 0 0 => .lst true []
 | .func f ⟨[]⟩ ⟨[]⟩ => .fn f [] []
 |v=>if kV v then .sc v else .any
def ofV:j3->AV
 | .agg g => .agg (g.toList.map ofC)
 |v=>ofC v
def AV.cells:AV->List AV
 | .agg g=>g
 |v=>[v]
def AV.one:AV->Bool
 | .any | .agg _ | .tup _=>false
 | .sc v=>v.oneCell'
 |_=>true
structure Gh where
 imm:Nat->Prop
 blk:List (Nat×Nat)
variable {G G':Gh}
structure Gh.le (G G':Gh):Prop where
 imm:∀ b,G.imm b->G'.imm b
 blk:∀(i:Nat)(x:Nat×Nat),G.blk[i]?=some x->G'.blk[i]?=some x
theorem Gh.le.refl(G:Gh):G.le G:=⟨fun _ h=>h,fun _ _ h=>h⟩
theorem Gh.le.trans{A B C:Gh}(h:A.le B)(k:B.le C):A.le C:=⟨fun b x=>k.imm b (h.imm b x),fun i x y=>k.blk i x (h.blk i x y)⟩
structure Ext (G:Gh) (h h':Array Obj):Prop where
 size:h.size<=h'.size
 keep:∀ b,G.imm b->h'[b]?=h[b]?
theorem Ext.refl(G h):Ext G h h:=⟨qo _,fun _ _=>rfl⟩
def PIx(i j:Nat->Nat)(es g:List J):Prop:=g.length=es.length/\∀ k,k<es.length->i k<es.length/\j k<es.length/\j (i k)=k/\i (j k)=k/\g[i k]?=es[k]?
theorem PIx.refl(es:List J):PIx id id es es:=⟨rfl,fun k h=>⟨h,h,rfl,rfl,rfl⟩⟩
theorem PIx.back{l i}{es g:List J}(p:PIx l i es g){j}(h:j<es.length):g[j]?=es[i j]?:=by
 obtain⟨r,o,t,C,I⟩:=p.2 j h;have:=(p.2 (i j) o).2.2.2.2
 grind
def jY(ce:Array xa)(clock:Nat):Prop:=(∀(k:Nat)(e:xa),ce[k]?=some e->e.born<clock)/\∀(j k:Nat)(e f:xa),ce[j]?=some e->ce[k]?=some f->e.born=f.born->j=k
theorem jY.of{ce clock}(p:clock=ce.size)(g:∀(k) (e:xa),ce[k]?=some e->e.born=k):jY ce clock:=
 ⟨fun k e h=>by grind,fun j k e f i l o=>by rw[<-g j e i,<-g k f l,o]⟩
inductive VRel (G:Gh) (h:Array Obj):AV->j3->Prop
 |any (v:j3):VRel G h .any v
 |sc (v:j3) (hv:kV v=true):VRel G h (.sc v) v
 |nil (full:Bool):VRel G h (.lst full []) (.slice none 0 0)
 |emp (full:Bool) (a:Addr) (cap:Nat) (hc:full=true->cap=0):VRel G h (.lst full []) (.slice (some a) 0 cap)
 |lst (full:Bool) (xs:List (List AV)) (sz:Nat) (a:Addr) (cap:Nat) (cs:Array j3) (e:j1) (fr:Nat×Nat) (rd:Nat->j3)
   (hb:h[a.block]?=some (.cells cs e fr)) (hs:a.spot=none) (hl:xs.length<=cap) (hc:full=true->cap=xs.length) (hi:G.imm a.block)
   (hz:∀ r,r∈xs->r.length=sz)
   (hr:∀(k:Nat) x,xs.flatten[k]?=some x->cs[a.off+k]?=some (rd k))
   (hv:∀(k:Nat) x,xs.flatten[k]?=some x->VRel G h x (rd k)):VRel G h (.lst full xs) (.slice (some a) xs.length cap)
 |sl (b sz off len blk tot cap:Nat) (hb:G.blk[b]?=some (blk,tot)) (ht:off+cap*sz<=tot) (hl:len<=cap) :
   VRel G h (.sl b sz off len) (.slice (some ⟨blk,off,none⟩) len cap)
 |agg (cs:List AV) (vs:Array j3) (hn:vs.size=cs.length) (hv:∀(k:Nat) x,cs[k]?=some x->VRel G h x (vs.getD k wg)):VRel G h (.agg cs) (.agg vs)
 |tup (cs:List AV) (vs:Array j3) (hn:vs.size=cs.length) (hv:∀(k:Nat) x,cs[k]?=some x->VRel G h x (vs.getD k wg)):VRel G h (.tup cs) (.tuple vs)
 |ip (cs:List AV) (a:Addr) (arr:Array j3) (e:j1) (fr:Nat×Nat) (rd:Nat->j3)
   (hb:h[a.block]?=some (.cells arr e fr)) (hs:a.spot=none) (hi:G.imm a.block)
   (hr:∀(k:Nat) x,cs[k]?=some x->arr[a.off+k]?=some (rd k))
   (hv:∀(k:Nat) x,cs[k]?=some x->VRel G h x (rd k)):VRel G h (.ip cs) (.pointer (some a))
 |ptr (b off blk tot:Nat) (hb:G.blk[b]?=some (blk,tot)):VRel G h (.ptr b off) (.pointer (some ⟨blk,off,none⟩))
 |mp (b blk tot:Nat) (hb:G.blk[b]?=some (blk,tot)):VRel G h (.mp b) (.map (some blk))
 |im (es:List (AV×AV)) (blk:Nat) (ce:Array xa) (clock:Nat) (hb:h[blk]?=some (.map ce clock)) (hi:G.imm blk) (hn:ce.size=es.length)
   (hk:∀(k:Nat) x,es[k]?=some x->VRel G h x.1 (ce.getD k default).key) (hv:∀(k:Nat) x,es[k]?=some x->VRel G h x.2 (ce.getD k default).val)
   (hd:jY ce clock):VRel G h (.im es) (.map (some blk))
 |ims (es es':List (AV×AV)) (σ τ:Nat->Nat) (v:j3) (hp:PIx σ τ es es') (hd:(es.map Prod.fst).Nodup) (r:VRel G h (.im es') v):VRel G h (.ims es) v
 |fn (f:Fn) (first caps:List AV) (vs ws:Array j3) (hn:vs.size=first.length) (hm:ws.size=caps.length)
   (hv:∀(k:Nat) x,first[k]?=some x->VRel G h x (vs.getD k wg)) (hw:∀(k:Nat) x,caps[k]?=some x->VRel G h x (ws.getD k wg)):VRel G h (.fn f first caps) (.func f vs ws)
 |ifc (t:j1) (x:AV) (v:j3) (hv:VRel G h x v):VRel G h (.ifc t x) (.iface t v)
 |yl (b blk tot:Nat) (hb:G.blk[b]?=some (blk,tot)):VRel G h (.yl b) (.func (.yield blk) #[] #[])
theorem VRel.mono(P:G.le G')(he:Ext G h h'){x v}(r:VRel G h x v):VRel G' h' x v:=by
 induction r with
 |any v=>exact .any v
 |sc v C=>exact .sc v C
 |nil full=>exact .nil full
 |emp full a cap hc=>exact .emp full a cap hc
 |lst full p g a cap R e fr rd l hs hl hc J hz hr C o=>exact .lst full p g a cap R e fr rd (by rw[he.keep _ J];exact l) hs hl hc (P.imm _ J) hz hr o
 |sl b g off len i j cap l ht hl=>exact .sl b g off len i j cap (P.blk _ _ l) ht hl
 |agg R vs T C o=>exact .agg R vs T o
 |tup R vs T C o=>exact .tup R vs T o
 |ip R a arr e fr rd l hs J hr C o=>exact .ip R a arr e fr rd (by rw[he.keep _ J];exact l) hs (P.imm _ J) hr o
 |ptr b off i j l=>exact .ptr b off i j (P.blk _ _ l)
 |mp b i j l=>exact .mp b i j (P.blk _ _ l)
 |im I i ce clock l J T hk C hd a1 U=>exact .im I i ce clock (by rw[he.keep _ J];exact l) (P.imm _ J) T a1 U hd
 |ims I a2 σ τ v hp hd r o=>exact .ims I a2 σ τ v hp hd o
 |fn f first a0 vs ws T hm C hw U a3=>exact .fn f first a0 vs ws T hm U a3
 |ifc t x v C o=>exact .ifc t x v o
 |yl b i j l=>exact .yl b i j (P.blk _ _ l)
theorem VRel.le(g:G.le G'){x v}(r:VRel G h x v):VRel G' h x v:=r.mono g (.refl _ _)
theorem VRel.ofC(v):VRel G h (ofC v) v:=by
 unfold Ev.ofC;split
 .exact .nil true
 .exact .fn _ [] [] _ _ rfl rfl zSp zSp
 .split
  .rename_i g;exact .sc v g
  .exact .any v
theorem VRel.ofV(v):VRel G h (ofV v) v:=by
 unfold Ev.ofV;split
 .rename_i i
  refine .agg _ _ zSp ?_;intro k x g;simp only[zf,jK,ZW]at g;obtain⟨v,j,rfl⟩:=g;have:i.getD k wg=v:=by simp[qV,j]
  rw[this];exact .ofC v
 .exact .ofC v
theorem VRel.one{x v}(r:VRel G h x v)(g:x.one=true):v.oneCell'=true:=by
 cases r with
 |ims _ _ _ _ _ _ _ r=>cases r;rfl
 |_=>simp_all[AV.one,Value.oneCell']
theorem qeW{v:j3}(h:v.oneCell'=true):v.cells=#[v]:=by
 cases v<;>simp_all[Value.cells,Value.oneCell']
theorem VRel.cells{x v}(r:VRel G h x v)(o:∀ c,c∈x.cells->c.one=true) :
  v.cells.size=x.cells.length/\(∀(k) c,x.cells[k]?=some c->VRel G h c (v.cells.getD k wg))/\(∀ u,u∈v.cells.toList->u.oneCell'=true):=by
 by_cases C:∃ j,x = .agg j
 .obtain ⟨j,rfl⟩:=C
  cases r with
  |agg _ I J p =>
   refine⟨by simpa[Value.cells,AV.cells] using J,by simpa[Value.cells,AV.cells] using p,?_⟩;intro u t;simp only[Value.cells]at t;obtain⟨k,g⟩:=List.mem_iff_getElem?.1 t;rw[ZW]at g;have l:k<j.length:=by
    grind
   have i:=p k j[k] (zP1 l);have:I.getD k wg=u:=by simp[qV,g]
   rw[this]at i;exact i.one (o _ (by simp[AV.cells]))
 .have e:x.cells=[x]:=by cases x<;>simp_all[AV.cells]
  have i:=r.one (o x (zP1 e));rw[qeW i,e];refine⟨rfl,?_,zP1 i⟩;intro k c g;cases k with
  |zero=>simp at g;subst g;simpa using r
  |succ k=>simp at g
inductive Cell where
 |arr (cells:List AV)
 |mp (es:List (AV×AV))
 |md (es:List (AV×AV))
 |it (es:List (AV×AV)) (seen:List Nat)
 |lp (r:Loop) (tm:Nat->AV)
 |dead
 deriving Inhabited
abbrev Mu:=List Cell
variable {mu:Mu}
def Live(G:Gh)(mu:Mu)(b:Nat):Prop:=∃(i:Nat) (c:Cell) (g:Nat),mu[i]?=some c/\c ≠ .dead/\G.blk[i]?=some (b,g)
def vV(G:Gh)(h:Array Obj)(l:Nat)(o:Obj):Cell->Prop
 | .arr cells=>∃ t e,o = .cells t e (0,0)/\t.size=l/\cells.length<=l/\∀(j:Nat) x,cells[j]?=some x->x.one=true/\VRel G h x (t.getD j wg)
 | .mp I=>∃ ce clock,o = .map ce clock/\ce.size=I.length/\(∀(k:Nat) x,I[k]?=some x->VRel G h x.1 (ce.getD k default).key)/\(∀(k:Nat) x,I[k]?=some x->VRel G h x.2 (ce.getD k default).val) /\
   clock=ce.size/\(∀(k:Nat)(e:xa),ce[k]?=some e->e.born=k)
 | .md I=>∃ ce clock,o = .map ce clock/\ce.size=I.length/\(∀(k:Nat) x,I[k]?=some x->VRel G h x.1 (ce.getD k default).key)/\(∀(k:Nat) x,I[k]?=some x->VRel G h x.2 (ce.getD k default).val)/\jY ce clock
 | .it I seen=>(∃ m p C J ce g,VRel G h (.im p) (.map (some m))/\h[m]?=some (.map ce g)/\G.imm m/\PIx C J I p/\(∀ i,i∈seen->i<I.length)/\o = .mapIter (some m) g (seen.map fun i=>(ce.getD (C i) default).born).toArray g)\/(I=[]/\o = .mapIter none 0 #[] 0)
 | .lp r P=>o = .loop r/\∀ i,VRel G h (P i) (r.tmps.getD i wg)
 | .dead=>True
theorem vV.mono(l:G.le G')(p:Ext G h h'){R o c}(r:vV G h R o c):vV G' h' R o c:=by
  cases c with
  |arr cells=>obtain⟨cs,e,J,P,t,C⟩:=r;exact⟨cs,e,J,P,t,fun j x g=>⟨(C j x g).1,(C j x g).2.mono l p⟩⟩
  |mp I=>obtain⟨ce,T,J,P,t,C,U⟩:=r;exact⟨ce,T,J,P,fun k x g=>(t k x g).mono l p,fun k x g=>(C k x g).mono l p,U⟩
  |md I=>obtain⟨ce,T,J,P,t,C,U⟩:=r;exact⟨ce,T,J,P,fun k x g=>(t k x g).mono l p,fun k x g=>(C k x g).mono l p,U⟩
  | it I seen =>
                  rcases r with ⟨m,a0,σ,τ,ce,a1,J,P,t,C⟩|r
                  · exact .inl ⟨m,a0,σ,τ,ce,a1,J.mono l p,by rw[p.keep _ t];exact P,l.imm _ t,C⟩
                  · exact .inr r
  |lp r1 tm=>exact⟨r.1,fun i=>(r.2 i).mono l p⟩
  |dead=>trivial
theorem vV.le(i:G.le G'){g o c}(r:vV G h g o c):vV G' h g o c:=r.mono i (.refl _ _)
def Zn(g:Nat->Prop)(h:Array Obj):Prop:=∀ x,x∈tabs->g x.1/\∃ e i,h[x.1]?=some (.cells x.2.toArray e i)
theorem Zn.mono{i g j}(t:Zn i h)(o:∀ b,i b->g b)(p:∀ b,i b->j[b]?=h[b]?):Zn g j:=fun x l=>by
 obtain⟨r,e,C,I⟩:=t x l
 grind
structure Sim (G:Gh) (mu:Mu) (h:Array Obj):Prop where
 len:G.blk.length=mu.length
 imm:∀ b,G.imm b->b<h.size
 obj:∀(i:Nat)(c:Cell) blk tot,mu[i]?=some c->c ≠ .dead->G.blk[i]?=some (blk,tot)->∃ o,h[blk]?=some o/\vV G h tot o c
 live:∀(i:Nat)(c:Cell) blk tot,mu[i]?=some c->c ≠ .dead->G.blk[i]?=some (blk,tot)->¬G.imm blk
 inj:∀(i j:Nat)(ci cj:Cell) b ti tj,mu[i]?=some ci->mu[j]?=some cj->ci ≠ .dead->cj ≠ .dead->G.blk[i]?=some (b,ti)->G.blk[j]?=some (b,tj)->i=j
 tab:Zn G.imm h
theorem Sim.bare(s:Sim G mu h):Sim ⟨G.imm,[]⟩ [] h:=
 ⟨rfl,s.imm,fun i c b t h=>by simp at h,fun i c b t h=>by simp at h,fun i j ci g b t l h=>by simp at h,s.tab⟩
theorem Sim.arr(s:Sim G mu h)(i:Nat)(cells l g)(p:mu[i]?=some (.arr cells))(r:G.blk[i]?=some (l,g)) :
  ∃ cs e,h[l]?=some (.cells cs e (0,0))/\cs.size=g/\cells.length<=g/\∀(j) x,cells[j]?=some x->x.one=true/\VRel G h x (cs.getD j wg):=by
 obtain⟨o,t,cs,e,rfl,h⟩:=s.obj i _ l g p zSp r;exact⟨cs,e,t,h⟩
theorem Sim.mp(s:Sim G mu h)(i:Nat)(es g j)(l:mu[i]?=some (.mp es))(p:G.blk[i]?=some (g,j)) :
  ∃ ce clock,h[g]?=some (.map ce clock)/\ce.size=es.length/\(∀(k) x,es[k]?=some x->VRel G h x.1 (ce.getD k default).key)/\(∀(k) x,es[k]?=some x->VRel G h x.2 (ce.getD k default).val) /\
   clock=ce.size/\(∀(k)(e:xa),ce[k]?=some e->e.born=k):=by
 obtain⟨o,r,ce,t,rfl,h⟩:=s.obj i _ g j l zSp p;exact⟨ce,t,r,h⟩
theorem Sim.md(s:Sim G mu h)(i:Nat)(es g j)(l:mu[i]?=some (.md es))(p:G.blk[i]?=some (g,j)) :
  ∃ ce clock,h[g]?=some (.map ce clock)/\ce.size=es.length/\(∀(k) x,es[k]?=some x->VRel G h x.1 (ce.getD k default).key)/\(∀(k) x,es[k]?=some x->VRel G h x.2 (ce.getD k default).val)/\jY ce clock:=by
 obtain⟨o,r,ce,t,rfl,h⟩:=s.obj i _ g j l zSp p;exact⟨ce,t,r,h⟩
theorem Sim.livesize(s:Sim G mu h){b}(l:Live G mu b):b<h.size:=by
 obtain⟨i,c,g,j,p,r⟩:=l;obtain⟨o,t,_⟩:=s.obj i c b g j p r
 grind
theorem Sim.all(s:Sim G mu h):Sim ⟨fun b=>G.imm b\/Live G mu b,[]⟩ [] h:=
 ⟨rfl,fun b h=>h.elim (s.imm b) (fun l=>s.livesize l),fun i c b t h=>by simp at h,fun i c b t h=>by simp at h,fun i j ci g b t o h=>by simp at h,s.tab.mono (fun b h => .inl h) (fun b h=>rfl)⟩
structure Stp (G:Gh) (mu:Mu) (w:j2) (G':Gh) (mu':Mu) (w':j2):Prop where
 le:G.le G'
 sim:Sim G' mu' w'.heap
 keep:∀ b,b<w.heap.size->¬Live G mu b->w'.heap[b]?=w.heap[b]?
 size:w.heap.size<=w'.heap.size
 live:∀ b,Live G' mu' b->Live G mu b\/w.heap.size<=b
 inew:∀ b,G'.imm b->G.imm b\/Live G mu b\/w.heap.size<=b
 tape:w'.tape=w.tape
 os:w'.os=w.os
 output:w'.output=w.output
 drawn:w.drawn<=w'.drawn
theorem Stp.ext{mu' w'}(s:Sim G mu w.heap)(t:Stp G mu w G' mu' w'):Ext G w.heap w'.heap:=
 ⟨t.size,fun b j=>t.keep b (s.imm b j) (fun⟨i,c,g,l,o,p⟩=>s.live i c b g l o p j)⟩
theorem Stp.vrel{mu' w'}(s:Sim G mu w.heap)(t:Stp G mu w G' mu' w'){x v}(r:VRel G w.heap x v):VRel G' w'.heap x v:=
 r.mono t.le (t.ext s)
theorem Stp.refl(s:Sim G mu w.heap):Stp G mu w G mu w:=
 ⟨.refl G,s,fun _ _ _=>rfl,qo _,fun _ h => .inl h,fun _ h => .inl h,rfl,rfl,rfl,qo _⟩
theorem Stp.trans{A B C a b c u v}(s:Sim A a u.heap)(h:Stp A a u B b v)(k:Stp B b v C c w):Stp A a u C c w:=by
 refine⟨h.le.trans k.le,k.sim,?_,zt h.size k.size,?_,?_,k.tape.trans h.tape,k.os.trans h.os,k.output.trans h.output,zt h.drawn k.drawn⟩
 .intro x i j
  rw[k.keep x (Nat.lt_of_lt_of_le i h.size) (fun l=>(h.live x l).elim j (fun g=>absurd i (Nat.not_lt.2 g))),h.keep x i j]
 .intro x i
  rcases k.live x i with l|l
  .exact h.live x l
  .exact .inr (zt h.size l)
 .intro x i
  rcases k.inew x i with l|l|l
  .exact h.inew x l
  .exact .inr (h.live x l)
  .exact .inr (.inr (zt h.size l))
theorem Stp.drew(s:Sim G mu w.heap):Stp G mu w G mu w.drew:=
 ⟨.refl G,s,fun _ _ _=>rfl,qo _,fun _ h => .inl h,fun _ h => .inl h,rfl,rfl,rfl,Nat.le_succ _⟩
end
end Go.Ev
namespace Go.Ev
open Go Go.RowKit
section
variable {G:Gh}{mu:Mu}{w:j2}
theorem yi{J:Type}{l}{a x:J}{i}(h:(l++[a])[i]?=some x):(i<l.length/\l[i]?=some x)\/(i=l.length/\x=a):=by
 rcases Nat.lt_trichotomy i l.length with g|g|g
 .grind
 .grind
 grind
theorem Zo(w:j2)(o b)(g:b<w.heap.size):(w.alloc o).heap[b]?=w.heap[b]?:=Below.heap_alloc w o b g
theorem Vw(w:j2)(o):(w.alloc o).heap[w.heap.size]?=some o:=by
 show (w.heap.push o)[w.heap.size]?=some o;simp
theorem Wj(s:Sim G mu w.heap)(o):Ext G w.heap (w.alloc o).heap:=
 ⟨zSp,fun b g=>Zo w o b (s.imm b g)⟩
theorem sB(s:Sim G mu w.heap)(o) :
  Stp G mu w ⟨fun b=>G.imm b\/b=w.heap.size,G.blk⟩ mu (w.alloc o):=by
 have p:G.le ⟨fun b=>G.imm b\/b=w.heap.size,G.blk⟩:=⟨fun b h => .inl h,fun _ _ h=>h⟩;have J:=Wj s o;have key:∀ b,Live G mu b->(w.alloc o).heap[b]?=w.heap[b]?:=fun b l=>Zo w o b (s.livesize l)
 refine⟨p,⟨s.len,?_,?_,?_,s.inj,s.tab.mono p.imm J.keep⟩,fun b l _=>Zo w o b l,zSp,fun b h => .inl h,fun b h=>h.elim .inl (fun e => .inr (.inr zOm)),rfl,rfl,rfl,qo _⟩
 .intro b l
  rcases l with l|l
  .have:=s.imm b l;simp;omega
  .simp;omega
 .intro i c j g r t C
  obtain⟨P,R,T⟩:=s.obj i c j g r t C;exact⟨P,by rw[key j ⟨i,_,g,r,t,C⟩];exact R,T.mono p J⟩
 .intro i c j g r t C I
  rcases I with I|I
  .exact s.live i c j g r t C I
  .have:=s.livesize ⟨i,c,g,r,t,C⟩;omega
theorem sR(s:Sim G mu w.heap)(o c t)
  (ha:c ≠ .dead->vV G w.heap t o c) :
  Stp G mu w ⟨G.imm,G.blk++[(w.heap.size,t)]⟩ (mu++[c]) (w.alloc o):=by
 have C:G.le ⟨G.imm,G.blk++[(w.heap.size,t)]⟩:=⟨fun b h=>h,fun i x h=>by
  grind⟩
 have he:=Wj s o;have key:∀ b,Live G mu b->(w.alloc o).heap[b]?=w.heap[b]?:=fun b J=>Zo w o b (s.livesize J)
 have a7:=s.len;refine⟨C,⟨by simp[s.len],?_,?_,?_,?_,s.tab.mono C.imm he.keep⟩,fun b J _=>Zo w o b J,zSp,?_,fun b h => .inl h,rfl,rfl,rfl,qo _⟩
 .intro b J
  have:=s.imm b J;simp;omega
 .intro i c' r g hc P R
  rcases yi hc with ⟨T,p⟩|⟨T,p⟩
  .have l:G.blk[i]?=some (r,g):=by
    grind
   obtain⟨o',h1,h2⟩:=s.obj i c' r g p P l;exact⟨o',by rw[key r ⟨i,_,g,p,P,l⟩];exact h1,h2.mono C he⟩
  .have l:(r,g)=(w.heap.size,t):=by
    rcases yi R with ⟨h,_⟩|⟨_,h⟩
    .omega
    .exact h
   obtain⟨rfl,rfl⟩:=Prod.mk.inj l;subst p;exact⟨o,Vw w _,(ha P).mono C he⟩
 .intro i c' r g hc P R I
  rcases yi hc with ⟨T,p⟩|⟨T,p⟩
  .have l:G.blk[i]?=some (r,g):=by
    rcases yi R with ⟨_,h⟩|⟨h,_⟩
    .exact h
    .omega
   exact s.live i c' r g p P l I
  .have l:(r,g)=(w.heap.size,t):=by
    rcases yi R with ⟨h,_⟩|⟨_,h⟩
    .omega
    .exact h
   have:=s.imm r I;obtain⟨rfl,_⟩:=Prod.mk.inj l;omega
 .intro i j ci cj b ti tj T hj a3 a4 U a0
  rcases yi T with ⟨a5,a1⟩|⟨a5,a1⟩<;>rcases yi hj with ⟨a6,a2⟩|⟨a6,a2⟩
  .have a:G.blk[i]?=some (b,ti):=by
    rcases yi U with ⟨_,h⟩|⟨h,_⟩
    .exact h
    .omega
   have c:G.blk[j]?=some (b,tj):=by
    rcases yi a0 with ⟨_,h⟩|⟨h,_⟩
    .exact h
    .omega
   exact s.inj i j ci cj b ti tj a1 a2 a3 a4 a c
  .have a:G.blk[i]?=some (b,ti):=by
    rcases yi U with ⟨_,h⟩|⟨h,_⟩
    .exact h
    .omega
   have c:(b,tj)=(w.heap.size,t):=by
    rcases yi a0 with ⟨h,_⟩|⟨_,h⟩
    .omega
    .exact h
   have:=s.livesize ⟨i,ci,ti,a1,a3,a⟩;have:=(Prod.mk.inj c).1;omega
  .have a:G.blk[j]?=some (b,tj):=by
    rcases yi a0 with ⟨_,h⟩|⟨h,_⟩
    .exact h
    .omega
   have c:(b,ti)=(w.heap.size,t):=by
    rcases yi U with ⟨h,_⟩|⟨_,h⟩
    .omega
    .exact h
   have:=s.livesize ⟨j,cj,tj,a2,a4,a⟩;have:=(Prod.mk.inj c).1;omega
  .omega
 .intro b J
  obtain⟨i,c',t',hc,P,R⟩:=J;rcases yi hc with ⟨T,p⟩|⟨T,p⟩
  .have l:G.blk[i]?=some (b,t'):=by
    rcases yi R with ⟨_,h⟩|⟨h,_⟩
    .exact h
    .omega
   exact .inl ⟨i,c',t',p,P,l⟩
  .have l:(b,t')=(w.heap.size,t):=by
    rcases yi R with ⟨h,_⟩|⟨_,h⟩
    .omega
    .exact h
   exact .inr (zW1 ((Prod.mk.inj l).1))
theorem vA{J:Type}{l:List J}{a x i j}(h:(l.set i a)[j]?=some x):(j=i/\x=a)\/(j≠i/\l[j]?=some x):=by
 rw[List.getElem?_set]at h;by_cases g:i=j
 .grind
 .rw [if_neg g]at h;grind
theorem sW{w'}(s:Sim G mu w.heap)(i c c' I J o)
  (T:mu[i]?=some c) (U:c ≠ .dead) (a9:c' ≠ .dead) (hk:G.blk[i]?=some (I,J))
  (hw:w'.heap.size=w.heap.size) (ho:w'.heap[I]?=some o) (r:∀ b,b≠I->w'.heap[b]?=w.heap[b]?)
  (ht:w'.tape=w.tape) (a5:w'.os=w.os) (a2:w'.output=w.output)
  (ha:vV G w.heap J o c') (hdr:w.drawn<=w'.drawn:=by exact qo _) :
  Stp G mu w G (mu.set i c') w':=by
 have a6:Live G mu I:=⟨i,c,J,T,U,hk⟩;have he:Ext G w.heap w'.heap:=⟨zOm,fun b hb=>r b (fun e=>by subst e;exact s.live i c b J T U hk hb)⟩;have aa:∀(j:Nat)(R:Cell) b t,j≠i->mu[j]?=some R->R ≠ .dead->G.blk[j]?=some (b,t)->b≠I:=by
  intro j R b t hj l p g e;subst e;exact hj (s.inj j i R c b t J l T p U g hk)
 refine⟨.refl G,⟨by simpa using s.len,?_,?_,?_,?_,s.tab.mono (fun _ h=>h) he.keep⟩,?_,zOm,?_,fun b h => .inl h,ht,a5,a2,hdr⟩
 .intro b hb;have:=s.imm b hb;omega
 .intro j R b t l p g
  rcases vA l with ⟨rfl,C⟩|⟨hj,C⟩
  .rw [hk]at g
   obtain⟨rfl,rfl⟩:=Prod.mk.inj (Option.some.inj g);subst C;exact⟨o,ho,ha.mono (.refl G) he⟩
  .obtain ⟨o',h1,h2⟩:=s.obj j R b t C p g
   exact⟨o',by grind,h2.mono (.refl G) he⟩
 .intro j R b t l p g
  rcases vA l with ⟨rfl,C⟩|⟨hj,C⟩
  .rw [hk]at g
   obtain⟨rfl,rfl⟩:=Prod.mk.inj (Option.some.inj g);exact s.live j c _ _ T U hk
  .exact s.live j R b t C p g
 .intro a b ca cb P ta tb a7 a8 a3 a4 a0 a1
  rcases vA a7 with ⟨rfl,C⟩|⟨hj,C⟩<;>rcases vA a8 with ⟨rfl,hy⟩|⟨ab,hy⟩
  .rfl
  .exact s.inj a b c cb P ta tb T hy U a4 a0 a1
  .exact s.inj a b ca c P ta tb C T a3 U a0 a1
  .exact s.inj a b ca cb P ta tb C hy a3 a4 a0 a1
 .intro b hb hl
  exact r b (fun e=>hl (e ▸ a6))
 .intro b hb
  obtain⟨j,R,t,l,p,g⟩:=hb;rcases vA l with ⟨rfl,C⟩|⟨hj,C⟩
  .exact .inl ⟨j,c,t,T,U,g⟩
  .exact .inl ⟨j,R,t,C,p,g⟩
theorem sX(s:Sim G mu w.heap)(i):Stp G mu w G (mu.set i .dead) w:=by
 refine⟨.refl G,⟨by simpa using s.len,s.imm,?_,?_,?_,s.tab⟩,fun _ _ _=>rfl,qo _,?_,fun b h => .inl h,rfl,rfl,rfl,qo _⟩
 .intro j r b t o g p
  rcases vA o with ⟨rfl,l⟩|⟨P,l⟩
  .exact absurd l g
  .exact s.obj j r b t l g p
 .intro j r b t o g p hi
  rcases vA o with ⟨rfl,l⟩|⟨P,l⟩
  .exact g l
  .exact s.live j r b t l g p hi
 .intro a b ca cb C ta tb R T I J U a0
  rcases vA R with ⟨rfl,l⟩|⟨P,l⟩
  .exact absurd l I
  .rcases vA T with ⟨rfl,hy⟩|⟨a1,hy⟩
   .exact absurd hy J
   .exact s.inj a b ca cb C ta tb l hy I J U a0
 .intro b hb
  obtain⟨j,r,t,o,g,p⟩:=hb;rcases vA o with ⟨rfl,l⟩|⟨P,l⟩
  .exact absurd l g
  .exact .inl ⟨j,r,t,l,g,p⟩
end
end Go.Ev
namespace Go.Ev
open Go Go.RowKit
section
variable {cs:Array j3}{mu:Mu}{P:qf}{t:j1}{w:j2}
def szOf(P:qf)(t:j1):Option Nat:=(P.info? t).map (·.size)
def qN(P:qf)(t:j1):Option Bool:=(P.underlying t).map fun | .struct _ | .array .. => true|_=>false
def qx(P:qf)(t:j1):Option AV:=((P.info? t).bind (·.zero)).map ofV
def qE(P:qf)(t:j1):Option (j1×Nat×Nat):=
 match P.underlying t with
 |some (.slice e)=>(P.info? e).map fun i=>(e,i.size,i.bytes)
 |_=>none
def qB(P:qf)(s f:Nat):Option (Nat×j1×Nat):=
 match P.underlying s with
 |some (.struct i)=>(i[f]?).bind fun g=>match szOf P g.type with|some (n+1)=>some (g.offset,g.type,n+1)|_=>none
 |_=>none
def Zp(P:qf)(t:j1):Option (Nat×j1×Nat):=
 match P.underlying t with
 |some (.array n e)=>(szOf P e).map fun k=>(n,e,k)
 |_=>none
theorem Vx{b}(h:qN P t=some b)(w):(isAgg t).run P w = .ok b w:=by
 unfold qN at h;cases g:P.underlying t with
 |none=>simp[g]at h
 |some d =>
  simp only[g,zg,qr]at h;subst h;simp only[isAgg,qM,run_underlying g,Result.andThen];cases d<;>rfl
theorem jr{n}(h:szOf P t=some n)(w):(sizeOf t).run P w = .ok n w:=by
 unfold szOf at h;cases g:P.info? t with
 |none=>simp[g]at h
 |some d =>
  simp_all[zg,qr,sizeOf,typeInfo]
theorem Zq{x}(h:qx P t=some x)(w):∃ v,(zeroValue t).run P w = .ok v w/\x=ofV v:=by
 unfold qx at h;cases g:P.info? t with
 |none=>simp[g]at h
 |some d =>
  simp only[g,Option.bind_some,jK]at h;obtain⟨v,i,rfl⟩:=h;exact⟨v,by simp[zeroValue,typeInfo,g,i],rfl⟩
theorem Zr{a:Addr}{e g}(i:w.heap[a.block]?=some (.cells cs e g))(j:a.spot=none)(k) :
  w.cell? (a.add k)=cs[a.off+k]?:=by
 grind [Addr.add,World.cell?]
@[go_sem] def vB(mu:Mu):AV->Nat->Option (List AV)
 | .ip g,n=>if n<=g.length then some (g.take n) else none
 | .ptr b off,n=>match mu[b]? with
  |some (.arr cells)=>if off+n<=cells.length then some ((cells.drop off).take n) else none
  |_=>none
 |_,_=>none
theorem kW{G}(s:Sim G mu w.heap){p v}(r:VRel G w.heap p v){n cs}(h:vB mu p n=some cs) :
  ∃(a:Addr) (rd:Nat->j3),v = .pointer (some a)/\cs.length=n/\∀(k) x,cs[k]?=some x->w.cell? (a.add k)=some (rd k)/\VRel G w.heap x (rd k):=by
 cases r with
 |ip o a arr e T rd l U hi hr hv =>
  simp only[vB]at h;split at h
  .rename_i t
   simp only[qr]at h;subst h;refine⟨a,rd,rfl,zSo,fun k x C=>?_⟩
   grind [absurd,Zr]
  grind
 |ptr b off g j l =>
  simp only[vB]at h;split at h
  .rename_i cells I
   obtain⟨arr,e,J,h2,h3,P⟩:=s.arr b cells g j I l;split at h
   .rename_i t
    simp only[qr]at h;subst h;refine⟨⟨g,off,none⟩,fun k=>arr.getD (off+k) wg,rfl,zSo,fun k x C=>?_⟩;have i:cells[off+k]?=some x:=by
     grind
    refine⟨?_,(P _ _ i).2⟩;rw[Zr (a:=⟨g,off,none⟩) J rfl];have R:off+k<cells.length:=(qg.1 i).1;have:off+k<arr.size:=zOm;simp[qV,this]
   grind
  grind
 |_=>grind [absurd,vB]
@[go_sem] def wG(P:qf)(mu:Mu)(t:j1)(p:AV):Option AV:=
 match qN P t,szOf P t with
 |some true,some n=>(vB mu p n).map .agg
 |some false,some _=>(vB mu p 1).bind fun | [x]=>some x|_=>none
 |_,_=>none
theorem kX{G}(s:Sim G mu w.heap){t p v}(r:VRel G w.heap p v){x}(h:wG P mu t p=some x) :
  ∃ a u,v = .pointer (some a)/\(loadVar t a).run P w = .ok u w/\VRel G w.heap x u:=by
 unfold wG at h;split at h
 .rename_i n J T
  cases g:vB mu p n with
  |none=>simp[g]at h
  |some i =>
   simp only[g,zg,qr]at h;subst h;obtain⟨a,rd,rfl,l,o⟩:=kW s r g;have R:=run_loadCells (P:=P) w a n rd (fun j U=>(o j i[j] (by simp[l,U])).1);refine⟨a,.agg ((qq n).map rd).toArray,rfl,?_,?_⟩
   .simp_all [loadVar,Vx,jr]
   .refine .agg _ _ (zP1 l) (fun k x hx=>?_)
    have C:k<n:=by grind
    have:(((qq n).map rd).toArray).getD k wg=rd k:=by simp[qV,C]
    grind
 .rename_i n J T
  cases g:vB mu p 1 with
  |none=>simp[g]at h
  |some i =>
   simp only[g,Option.bind_some]at h
   match i,g,h with
   | [y],g,h =>
    simp only[qr]at h;subst h;obtain⟨a,rd,rfl,l,o⟩:=kW s r g;have I:=o 0 y rfl;rw[show a.add 0=a by simp[Addr.add]]at I;exact⟨a,rd 0,rfl,by simp[loadVar,Vx J,I.1],I.2⟩
 grind
def putCells(cells:List AV)(off:Nat)(xs:List AV):List AV:=
 match xs with
 | [x]=>cells.set off x
 |xs=>cells.take off++xs++cells.drop (off+xs.length)
@[go_sem] theorem qs0(z o x):putCells z o [x]=z.set o x:=rfl
@[go_sem] theorem qs1(z o x y l):putCells z o (x :: y :: l)=z.take o++(x :: y :: l)++z.drop (o+(x :: y :: l).length):=rfl
@[go_sem] theorem qs2(z o):putCells z o []=z.take o++[]++z.drop (o+0):=rfl
theorem yY(cells off xs)(h:off+xs.length<=cells.length):putCells cells off xs=cells.take off++xs++cells.drop (off+xs.length):=by
 unfold putCells;split
 .rename_i x
  simp at h;rw[List.set_eq_take_append_cons_drop,if_pos zOm];simp
 .rfl
@[go_sem] def Vy(P:qf)(mu:Mu)(t:j1)(p x:AV):Option Mu:=
 match p,szOf P t with
 | .ptr b off,some n=>match mu[b]? with
  |some (.arr cells)=>if x.cells.length=n/\off+n<=cells.length/\x.cells.all AV.one=true then some (mu.set b (.arr (putCells cells off x.cells))) else none
  |_=>none
 |_,_=>none
theorem qeX{k v}(h:cs[k]?=some v):cs.getD k wg=v:=by simp[qV,h]
theorem qeY{G mu'}(s:Sim G mu w.heap){t p x v u}(r:VRel G w.heap p v)(rx:VRel G w.heap x u)(h:Vy P mu t p x=some mu') :
  ∃ a w',v = .pointer (some a)/\(storeVar t a u).run P w = .ok () w'/\Stp G mu w G mu' w':=by
 unfold Vy at h;split at h
 .rename_i b off n hn
  split at h
  .rename_i cells hc
   split at h
   .rename_i o
    obtain⟨J,a2,a3⟩:=o;simp only[qr]at h;subst h;cases r with
    |ptr _ _ g R hb =>
     obtain⟨arr,e,h1,h2,h3,h4⟩:=s.arr b cells g R hc hb;obtain⟨C,i,I⟩:=rx.cells (fun c a4=>by grind);have T:=run_storeCells_at P g off e u.cells.toList 0 arr w h1 (by simp[C];omega) I;simp only[Nat.add_zero]at T;refine⟨⟨g,off,none⟩,w.setRow g (arr.toList.take off++u.cells.toList++arr.toList.drop (off+u.cells.toList.length)).toArray,rfl,?_,?_⟩
     .simp_all [storeVar,qM,jr,qP,if_neg]
     .refine sW s b (.arr cells) _ g R (.cells (arr.toList.take off++u.cells.toList++arr.toList.drop (off+u.cells.toList.length)).toArray e (0,0)) hc zSp zSp hb zSp (setRow_heap w g arr _ e _ h1)
       (fun k hk=>setRow_other w g k _ hk) rfl rfl rfl ?_
      have a5:u.cells.toList.length=n:=by simp[C,J]
      refine⟨_,e,rfl,by simp[C];omega,by grind [yY],?_⟩;intro j y l;rw[yY _ _ _ zOm]at l;rw[zy]at l;by_cases U:j<off
      .rw [qG zSo,jW,if_pos U]at l
       have:=h4 j y l;refine⟨this.1,?_⟩;have e1:(((arr.toList.take off++u.cells.toList++arr.toList.drop (off+u.cells.toList.length)).toArray).getD j wg)=arr.getD j wg:=by
        simp only[qV,uO,zy];rw[qG zSo,jW,if_pos U,ZW]
       rw[e1];exact this.2
      .rw [zE zSo]at l
       have a0:(cells.take off).length=off:=zSo;rw[a0]at l;by_cases a6:j-off<n
       .rw [zGa]at l
        refine⟨by grind,?_⟩;have:=i (j-off) y l;have e1:(((arr.toList.take off++u.cells.toList++arr.toList.drop (off+u.cells.toList.length)).toArray).getD j wg)=u.cells.getD (j-off) wg:=by
         simp only[qV,uO,zy]
         grind
        rw[e1];exact this
       .rw [zE zOm,vT,J]at l
        have a1:cells[j]?=some y:=by grind
        have:=h4 j y a1;refine⟨this.1,?_⟩;have e1:(((arr.toList.take off++u.cells.toList++arr.toList.drop (off+u.cells.toList.length)).toArray).getD j wg)=arr.getD j wg:=by
         simp only[qV,uO,zy]
         grind
        rw[e1];exact this.2
   grind
  grind
 grind
end
end Go.Ev
namespace Go.Ev
open Go Go.RowKit
section
variable {x z:AV}{h:Array Obj}{G:Gh}{xs:List (List AV)}{sz:Nat}{P:qf}{t:j1}{u:j3}{w:j2}
def Good(P:qf)(G:Gh)(mu:Mu)(w:j2)(s:Sem j3)(x:AV)(mu':Mu):Prop:=
 ∃ v g i,s.run P w = .ok v g/\Stp G mu w i mu' g/\VRel i g.heap x v
theorem sY{mu}(s:Sim G mu w.heap){c x v}(h:c.run P w = .ok v w)(r:VRel G w.heap x v):Good P G mu w c x mu:=
 ⟨v,w,G,h,.refl s,r⟩
theorem Wk:(∀ r,r∈xs->r.length=sz)->∀{i k r x},xs[i]?=some r->r[k]?=some x->xs.flatten[i*sz+k]?=some x:=by
 induction xs with
 |nil=>intro _ i k r x h;simp at h
 |cons y j l =>
  intro g i k r x h o;have p:=g y zSp;cases i with
  |zero =>
   grind
  |succ i =>
   grind
theorem yD(h:∀ r,r∈xs->r.length=sz):xs.flatten.length=xs.length*sz:=by
 induction xs with
 |nil=>simp
 |cons y i g =>
  grind
@[go_sem] def aInt(op:BinOp)(k:IntKind)(a b:Int):Option AV:=
 match op with
 | .add=>some (.sc (.int k (k.wrap (a+b))))
 | .sub=>some (.sc (.int k (k.wrap (a-b))))
 | .mul=>some (.sc (.int k (k.wrap (a*b))))
 | .quo=>if b=0 then none else some (.sc (.int k (k.wrap (a.tdiv b))))
 | .rem=>if b=0 then none else some (.sc (.int k (a.tmod b)))
 | .eql=>some (.sc (.bool (a == b)))
 | .neq=>some (.sc (.bool (a != b)))
 | .lss=>some (.sc (.bool (decide (a<b))))
 | .leq=>some (.sc (.bool (decide (a<=b))))
 | .gtr=>some (.sc (.bool (decide (a > b))))
 | .geq=>some (.sc (.bool (decide (a>=b))))
 |_=>none
@[go_sem] def aStr(op:BinOp)(x y:tG):Option AV:=
 match op with
 | .eql=>some (.sc (.bool (x.toList == y.toList)))
 | .neq=>some (.sc (.bool (!(x.toList == y.toList))))
 | .lss=>some (.sc (.bool (Op.bytesLess x.toList y.toList)))
 | .add=>if x.size+y.size<=9223372036854775807 then some (.sc (.string (x++y))) else none
 |_=>none
@[go_sem] def aEqs:List AV->List AV->Option Bool
 | [],[]=>some true
 | .sc (.int k a) :: p,.sc (.int g b) :: i=>if k=g then (if a == b then aEqs p i else some false) else none
 |_,_=>none
def Wl(P:qf)(t:j1):Bool:=match P.underlying t with|some .bool=>true|_=>false
def kY(P:qf)(t:j1):Bool:=match P.underlying t with|some (.int _)=>true|_=>false
def ZX(P:qf):List Field->Nat->Bool
  | [],_=>true
  | f :: g, i => f.offset == i && f.name != "_" && kY P f.type && ZX P g (i + 1)
def Vz(P:qf)(t:j1):Option Nat:=
 match P.underlying t with
 |some (.struct g)=>if ZX P g.toList 0=true/\P.stoodInHeld t=false/\P.eqGuardType P.depth t=false then some g.size else none
 |some (.array n e)=>match P.underlying e,szOf P e with
  |some (.int _),some 1=>if P.eqGuardType P.depth t=false then some n else none
  |_,_=>none
 |_=>none
def Wm(P:qf)(t:j1):Bool:=match P.underlying t with|some (.interface _)=>true|_=>false
def Wn(P:qf)(t:j1):Bool:=match P.underlying t with|some (.interface g)=>g.isEmpty|_=>false
def Qi(P:qf)(t:j1):Bool:=match P.underlying t with|some (.pointer _)=>true|_=>false
@[go_sem] def kZ(op:BinOp)(k:IntKind)(a b:Int):Option AV:=
 if b<0 then none else match op with
  | .shl=>some (.sc (.int k (k.wrap (a*2 ^ (min b.toNat k.bits)))))
  | .shr=>some (.sc (.int k (a.fdiv (2 ^ (min b.toNat k.bits)))))
  |_=>none
@[go_sem] def aBin(P:qf)(op:BinOp)(t:j1)(x y:AV):Option AV:=
 match x,y with
 | .sc (.int k a),.sc (.int g b)=>if op = .shl\/op = .shr then kZ op k a b else if k=g then aInt op k a b else none
 | .sc (.bool a),.sc (.bool b)=>if Wl P t=true then (match op with | .eql=>some (.sc (.bool (a == b))) | .neq=>some (.sc (.bool (!(a == b))))|_=>none) else none
 | .sc (.string a),.sc (.string b)=>aStr op a b
 | .ifc _ _,.sc .nilIface=>if Wm P t=true then (match op with | .eql=>some (.sc (.bool false)) | .neq=>some (.sc (.bool true))|_=>none) else none
 | .sc .nilIface,.sc .nilIface=>if Wn P t=true then (match op with | .eql=>some (.sc (.bool true)) | .neq=>some (.sc (.bool false))|_=>none) else none
 | .sc (.pointer none),.sc (.pointer none)=>if Qi P t=true then (match op with | .eql=>some (.sc (.bool true)) | .neq=>some (.sc (.bool false))|_=>none) else none
 | .ip _,.sc (.pointer none)=>if Qi P t=true then (match op with | .eql=>some (.sc (.bool false)) | .neq=>some (.sc (.bool true))|_=>none) else none
 | .ptr _ _,.sc (.pointer none)=>if Qi P t=true then (match op with | .eql=>some (.sc (.bool false)) | .neq=>some (.sc (.bool true))|_=>none) else none
 |_,_=>none
theorem qeZ{k a b}(g:¬b=0):(Op.intDiv .quo k a b).run P w=(Pure.pure (.int k (k.wrap (a.tdiv b))):Sem j3).run P w:=by
 unfold Op.intDiv;rw[if_neg g]
theorem qe0{k a b}(g:¬b=0):(Op.intDiv .rem k a b).run P w=(Pure.pure (.int k (a.tmod b)):Sem j3).run P w:=by
 unfold Op.intDiv;rw[if_neg g]
theorem qe1(d){t u x g}(i:P.underlying t=some (.interface g)) :
  (Op.equalIn (d+1) t (.iface u x) .nilIface).run P w = .ok false w:=by
 simp[Op.equalIn,run_underlying i]
theorem qe2(d){t g}(i:P.underlying t=some (.interface g)) :
  (Op.equalIn (d+1) t .nilIface .nilIface).run P w = .ok true w:=by
 simp[Op.equalIn,run_underlying i]
theorem qe3(d){t g}(i:P.underlying t=some (.interface g))(j:g.isEmpty=true) :
  (Op.eqGuardIn (d+1) t .nilIface .nilIface).run P w = .ok false w:=by
 simp[Op.eqGuardIn,run_underlying i,j]
theorem qe4(d){t e a}(g:P.underlying t=some (.pointer e)) :
  (Op.equalIn (d+1) t (.pointer a) (.pointer none)).run P w = .ok a.isNone w:=by
 cases a<;>simp[Op.equalIn,run_underlying g]
theorem qe5(h:Qi P t=true):∃ e,P.underlying t=some (.pointer e):=by
 grind [Qi,absurd]
theorem Wo{op ox oy a b c}(g:Qi P t=true)(i:a.isNone=b)(j:(!b)=c){z G}
  (h:(match op with | .eql=>some (AV.sc (.bool b)) | .neq=>some (AV.sc (.bool c))|_=>none)=some z):∃ r,(do eqGuard op t ox oy (.pointer a) (.pointer none);binOp op t (.pointer a) (.pointer none):Sem j3).run P w = .ok r w/\VRel G w.heap z r:=by
 obtain⟨e,l⟩:=qe5 g;have o:(eqGuard op t ox oy (.pointer a) (.pointer none)).run P w = .ok () w:=by
  unfold eqGuard;cases op<;>rfl
 simp only[qM,o,qP];have p:(Op.equal t (.pointer a) (.pointer none)).run P w = .ok a.isNone w:=qe4 9999 l;subst i;subst j;cases op<;>simp only[qr]at h<;>first
  | (simp at h;done)
  | (subst h;refine⟨_,?_,.sc _ rfl⟩;simp[binOp,p];done)
theorem qe6{op y ox oy v}(l:VRel G w.heap x u)(o:VRel G w.heap y v)(h:aBin P op t x y=some z) :
    ∃ r,(do eqGuard op t ox oy u v;binOp op t u v:Sem j3).run P w = .ok r w/\VRel G w.heap z r:=by
  unfold aBin at h;split at h
  ·
    rename_i k a U b;cases l;cases o;split at h
    · unfold kZ at h
      split at h
      · cases h
      · rename_i g
        have i:(eqGuard op t ox oy (.int k a) (.int U b)).run P w = .ok () w:=by
          unfold eqGuard;cases op<;>rfl
        simp only[qM,i,qP];cases op<;>simp only[qr]at h<;>first
          | (cases h;done)
          | (subst h;refine⟨_,?_,.sc _ rfl⟩;simp[binOp,Op.shift,g];done)
    · rename_i hs
      split at h
      · rename_i hk;subst hk
        have i:(eqGuard op t ox oy (.int k a) (.int k b)).run P w = .ok () w:=by
          unfold eqGuard;cases op<;>rfl
        simp only[qM,i,qP];unfold aInt at h;cases op<;>simp only[qr]at h<;>first
          | (simp at h;done)
          | (subst h;refine⟨_,?_,.sc _ rfl⟩;simp[binOp,Op.intArith,Op.intCmp];done)
          | (split at h
             · exact absurd h zSp
             · rename_i g
               simp only[qr]at h;subst h;refine⟨_,?_,.sc _ rfl⟩;simp[binOp,qeZ g,qe0 g];done)
          | (exfalso;simp at hs)
      grind
  · rename_i a b
    cases l;cases o;split at h
    · rename_i g
      have j:P.underlying t=some .bool:=by
        grind [Wl,absurd]
      have i:(eqGuard op t ox oy (.bool a) (.bool b)).run P w = .ok () w:=by
        unfold eqGuard;cases op<;>rfl
      simp only[qM,i,qP];cases op<;>simp only[qr]at h<;>first
        | (simp at h;done)
        | (subst h;refine⟨_,?_,.sc _ rfl⟩;simp[binOp,Op.equal,Op.maxDepth,run_equalIn_bool' w 9999 t a b j];done)
    grind
  · rename_i a b
    cases l;cases o;have i:(eqGuard op t ox oy (.string a) (.string b)).run P w = .ok () w:=by
      unfold eqGuard;cases op<;>rfl
    simp only[qM,i,qP];unfold aStr at h;cases op<;>simp only[qr]at h<;>first
      | (simp at h;done)
      | (subst h;refine⟨_,?_,.sc _ rfl⟩;simp[binOp,Op.stringOp];done)
      | (split at h
         · rename_i g
           simp only[qr]at h;subst h;refine⟨_,?_,.sc _ rfl⟩;have:¬(((a.size+b.size:Nat):Int) > qm.max):=by simp[IntKind.max,IntKind.signed,IntKind.bits];omega
           simp only[binOp,Op.stringOp,if_neg this,zD]
         · exact absurd h zSp)
  · rename_i R vv
    cases o;cases l with
    |ifc _ _ T hv =>
    split at h
    · rename_i g
      have j:∃ p,P.underlying t=some (.interface p):=by
        unfold Wm at g;split at g
        · exact⟨_,by assumption⟩
        · exact absurd g zSp
      obtain⟨p,j⟩:=j;have i:(eqGuard op t ox oy (.iface R T) .nilIface).run P w = .ok () w:=by
        unfold eqGuard;cases op<;>rfl
      simp only[qM,i,qP];have C:(Op.equal t (.iface R T) .nilIface).run P w = .ok false w:=qe1 9999 j;cases op<;>simp only[qr]at h<;>first
        | (simp at h;done)
        | (subst h;refine⟨_,?_,.sc _ rfl⟩;simp[binOp,C];done)
    · exact absurd h zSp
  · cases l
    cases o;split at h
    · rename_i g
      have j:∃ p,P.underlying t=some (.interface p)/\p.isEmpty=true:=by
        unfold Wn at g;split at g
        · exact⟨_,by assumption,g⟩
        · exact absurd g zSp
      obtain⟨p,j,I⟩:=j;have i:(eqGuard op t ox oy .nilIface .nilIface).run P w = .ok () w:=by
        have J:(Op.eqGuardIn Op.maxDepth t .nilIface .nilIface).run P w = .ok false w:=qe3 9999 j I;unfold eqGuard;cases op<;>first|rfl | (simp only[qM,Sem.run_ite,J,qP];simp)
      simp only[qM,i,qP];have C:(Op.equal t .nilIface .nilIface).run P w = .ok true w:=qe2 9999 j;cases op<;>simp only[qr]at h<;>first
        | (simp at h;done)
        | (subst h;refine⟨_,?_,.sc _ rfl⟩;simp[binOp,C];done)
    · exact absurd h zSp
  · cases l
    cases o;split at h
    · rename_i g;exact Wo g rfl rfl h
    · exact absurd h zSp
  · cases o
    cases l;split at h
    · rename_i g;exact Wo g rfl rfl h
    · exact absurd h zSp
  · cases o
    cases l;split at h
    · rename_i g;exact Wo g rfl rfl h
    · exact absurd h zSp
  grind
@[go_sem] def aUn(op:UnOp):AV->Option AV
 | .sc (.bool b)=>match op with | .not=>some (.sc (.bool !b))|_=>none
 | .sc (.int k n)=>match op with | .neg=>some (.sc (.int k (k.wrap (0-n))))|_=>none
 |_=>none
theorem qe7{op}(g:VRel G w.heap x u)(h:aUn op x=some z) :
  ∃ r,(Op.unary op u).run P w = .ok r w/\VRel G w.heap z r:=by
 unfold aUn at h;split at h
 .cases g
  split at h
  .simp only[qr]at h;subst h
   exact⟨_,rfl,.sc _ rfl⟩
  grind
 .cases g
  split at h
  .simp only[qr]at h;subst h
   exact⟨_,rfl,.sc _ rfl⟩
  grind
 grind
@[go_sem] def VA(P:qf)(src g:j1):AV->Option AV
 | .sc (.int _ n)=>match P.underlying g with|some (.int k)=>some (.sc (.int k (k.wrap n)))|_=>none
 | .lst _ [[.sc (.int .u8 n)]]=>match P.underlying src with
  |some (.slice e)=>match P.underlying e,P.underlying g with
   |some (.int .u8),some .string=>some (.sc (.string (ByteArray.empty.push (UInt8.ofNat n.toNat))))
   |_,_=>none
  |_=>none
 |_=>none
theorem qe8{src i}(J:VRel G w.heap x u)(p:∃ d,P.underlying src=some d)(h:VA P src i x=some z) :
  ∃ r,(convert src i u).run P w = .ok r w/\VRel G w.heap z r:=by
 unfold VA at h;obtain⟨d,p⟩:=p;split at h
 .cases J
  split at h
  .rename_i k U
   simp only[qr]at h;subst h;refine⟨_,?_,.sc _ rfl⟩;simp only[convert,qM,run_underlying p,run_underlying U,qP];simp[Conv.intToInt]
  grind
 .rename_i f n
  split at h
  .rename_i e l
   split at h
   .rename_i he t
    simp only[qr]at h;subst h;cases J with
    |lst _ _ g a cap cs e' fr rd hb C hl hc hi hz hr hv =>
     have R:VRel G w.heap (.sc (.int .u8 n)) (rd 0):=hv 0 _ rfl;have T:cs[a.off+0]?=some (rd 0):=hr 0 _ rfl;generalize rd 0=q at R T;cases R;refine⟨_,?_,.sc _ rfl⟩;rw[run_convert_bytes_string w src i e (some a) _ cap l he t];have I:=run_loadCells_list (P:=P) w a [.int .u8 n] (fun j v o=>by
      match j,o with
      | 0,o =>
       simp only[Vq,qr]at o;subst o;rw[Zr hb C];exact T)
     exact run_bytesToString (P:=P) w a 1 cap [n] I
   grind
  grind
 grind
theorem sH{cs a}(r:VRel G h (.ip cs) (.pointer (some a)))(n):VRel G h (.ip (cs.drop n)) (.pointer (some (a.add n))):=by
 cases r with
 |ip _ _ arr e i rd j l o t C =>
  have g:(a.add n).block=a.block:=by unfold Addr.add;split<;>rfl
  have p:(a.add n).spot=none:=by unfold Addr.add;split<;>simp[l]
  have I:(a.add n).off=a.off+n:=by unfold Addr.add;split<;>simp_all
  refine .ip _ _ arr e i (fun k=>rd (n+k)) (by rw[g];exact j) p (by rw[g];exact o) ?_ ?_
  .grind
  grind
theorem sU{b o a}(r:VRel G h (.ptr b o) (.pointer (some a)))(n):VRel G h (.ptr b (o+n)) (.pointer (some (a.add n))):=by
 cases r with
 |ptr _ _ g i j =>
  have:(⟨g,o,none⟩:Addr).add n=⟨g,o+n,none⟩:=by unfold Addr.add;split<;>simp_all
  rw[this];exact .ptr b (o+n) g i j
@[go_sem] def addA(p:AV)(n:Nat):Option AV:=
 match p with
 | .ip g=>some (.ip (g.drop n))
 | .ptr b o=>some (.ptr b (o+n))
 |_=>none
theorem k5{p v n}(r:VRel G h p v)(e:addA p n=some z):∃ a,v = .pointer (some a)/\VRel G h z (.pointer (some (a.add n))):=by
 unfold addA at e;split at e
 .simp only[qr]at e;subst e
  cases r with
  |ip _ a arr el l rd g o t C I=>exact⟨a,rfl,sH (.ip _ a arr el l rd g o t C I) n⟩
 .simp only[qr]at e;subst e
  cases r with
  |ptr _ _ i j g=>exact⟨_,rfl,sU (.ptr _ _ i j g) n⟩
 grind
@[go_sem] def VB(P:qf)(s f:Nat)(p:AV):Option AV:=(qB P s f).bind fun (off,_,_)=>addA p off
theorem k6{s f off n}(h:qB P s f=some (off,t,n)) :
  ∃(fs:Array Field) (g:Field),P.underlying s=some (.struct fs)/\fs[f]?=some g/\g.offset=off/\g.type=t/\szOf P t=some n/\n≠0:=by
 unfold qB at h;split at h
 .grind
 grind
theorem qe9{s f p v}(r:VRel G w.heap p v)(e:VB P s f p=some z) :
  ∃ u,(Instr.fieldAt s v f).run P w = .ok u w/\VRel G w.heap z u:=by
 unfold VB at e;cases hf:qB P s f with
 |none=>simp[hf]at e
 |some x =>
  obtain⟨off,t,n⟩:=x;simp only[hf,Option.bind_some]at e;obtain⟨a,rfl,j⟩:=k5 r e;obtain⟨C,I,l,g,rfl,rfl,i,o⟩:=k6 hf;refine⟨_,?_,j⟩;simp[Instr.fieldAt,run_underlying l,g,Instr.sureAddr,fieldPlace,jr i,o]
@[go_sem] def VC(P:qf)(t:j1)(x o:AV):Option AV:=
 match o with
 | .sc (.int _ i) =>
  match x,qE P t,Zp P t with
  | .lst _ l,some (_,g,_),_=>if 0<=i/\i<l.length then (match l[i.toNat]? with|some r=>if r.length=g/\g≠0 then some (.ip r) else none|none=>none) else none
  | .sl b j off len,some (_,g,_),_=>if 0<=i/\i<len/\(j=g\/j=0) then some (.ptr b (off+i.toNat*g)) else none
  |p,none,some (n,_,g)=>if 0<=i/\i<n then addA p (i.toNat*g) else none
  |_,_,_=>none
 |_=>none
theorem vW{e bt}(h:qE P t=some (e,sz,bt)):∃ i,P.underlying t=some (.slice e)/\P.info? e=some i/\i.size=sz/\i.bytes=bt:=by
 unfold qE at h;split at h
 .rename_i g l
  cases j:P.info? g with
  |none=>simp[j]at h
  |some i =>
   grind
 grind
theorem k7{e n}(h:Zp P t=some (n,e,sz)):P.underlying t=some (.array n e)/\szOf P e=some sz:=by
 unfold Zp at h;split at h
 .rename_i l g o
  cases j:szOf P g with
  |none=>simp[j]at h
  |some i =>
   grind
 grind
theorem qfA{ix v}(r:VRel G w.heap x v)(ri:VRel G w.heap ix u)(e:VC P t x ix=some z) :
  ∃ y,(Instr.indexAt t v u).run P w = .ok y w/\VRel G w.heap z y:=by
 unfold VC at e;split at e
 .rename_i k i
  cases ri;split at e
  .rename_i full p e' g bt hs
   split at e
   .rename_i J
    split at e
    .rename_i row l
     split at e
     .rename_i hz
      simp only[qr]at e;subst e;obtain⟨a1,R,o,I,a2⟩:=vW hs;have C:szOf P e'=some g:=by simp[szOf,o,I]
      cases r with
      |nil=>simp at l
      |emp=>simp at l
      |lst _ _ j a cap cs el fr rd hb a3 hl hc T a4 hr hv =>
       have U:j=g:=by grind
       subst U;refine⟨.pointer (some (a.add (i.toNat*j))),?_,?_⟩
       .simp [Instr.indexAt,asIntOf,run_underlying R,J,jr C]
       .have h1:(a.add (i.toNat*j)).block=a.block:=by unfold Addr.add;split<;>rfl
        have h2:(a.add (i.toNat*j)).spot=none:=by unfold Addr.add;split<;>simp[a3]
        have h3:(a.add (i.toNat*j)).off=a.off+i.toNat*j:=by unfold Addr.add;split<;>simp_all
        refine .ip _ _ cs el fr (fun k=>rd (i.toNat*j+k)) (by rw[h1];exact hb) h2 (by rw[h1];exact T) ?_ ?_
        .intro k x hx
         rw[h3,Nat.add_assoc];exact hr _ x (Wk a4 l hx)
        grind [Wk]
     grind
    grind
   grind
  .rename_i b j off len e' g bt hs
   split at e
   .rename_i J
    obtain⟨a5,a6,_⟩:=J;simp only[qr]at e;subst e;obtain⟨a1,R,o,I,a2⟩:=vW hs;have C:szOf P e'=some g:=by simp[szOf,o,I]
    cases r with
    |sl _ _ _ _ a0 a7 cap hb ht hl =>
     refine⟨.pointer (some ((⟨a0,off,none⟩:Addr).add (i.toNat*g))),?_,sU (.ptr b off a0 a7 hb) _⟩;simp[Instr.indexAt,asIntOf,run_underlying R,a5,a6,jr C]
   grind
  .rename_i n e' g ha
   split at e
   .rename_i J
    obtain⟨R,C⟩:=k7 ha;obtain⟨a,rfl,hz⟩:=k5 r e;refine⟨_,?_,hz⟩;simp[Instr.indexAt,asIntOf,run_underlying R,Instr.sureAddr,J,jr C]
   .exact absurd e zSp
  grind
 grind
end
end Go.Ev
namespace Go.Ev
open Go Go.RowKit
section
variable {z:AV}{h:Array Obj}{G:Gh}{xs:List (List AV)}{g:Option Int}{vhi vlo vmx:Option j3}{P:qf}{t:j1}{w:j2}
@[go_sem] def VD(P:qf)(t:j1)(cs:List AV)(off:Nat):Option AV:=
 match qN P t,szOf P t with
 |some true,some n=>if off+n<=cs.length then some (.agg ((cs.drop off).take n)) else none
 |some false,_=>cs[off]?
 |_,_=>none
theorem k8{cs g off}
  (C:g.size=cs.length) (j:∀(k) x,cs[k]?=some x->VRel G w.heap x (g.getD k wg)) (h:VD P t cs off=some z) :
  ∃ u,(part t g off).run P w = .ok u w/\VRel G w.heap z u:=by
 unfold VD at h;split at h
 .rename_i n l o
  split at h
  .rename_i p
   simp only[qr]at h;subst h;refine⟨.agg (g.extract off (off+n)),by simp[part,Vx l,jr o],.agg _ _ zSo ?_⟩;intro k x i;rw[jW]at i;split at i
   .rename_i I
    rw[vT]at i;have:=j _ x i;have e:(g.extract off (off+n)).getD k wg=g.getD (off+k) wg:=by
     simp only[qV]
     grind
    rw[e];exact this
   grind
  grind
 .rename_i l
  have:=j off z h;have r:off<cs.length:=(qg.1 h).1;simp_all[wg,part,Vx,qV]
 grind
@[go_sem] def VE(P:qf)(s f:Nat)(x:AV):Option AV:=
 match x with
 | .agg g=>(qB P s f).bind fun (off,t,_)=>VD P t g off
 |_=>none
theorem qfB{s f x v}(r:VRel G w.heap x v)(e:VE P s f x=some z) :
  ∃ u,(Instr.field s v f).run P w = .ok u w/\VRel G w.heap z u:=by
 unfold VE at e;split at e
 .rename_i p
  cases r with
  |agg _ C g i =>
  cases hf:qB P s f with
  |none=>simp[hf]at e
  |some y =>
   obtain⟨off,t,n⟩:=y;simp only[hf,Option.bind_some]at e;obtain⟨I,J,R,j,rfl,rfl,l,o⟩:=k6 hf;obtain⟨u,T,U⟩:=k8 g i e;simp_all[Instr.field,run_underlying,asAgg]
 grind
@[go_sem] def VF(P:qf)(t:j1)(x j:AV):Option AV:=
 match j with
 | .sc (.int _ i) =>
  match x with
  | .agg l=>match Zp P t with
   |some (n,e,g)=>if 0<=i/\i<n then VD P e l (i.toNat*g) else none
   |none=>none
  | .sc (.string s)=>match P.underlying t with
   |some .string=>if 0<=i then (match s.data[i.toNat]? with|some b=>some (.sc (.int .u8 b.toNat))|none=>none) else none
   |_=>none
  |_=>none
 |_=>none
theorem qfC{x p v u}(r:VRel G w.heap x v)(T:VRel G w.heap p u)(e:VF P t x p=some z) :
  ∃ y,(Instr.index t v u).run P w = .ok y w/\VRel G w.heap z y:=by
 unfold VF at e;split at e
 .rename_i k i
  cases T;split at e
  .rename_i cs
   cases r with
   |agg _ vs U hv =>
   split at e
   .rename_i n el g ha
    split at e
    .rename_i C
     obtain⟨I,a0⟩:=k7 ha;obtain⟨y,h1,J⟩:=k8 U hv e;simp_all[Instr.index,asIntOf,run_underlying,jr]
    grind
   grind
  .rename_i s
   cases r;split at e
   .rename_i I
    split at e
    .rename_i C
     split at e
     .rename_i b R
      simp only[qr]at e;subst e;refine⟨.int .u8 b.toNat,?_,.sc _ rfl⟩;have l:i.toNat<s.data.size:=(yv.1 R).1;have o:s[i.toNat]?=some b:=by
       have J:s.data[i.toNat]=b:=(yv.1 R).2;have j:i.toNat<s.size:=l;rw[getElem?_pos s i.toNat j];exact congrArg some J
      simp[Instr.index,asIntOf,run_underlying I,C,o]
     grind
    grind
   grind
  grind
 grind
@[go_sem] def optI:Option AV->Option (Option Int)
 |none=>some none
 |some (.sc (.int _ n))=>some (some n)
 |_=>none
@[go_sem] def VG(P:qf)(t:j1)(x:AV)(lo i mx:Option AV):Option AV:=
 match optI lo,optI i,optI mx with
 |some lo,some i,some mx =>
  match x,P.underlying t with
  | .lst full p,some (.slice _) =>
   let n:Int:=p.length
   let h:=i.getD n
   let l:=lo.getD 0
   match mx with
   |none=>if 0<=l/\l<=h/\h<=n then some (.lst (full&&decide (h=n)) ((p.take h.toNat).drop l.toNat)) else none
   |some m=>if 0<=l/\l<=h/\h<=m/\m<=n/\i.isSome then some (.lst (decide (m=h)) ((p.take h.toNat).drop l.toNat)) else none
  | .sl b g off len,some (.slice e) =>
   let h:=i.getD len
   let l:=lo.getD 0
   match mx with
   |none=>if 0<=l/\l<=h/\h<=len/\(l=0\/l<len)/\szOf P e=some g then some (.sl b g (off+l.toNat*g) (h-l).toNat) else none
   |some _=>none
  | .ip j,some (.array n e) =>
   let h:=i.getD n
   let l:=lo.getD 0
   match mx with
   |none=>if 0<=l/\l<=h/\h<=n/\(l=0\/l<n)/\szOf P e=some 1/\j.length=n then some (.lst (decide (h=n)) (((j.take h.toNat).drop l.toNat).map fun c=>[c])) else none
   |some _=>none
  | .ptr b off,some (.array n e) =>
   match mx with
   |none=>if off=0/\lo.getD 0=0/\0<=i.getD n/\i.getD n<=n/\(szOf P e).isSome=true then some (.sl b 0 0 (i.getD n).toNat) else none
   |some _=>none
  | .sc (.string s),some .string =>
   let n:Int:=s.size
   let h:=i.getD n
   let l:=lo.getD 0
   match mx with
   |none=>if 0<=l/\l<=h/\h<=n then some (.sc (.string (s.extract l.toNat h.toNat))) else none
   |some _=>none
  |_,_=>none
 |_,_,_=>none
theorem wH{k}{i:Int}{y:Nat}{c}(g:0<=i)(j:i<=y):(Instr.sliceBound (.int k i) y c).run P w = .ok i.toNat w:=by
 simp[Instr.sliceBound,asIntOf,g,j]
theorem Wp{o}(e:optI o=some g) :
  ∀{v},(∀ x,o=some x->∃ u,v=some u/\VRel G h x u)->(o=none->v=none)->(g=none/\v=none)\/∃ k n,g=some n/\v=some (.int k n):=by
 intro v i j;unfold optI at e;split at e
 .grind
 .rename_i k n
  simp only[qr]at e;obtain⟨u,l,r⟩:=i _ rfl;cases r
  grind
 grind
theorem ZY{isSlice}{len cap:Nat}{lo mx}
  (j:(lo=none/\vlo=none)\/∃ k n,lo=some n/\vlo=some (.int k n)) (o:(g=none/\vhi=none)\/∃ k n,g=some n/\vhi=some (.int k n))
  (p:(mx=none/\vmx=none)\/∃ k n,mx=some n/\vmx=some (.int k n)) (r:mx.isSome=true->g.isSome=true)
  (U:0<=lo.getD 0) (h1:lo.getD 0<=g.getD len) (h2:g.getD len<=mx.getD cap) (h3:mx.getD cap<=cap) (T:len<=cap) :
  (Instr.sliceBounds isSlice len cap vlo vhi vmx).run P w = .ok ((lo.getD 0).toNat,(g.getD len).toNat,(mx.getD cap).toNat) w:=by
 rcases j with ⟨rfl,rfl⟩|⟨R,l,rfl,rfl⟩<;>rcases o with ⟨rfl,rfl⟩|⟨t,h,rfl,rfl⟩<;>rcases p with ⟨rfl,rfl⟩|⟨C,m,rfl,rfl⟩<;>simp only[Option.getD_none,Option.getD_some]at * <;>
  simp only[Option.isSome_none,Option.isSome_some,reduceCtorEq,imp_false,not_true_eq_false]at r
 .simp [Instr.sliceBounds]
 .grind [Instr.sliceBound,wH,Instr.sliceBounds,qM,zD,qP]
 .have I:(Instr.sliceBound (.int C m) cap (if isSlice then .slice3Acap else .slice3Alen)).run P w = .ok m.toNat w:=wH zOm zOm
  have i:(Instr.sliceBound (.int t h) m.toNat .slice3B).run P w = .ok h.toNat w:=wH zOm zOm;simp only[Instr.sliceBounds,qM,zD,qP,i,I];simp
 .grind [Instr.sliceBound,wH,Instr.sliceBounds,qM,zD,qP]
 .have i:(Instr.sliceBound (.int t h) cap (if isSlice then .sliceAcap else .sliceAlen)).run P w = .ok h.toNat w:=wH zOm zOm
  have J:(Instr.sliceBound (.int R l) h.toNat (if (none:Option j3).isSome then .slice3C else .sliceB)).run P w = .ok l.toNat w:=wH zOm zOm;simp only[Instr.sliceBounds,qM,zD,qP,J,i];simp
 .have I:(Instr.sliceBound (.int C m) cap (if isSlice then .slice3Acap else .slice3Alen)).run P w = .ok m.toNat w:=wH zOm zOm
  have i:(Instr.sliceBound (.int t h) m.toNat .slice3B).run P w = .ok h.toNat w:=wH zOm zOm;have J:(Instr.sliceBound (.int R l) h.toNat (if (some (Value.int C m)).isSome then .slice3C else .sliceB)).run P w = .ok l.toNat w:=wH zOm zOm;simp only[Instr.sliceBounds,qM,zD,qP,J,i,I]
theorem k9{sz}:(∀ r,r∈xs->r.length=sz)->∀ l,(xs.drop l).flatten=xs.flatten.drop (l*sz):=by
 induction xs with
 |nil=>intro _ l;simp
 |cons y i g =>
  intro j l;cases l with
  |zero=>simp
  |succ l =>
   simp only[List.drop_succ_cons,wE];rw[g (fun r o=>j r (zP1 o)),Nat.succ_mul,Nat.add_comm,<-List.drop_drop]
   grind
theorem sV{full sz a cap l i m}
  (r:VRel G h (.lst full xs) (.slice a xs.length cap)) (J:∀ x,x∈xs->x.length=sz) (h1:l<=i) (P:i<=xs.length) (h3:i<=m) (hm:m<=cap) (j) (hf:j=true->m=i) :
  VRel G h (.lst j ((xs.take i).drop l)) (.slice (if m=l then a else a.map (·.add (l*sz))) (i-l) (m-l)):=by
 have a2:((xs.take i).drop l).length=i-l:=zSo;by_cases he:i=l
 .subst he
  have o:(xs.take i).drop i=[]:=wD zOm;rw[o,Nat.sub_self];cases a with
  |none =>
   have:xs=[]/\cap=0:=by cases r;exact⟨rfl,rfl⟩
   have R:m=0:=zOm;subst R;simp;exact .nil j
  |some a =>
   have:(if m=i then some a else (some a).map (·.add (i*sz)))=some (if m=i then a else a.add (i*sz)):=by split<;>rfl
   rw[this];exact .emp j _ _ (fun h=>zW1 (hf h))
 .have T:m≠l:=by omega
  rw[if_neg T];generalize a3:xs.length=n at r;cases r with
  |nil=>simp at P;omega
  |emp=>simp at P;omega
  |lst _ _ g a cap cs e fr rd hb hs hl hc U hz C hv =>
   have a0:xs≠[]:=by intro e;subst e;simp at P;omega
   obtain⟨y,hy⟩:∃ y,y∈xs:=List.exists_mem_of_ne_nil xs a0;have p:g=sz:=by rw[<-hz y hy,J y hy]
   subst p;have t:(a.add (l*g)).block=a.block:=by unfold Addr.add;split<;>rfl
   have a1:(a.add (l*g)).spot=none:=by unfold Addr.add;split<;>simp[hs]
   have a4:(a.add (l*g)).off=a.off+l*g:=by unfold Addr.add;split<;>simp_all
   have key:∀(k:Nat) x,((xs.take i).drop l).flatten[k]?=some x->xs.flatten[l*g+k]?=some x:=by
    intro k x I;rw[k9 (fun r C=>hz r (ui C)),vT]at I
    grind [List.flatten_append,vS,qG,qg]
   have:=VRel.lst (G:=G) (h:=h) j ((xs.take i).drop l) g (a.add (l*g)) (m-l) cs e fr (fun k=>rd (l*g+k)) (by rw[t];exact hb) a1 zOm (fun h=>zW1 (hf h)) (by rw[t];exact U)
    (fun r C=>hz r (ui (List.mem_of_mem_drop C))) (fun k x I=>by grind) (fun k x I=>hv _ x (key k x I))
   grind
theorem VRel.lst_inv{full v}(r:VRel G h (.lst full xs) v) :
  ∃ a cap,v = .slice a xs.length cap/\xs.length<=cap/\(full=true->cap=xs.length)/\(∃ sz,∀ x,x∈xs->x.length=sz):=by
 cases r with
 |nil=>exact⟨none,0,rfl,qo _,fun _=>rfl,0,zSp⟩
 |emp _ a cap g=>exact⟨some a,cap,rfl,Nat.zero_le _,g,0,zSp⟩
 |lst _ _ sz a cap l e o rd p t i g C j I J=>exact⟨some a,cap,rfl,i,g,sz,j⟩
def yE(sz:Nat)(xs:List (List AV)):Prop:=∀ r,r∈xs->r.length=sz
theorem qfD{x lo hi mx v}(r:VRel G w.heap x v)
  (a6:∀ y,lo=some y->∃ u,vlo=some u/\VRel G w.heap y u) (a0:lo=none->vlo=none) (a7:∀ y,hi=some y->∃ u,vhi=some u/\VRel G w.heap y u) (a1:hi=none->vhi=none)
  (a8:∀ y,mx=some y->∃ u,vmx=some u/\VRel G w.heap y u) (a2:mx=none->vmx=none)
  (a9:∀ full xs,x = .lst full xs->∃ e sz bt,qE P t=some (e,sz,bt)/\yE sz xs)
  (e:VG P t x lo hi mx=some z):∃ y,(Instr.sliceAt t v vlo vhi vmx).run P w = .ok y w/\VRel G w.heap z y:=by
 unfold VG at e;split at e
 .rename_i g o ar aa ad ae
  have J:=Wp (G:=G) (h:=w.heap) aa a6 a0;have R:=Wp (G:=G) (h:=w.heap) ad a7 a1;have T:=Wp (G:=G) (h:=w.heap) ae a8 a2;clear aa ad ae a6 a0 a7 a1 a8 a2;split at e
  .rename_i full xs el U
   obtain⟨a,cap,rfl,af,ak,_⟩:=r.lst_inv;obtain⟨e',sz,bt,hs,ag⟩:=a9 full xs rfl;obtain⟨au,ah,ai,al,av⟩:=vW hs;have an:e'=el:=by rw[U]at ah;simpa using ah.symm
   subst an;have C:szOf P e'=some sz:=by simp[szOf,ai,al]
   simp only at e;split at e
   .split at e
    .rename_i hc
     obtain⟨c1,c2,c3⟩:=hc;simp only[qr]at e;subst e;have i:=ZY (P:=P) (w:=w) (isSlice:=true) (len:=xs.length) (cap:=cap) J R T zSp c1 c2 zSo zSp af;refine⟨_,by simp only[Instr.sliceAt,Instr.slice,qM,run_underlying U,qP,i,jr C,zD];rfl,?_⟩;have hl:(g.getD 0).toNat<=(o.getD xs.length).toNat:=zOm;simp only[Option.getD_none,Int.toNat_natCast];exact sV r ag hl zOm zOm (qo _) _ (fun hf=>by
      simp only[qD,decide_eq_true_eq]at hf;have:=ak hf.1;omega)
    .exact absurd e zSp
   .rename_i m
    split at e
    .rename_i hc
     obtain⟨c1,c2,c3,c4,c5⟩:=hc;simp only[qr]at e;subst e;have i:=ZY (P:=P) (w:=w) (isSlice:=true) (len:=xs.length) (cap:=cap) J R T (fun _=>c5) c1 c2 (by simpa using c3) zSo af;refine⟨_,by simp only[Instr.sliceAt,Instr.slice,qM,run_underlying U,qP,i,jr C,zD];rfl,?_⟩;have hl:(g.getD 0).toNat<=(o.getD xs.length).toNat:=zOm;simp only[Option.getD_some];exact sV r ag hl zOm zOm zOm _ (fun hf=>by
      simp only[decide_eq_true_eq]at hf;omega)
    .exact absurd e zSp
  .rename_i b sz off len el U
   simp only at e;split at e
   .split at e
    .rename_i hc
     obtain⟨c1,c2,c3,c4,C⟩:=hc;simp only[qr]at e;subst e;cases r with
     |sl _ _ _ _ p a4 cap hb ht hl =>
     have i:=ZY (P:=P) (w:=w) (isSlice:=true) (len:=len) (cap:=cap) J R T zSp c1 c2 zSo zSp hl;refine⟨_,by simp only[Instr.sliceAt,Instr.slice,qM,run_underlying U,qP,i,jr C,zD];rfl,?_⟩;simp only[Option.getD_none,Int.toNat_natCast];have e1:(if cap=(g.getD 0).toNat then some (⟨p,off,none⟩:Addr) else (some (⟨p,off,none⟩:Addr)).map (·.add ((g.getD 0).toNat*sz)))=some ⟨p,off+(g.getD 0).toNat*sz,none⟩:=by
      split
      .rename_i aj
       have:(g.getD 0).toNat=0:=zOm;simp[this]
      .simp only[zg,Addr.add]
       split<;>simp_all
     rw[e1,show (o.getD (len:Int)).toNat-(g.getD 0).toNat=(o.getD (len:Int)-g.getD 0).toNat by omega];refine .sl b sz _ _ p a4 _ hb ?_ zOm;have aw:(g.getD 0).toNat<=cap:=zOm;refine zt (Nat.le_of_eq ?_) ht;rw[Nat.add_assoc,<-Nat.add_mul];congr 2;omega
    .exact absurd e zSp
   .exact absurd e zSp
  .rename_i cs n el U
   simp only at e;split at e
   .split at e
    .rename_i hc
     obtain⟨c1,c2,c3,c4,C,ax⟩:=hc;simp only[qr]at e;subst e;cases r with
     |ip _ a arr e' fr rd hb hs hi hr hv =>
     obtain⟨ab,ao,ay⟩:=a;simp only at hb hs hi hr;subst hs;have i:=ZY (P:=P) (w:=w) (isSlice:=false) (len:=n) (cap:=n) J R T zSp c1 c2 zSo zSp (qo n);refine⟨_,by simp only[Instr.sliceAt,Instr.sureAddr,qM,run_underlying U,qP,i,jr C,zD];rfl,?_⟩;simp only[Option.getD_none,Int.toNat_natCast,Nat.mul_one];have e1:(some (if n=(g.getD 0).toNat then (⟨ab,ao,none⟩:Addr) else (⟨ab,ao,none⟩:Addr).add (g.getD 0).toNat))=some ⟨ab,ao+(g.getD 0).toNat,none⟩:=by
      split
      .rename_i aj
       have:(g.getD 0).toNat=0:=zOm;simp[this]
      .simp only[Addr.add]
       split<;>simp_all
     rw[e1];have I:(((cs.take (o.getD (n:Int)).toNat).drop (g.getD 0).toNat).map fun c=>[c]).length=(o.getD (n:Int)).toNat-(g.getD 0).toNat:=by
      simp only[zK,List.length_drop,uP];omega
     have a5:∀ l:List AV,(l.map fun c=>[c]).flatten=l:=by
      intro l;induction l with
      |nil=>rfl
      |cons x l ih=>simp[ih]
     by_cases h0:(o.getD (n:Int)).toNat-(g.getD 0).toNat=0
     .rw [h0]
      have:(((cs.take (o.getD (n:Int)).toNat).drop (g.getD 0).toNat).map fun c=>[c])=[]:=wD (by rw[I,h0]);rw[this];exact .emp _ _ _ (fun h=>by rw[decide_eq_true_eq]at h;omega)
     .rw [<-I]
      have a3:∀(k:Nat) x,(((cs.take (o.getD (n:Int)).toNat).drop (g.getD 0).toNat).map fun c=>[c]).flatten[k]?=some x->cs[(g.getD 0).toNat+k]?=some x:=by
       intro k x hx;rw[a5,vT,jW]at hx;split at hx
       .exact hx
       .exact absurd hx zSp
      refine .lst _ _ 1 ⟨ab,ao+(g.getD 0).toNat,none⟩ _ arr e' fr (fun k=>rd ((g.getD 0).toNat+k)) hb rfl (by rw[I];omega) (fun h=>by rw[decide_eq_true_eq]at h;rw[I];omega) hi ?_ ?_ ?_
      .intro r aq
       obtain⟨c,_,rfl⟩:=qi.1 aq;rfl
      .intro k x hx
       have:=hr _ x (a3 k x hx);simpa[Nat.add_assoc] using this
      .intro k x hx
       exact hv _ x (a3 k x hx)
    .exact absurd e zSp
   .exact absurd e zSp
  .rename_i b off n el U
   split at e
   .split at e
    .rename_i hc
     obtain⟨rfl,c1,c2,c3,c4⟩:=hc;obtain⟨sz,C⟩:=Option.isSome_iff_exists.1 c4;simp only[qr]at e;subst e;cases r with
     |ptr _ _ p a4 hb =>
     have i:=ZY (P:=P) (w:=w) (isSlice:=false) (len:=n) (cap:=n) J R T zSp zOm zOm zSo zSp (qo n);refine⟨_,by simp only[Instr.sliceAt,Instr.sureAddr,qM,run_underlying U,qP,i,jr C,zD];rfl,?_⟩;simp only[Option.getD_none,Int.toNat_natCast,c1,Int.toNat_zero,Nat.zero_mul,Nat.sub_zero];have e1:(some (if n=0 then (⟨p,0,none⟩:Addr) else (⟨p,0,none⟩:Addr).add 0))=some ⟨p,0,none⟩:=by
      split
      .rfl
      .simp only[Addr.add]
       split<;>simp_all
     rw[e1];exact .sl b 0 0 _ p a4 n hb zSp zOm
    .exact absurd e zSp
   .exact absurd e zSp
  .rename_i s U
   cases r;simp only at e;split at e
   .split at e
    .rename_i hc
     obtain⟨c1,c2,c3⟩:=hc;simp only[qr]at e;subst e;rcases T with ⟨_,rfl⟩|⟨_,_,h,_⟩
     .have i:=ZY (P:=P) (w:=w) (isSlice:=false) (len:=s.size) (cap:=s.size) J R (mx:=none) (vmx:=none) (.inl ⟨rfl,rfl⟩) zSp c1 c2 (by simp<;>omega) zSp (qo _)
      exact⟨_,by simp only[Instr.sliceAt,Instr.slice,qM,run_underlying U,qP,i,zD,Option.isSome_none,Bool.false_eq_true,if_false],.sc _ rfl⟩
     .exact absurd h zSp
    .exact absurd e zSp
   .exact absurd e zSp
  .exact absurd e zSp
 .exact absurd e zSp
end
end Go.Ev
namespace Go.Ev
open Go Go.RowKit
theorem qfE(off):∀(l:List j3)(s cs),((l.zipIdx s).foldl (fun (cs:Array j3) (x:j3×Nat)=>cs.setIfInBounds (off+x.2) x.1) cs).size=cs.size:=by
 intro l;induction l with
 |nil=>intro s cs;rfl
 |cons y i g=>simp_all
theorem qfF(off):∀(l:List j3)(s cs k),off+s+l.length<=cs.size ->
  ((l.zipIdx s).foldl (fun (cs:Array j3) (x:j3×Nat)=>cs.setIfInBounds (off+x.2) x.1) cs).getD k wg =
   if off+s<=k/\k<off+s+l.length then l.getD (k-(off+s)) wg else cs.getD k wg:=by
 intro l;induction l with
 |nil=>simp_all[if_neg,List.length_nil]
 |cons y i j =>
  intro s cs k h;simp only[zz]at h;simp only[List.zipIdx_cons,List.foldl_cons];rw[j (s+1) _ k zSo];by_cases g:off+(s+1)<=k/\k<off+(s+1)+i.length
  .rw [if_pos g,if_pos (by grind)]
   rw[show k-(off+s)=(k-(off+(s+1)))+1 by omega];simp
  .rw [if_neg g]
   by_cases o:k=off+s
   .subst o
    rw[if_pos zSp];simp[qV,show off+s<cs.size by omega]
   .rw [if_neg (by grind)]
    simp only[qV]
    grind
@[go_sem] def Qj(place:Nat->Option (Nat×Nat))(cells:List AV):List (Nat×AV)->Option (List AV)
 | []=>some cells
 | (i,v) :: g =>
  match place i with
  |none=>none
  |some (off,size)=>if v.cells.length=size/\off+size<=cells.length/\v.cells.all AV.one=true then Qj place (putCells cells off v.cells) g else none
theorem pa(cells off xs)(h:off+xs.length<=cells.length):(putCells cells off xs).length=cells.length:=by
 grind [yY]
theorem qfG(cells off xs)(h:off+xs.length<=cells.length)(k) :
  (putCells cells off xs)[k]?=if off<=k/\k<off+xs.length then xs[k-off]? else cells[k]?:=by
 rw[yY _ _ _ h,zy];by_cases g:k<off
 .rw [zIn,qG zSo,jW,if_pos g]
 .have i:(cells.take off).length=off:=by simp;omega
  rw[zE zOm,i];by_cases j:k<off+xs.length
  .rw [if_pos zOm,zGa]
  .rw [zIn,zE zOm,vT]
   congr 1;omega
def Jc(G:Gh)(h:Array Obj):List (Nat×AV)->List (Nat×j3)->Prop
 | [],[]=>True
 | (i,x) :: p,(j,v) :: g=>i=j/\VRel G h x v/\Jc G h p g
 |_,_=>False
theorem pb{G h place}:∀ ps g cells arr z,Jc G h ps g ->
  arr.size=cells.length->(∀(k) x,cells[k]?=some x->VRel G h x (arr.getD k wg))->Qj place cells ps=some z ->
  ∃ r,Instr.fill place arr g=some r/\r.size=z.length/\z.length=cells.length/\∀(k) x,z[k]?=some x->VRel G h x (r.getD k wg):=by
 intro ps;induction ps with
 |nil =>
  intro g cells arr z o C J h;cases g with
  |nil =>
   simp only[Qj,qr]at h;subst h;exact⟨arr,rfl,C,rfl,J⟩
  |cons=>exact o.elim
 |cons p ps P =>
  intro g cells arr z o C J h;obtain⟨i,x⟩:=p;cases g with
  |nil=>exact o.elim
  |cons q g =>
   obtain⟨j,v⟩:=q;obtain⟨rfl,R,o⟩:=o;simp only[Qj]at h;split at h
   .grind
   .rename_i off size T
    split at h
    .rename_i l
     obtain⟨c1,c2,c3⟩:=l;obtain⟨U,t,I⟩:=R.cells (fun c a0=>by grind);have hl:v.cells.toList.length=size:=zSo;obtain⟨r,h1,h2,h3,h4⟩:=P g (putCells cells off x.cells) (v.cells.zipIdx.foldl (fun cs (x:j3×Nat)=>cs.setIfInBounds (off+x.2) x.1) arr) z o
      (by rw[pa _ _ _ zOm,<-Array.foldl_toList,Array.toList_zipIdx,qfE,C])
      (by
       intro k y hk;rw[qfG _ _ _ zOm]at hk;rw[<-Array.foldl_toList,Array.toList_zipIdx,qfF off _ 0 arr k zOm];by_cases a1:off<=k/\k<off+x.cells.length
       .simp_all
       grind) h
     simp_all[pa,Instr.fill,if_neg]
    grind
def z8(P:qf)(t:j1):Option (Nat->Option (Nat×Nat)):=
 match P.underlying t with
 |some (.array _ e)=>(szOf P e).map fun s=>fun i=>some (i*s,s)
 |some (.struct j)=>(j.toList.mapM (fun f=>(P.info? f.type).map fun i=>(f.offset,i.size))).map fun g=>fun i=>g.toArray[i]?
 |_=>none
@[go_sem] def VH(P:qf)(t:j1)(ps:List (Nat×AV)):Option AV:=
 match qx P t,z8 P t with
 |some z,some place=>(Qj place z.cells ps).map .agg
 |_,_=>none
theorem Jd{G h}(v)(g:∀ c,c∈(ofV v).cells->c.one=true) :
  v.cells.size=(ofV v).cells.length/\∀(k) x,(ofV v).cells[k]?=some x->VRel G h x (v.cells.getD k wg):=
 let ⟨i,j,_⟩:=(VRel.ofV (G:=G) (h:=h) v).cells g
 ⟨i,j⟩
theorem qfH{P G w t ps o z}(J:Jc G w.heap ps o.toList)
  (R:∀ y,qx P t=some y->y.cells.all AV.one=true) (e:VH P t ps=some z):∃ u,(Instr.build t o).run P w = .ok u w/\VRel G w.heap z u:=by
 unfold VH at e;split at e
 .rename_i C place g j
  cases hf:Qj place C.cells ps with
  |none=>simp[hf]at e
  |some r =>
   simp only[hf,zg,qr]at e;subst e;have T:=R C g;unfold qx at g;cases l:P.info? t with
   |none=>simp[l]at g
   |some it =>
    simp only[l,Option.bind_some,jK]at g;obtain⟨v,hv,rfl⟩:=g;obtain⟨g1,U⟩:=Jd (G:=G) (h:=w.heap) v (fun c hc=>by grind);obtain⟨I,h1,h2,h3,h4⟩:=pb ps o.toList _ v.cells r J g1 U hf;refine⟨.agg I,?_,.agg _ _ h2 h4⟩;refine run_build w t o I ?_;unfold z8 at j;unfold Program.built;split at j
    .rename_i n el hu
     cases a0:P.info? el with
     |none=>grind [szOf]
     |some ie =>
      grind [szOf,qr]
    .rename_i fs hu
     cases hm:fs.toList.mapM (fun f=>(P.info? f.type).map fun i=>(f.offset,i.size)) with
     |none=>simp[hm]at j
     |some p =>
      grind
    grind
 grind
end Go.Ev
namespace Go.Ev
open Go Go.RowKit
section
variable {G:Gh}{xs:List (List AV)}{mu:Mu}{sz:Nat}{P:qf}{w:j2}
def zc(sz:Nat)(xs:List (List AV)):Prop:=∀ r,r∈xs->r.length=sz/\r.all AV.one=true
theorem zc.ok(h:zc sz xs):yE sz xs:=fun r g=>(h r g).1
theorem zc.one(h:zc sz xs):∀ c,c∈xs.flatten->c.one=true:=by
 intro c i;obtain⟨r,j,g⟩:=kU.1 i;exact by simpa using zb.1 (h r j).2 c g
theorem Wq(l:List j3)(k):l.toArray.getD k wg=l.getD k wg:=by
 simp[qV,zC]
theorem pf(s:Sim G mu w.heap){x v}(t)(r:VRel G w.heap x v)(o:x.cells.all AV.one=true) :
  ∃ G',(newVar t v).run P w = .ok ⟨w.heap.size,0,none⟩ (w.alloc (.cells v.cells t))/\Stp G mu w G' (mu++[.arr x.cells]) (w.alloc (.cells v.cells t)) /\
   VRel G' (w.alloc (.cells v.cells t)).heap (.ptr mu.length 0) (.pointer (some ⟨w.heap.size,0,none⟩)):=by
 obtain⟨i,g,_⟩:=r.cells (fun c p=>by grind);refine⟨_,rfl,sR s (.cells v.cells t) (.arr x.cells) v.cells.size ?_,.ptr _ 0 w.heap.size v.cells.size ?_⟩
 .intro _
  refine⟨v.cells,t,rfl,rfl,zOm,fun j y l=>⟨by grind,g j y l⟩⟩
 .show (G.blk++[_])[mu.length]?=_
  rw[<-s.len];simp
theorem qfI(s:Sim G mu w.heap){x v}(t)(r:VRel G w.heap x v)(l:x.cells.all AV.one=true) :
  ∃ G',(newVar t v).run P w = .ok ⟨w.heap.size,0,none⟩ (w.alloc (.cells v.cells t))/\Stp G mu w G' mu (w.alloc (.cells v.cells t)) /\
   VRel G' (w.alloc (.cells v.cells t)).heap (.ip x.cells) (.pointer (some ⟨w.heap.size,0,none⟩)):=by
 obtain⟨i,g,_⟩:=r.cells (fun c o=>by grind);have U:=sB s (.cells v.cells t);refine⟨_,rfl,U,.ip _ _ v.cells t (0,0) (fun k=>v.cells.getD k wg) (Vw w _) rfl (.inr rfl) ?_ ?_⟩
 .simp_all [qg,qV]
 .intro k y j
  exact U.vrel s (g k y j)
theorem pg(z n){k}{x:AV}(h:((qS n z).flatten)[k]?=some x):z[k % z.length]?=some x:=by
 induction n generalizing k with
 |zero=>simp at h
 |succ n g =>
  grind [wE,qG,Nat.mod_eq_of_lt,zE,Nat.mod_eq_sub_mod]
theorem ph(z:List AV)(n):((qS n z).flatten).length=n*z.length:=by simp
@[go_sem] def ZZ(sz:Nat):List (List AV)->List (Nat×AV)->Option (List (List AV))
 |rows,[]=>some rows
 |rows,(i,v) :: g=>if v.cells.length=sz/\i<rows.length/\v.cells.all AV.one=true then ZZ sz (rows.set i v.cells) g else none
theorem Je:∀ rows i r,yE sz rows->r.length=sz->i<rows.length->(rows.set i r).flatten=putCells rows.flatten (i*sz) r:=by
 intro rows;induction rows with
 |nil=>grind
 |cons y j I =>
  intro i r l t J;have P:y.length=sz:=l y zSp;have R:(y :: j).flatten.length=(j.length+1)*sz:=yD (xs:=y :: j) l;cases i with
  |zero =>
   grind [yY,Nat.succ_mul]
  |succ i =>
   simp only[List.set_cons_succ,wE];have o:i<j.length:=zUs J;have g:yE sz j:=fun r t=>l r (zP1 t)
   rw[I i r g t o];have C:i*sz+r.length<=j.flatten.length:=by
    rw[yD g,t];have:(i+1)*sz<=j.length*sz:=Nat.mul_le_mul_right _ o;rw[Nat.succ_mul]at this;exact this
   rw[yY _ _ _ C,yY _ _ _ (by simp only[qX,P,Nat.succ_mul];omega)];simp_all[Nat.succ_mul,Nat.add_comm,List.take_append,List.drop_append,List.take,List.take_of_length_le,List.drop]
theorem qfJ:∀ ps rows g,yE sz rows->ZZ sz rows ps=some g ->
  Qj (fun i=>some (i*sz,sz)) rows.flatten ps=some g.flatten/\yE sz g/\g.length=rows.length:=by
 intro ps;induction ps with
 |nil =>
  intro rows g j h;simp only[ZZ,qr]at h;subst h;exact⟨rfl,j,rfl⟩
 |cons p ps t =>
  intro rows g j h;obtain⟨i,v⟩:=p;simp only[ZZ]at h;split at h
  .rename_i C
   obtain⟨c1,c2,c3⟩:=C;have l:yE sz (rows.set i v.cells):=by
    intro r I;rcases List.mem_or_eq_of_mem_set I with h|h
    .exact j r h
    grind
   obtain⟨J,P,R⟩:=t _ g l h;refine⟨?_,P,by rw[R];simp⟩;simp only[Qj];have o:i*sz+sz<=rows.flatten.length:=by
    rw[yD j];have:(i+1)*sz<=rows.length*sz:=Nat.mul_le_mul_right _ c2
    grind
   rw[if_pos ⟨c1,o,c3⟩,<-Je rows i v.cells j c1 c2];exact J
  grind
@[go_sem] def VI(P:qf)(t:j1)(len:Nat)(ps:List (Nat×AV)):Option AV:=
 match qE P t with
 |some (e,g,_) =>
  match qx P e with
  |some z=>if len*g<=16777216/\z.cells.length=g/\z.cells.all AV.one=true then (ZZ g (qS len z.cells) ps).map (.lst true) else none
  |none=>none
 |none=>none
theorem VJ{t z}(h:qx P t=some z):∃ i v,P.info? t=some i/\i.zero=some v/\z=ofV v:=by
 unfold qx at h;cases g:P.info? t with
 |none=>simp[g]at h
 |some it =>
  simp only[g,Option.bind_some,jK]at h;obtain⟨v,j,rfl⟩:=h
  grind
theorem sJ{h b cap cs e g}(full)(i:h[b]?=some (.cells cs e g))(j:xs.length<=cap)(l:full=true->cap=xs.length)
  (o:G.imm b) (p:yE sz xs) (t:xs.flatten.length<=cs.size) (r:∀(k) x,xs.flatten[k]?=some x->VRel G h x (cs.getD k wg)):VRel G h (.lst full xs) (.slice (some ⟨b,0,none⟩) xs.length cap):=by
 refine .lst full xs sz ⟨b,0,none⟩ cap cs e g (fun k=>cs.getD k wg) i rfl j l o p ?_ r;intro k x C;have:k<cs.size:=by grind
 simp[qV,this]
theorem pi{z:Array j3}{n k}(g:k<n)(i:0<z.size):(((Array.range n).map (z[· % z.size]!)).getD k wg)=z.getD (k % z.size) wg:=by
 simp_all[Nat.mod_lt,qV,getElem!_pos]
theorem qfK(s:Sim G mu w.heap){t len ps R x}(hp:Jc G w.heap ps R.toList)
  (e:VI P t len ps=some x):Good P G mu w (Instr.buildSlice t len R) x mu:=by
 unfold VI at e;split at e
 .rename_i el i bt hs
  split at e
  .rename_i z hz
   split at e
   .rename_i hc
    obtain⟨c1,c2,c3⟩:=hc;cases C:ZZ i (qS len z.cells) ps with
    |none=>simp[C]at e
    |some rows =>
     simp only[C,zg,qr]at e;subst e;obtain⟨a6,hu,a5,a7,a8⟩:=vW hs;have T:szOf P el=some i:=by grind [szOf]
     obtain⟨it,l,a0,a1,rfl⟩:=VJ hz;have I:yE i (qS len (ofV l).cells):=by
      intro r C;rw[List.eq_of_mem_replicate C];exact c2
     obtain⟨f1,f2,f3⟩:=qfJ ps _ rows I C;have g:=Jd (G:=G) (h:=w.heap) l (fun c hc=>by grind);have o:((qS len (ofV l).cells).flatten).length=len*i:=by rw[ph,c2]
     obtain⟨arr,k1,k2,k3,k4⟩:=pb (G:=G) (h:=w.heap) ps R.toList _ ((Array.range (len*i)).map ((if len*i=0 then #[] else l.cells)[· % (if len*i=0 then #[] else l.cells).size]!)) _ hp (by simp[o])
      (by
       intro k y hk;have a2:k<len*i:=by grind
       have a3:¬len*i=0:=zOm;have:=pg _ _ hk;rw[c2]at this;simp only[if_neg a3];have J:l.cells.size=i:=by rw[g.1,c2]
       rw[pi a2 (by grind),J]
       grind) f1
     have U:=sB s (.cells arr el);have j:rows.length=len:=by rw[f3];simp
     refine⟨.slice (some ⟨w.heap.size,0,none⟩) len len,_,_,?_,U,?_⟩
     .have a9:(zeroValue el).run P w = .ok l w:=by simp[zeroValue,typeInfo,a0,a1]
      have a4:¬(len*i > 2 ^ 24):=zOm;simp only[Instr.buildSlice,qM,run_underlying hu,qP,jr T,if_neg a4];by_cases h0:len*i=0
      .simp_all [if_pos,qM,qP,zD,newRow,run_newObj]
      simp_all[if_neg,qM,qP,zD,newRow,run_newObj]
     .have:=sJ (G:=⟨fun b=>G.imm b\/b=w.heap.size,G.blk⟩) (h:=(w.alloc (.cells arr el)).heap) (xs:=rows) (sz:=i) (b:=w.heap.size) (cap:=len) true (Vw w _) zOm (fun _=>j.symm) (.inr rfl) f2 zOm
       (fun k y hk=>U.vrel s (k4 k y hk))
      rw[j]at this;exact this
   grind
  grind
 grind
end
end Go.Ev
namespace Go.Ev
open Go Go.RowKit
theorem Stp.move{G mu w}(s:Sim G mu w.heap)(i c p o)(hc:mu[i]?=some c)(hd:c ≠ .dead)(hk:G.blk[i]?=some (p,o)) :
  Stp G mu w ⟨G.imm,G.blk++[(p,o)]⟩ (mu.set i .dead++[c]) w:=by
 have P:G.le ⟨G.imm,G.blk++[(p,o)]⟩:=⟨fun b h=>h,fun j x h=>by
  grind⟩
 have a3:=s.len;have a0:(mu.set i Cell.dead).length=mu.length:=zSp
 have r:∀(j:Nat)(l:Cell) b t,(mu.set i Cell.dead++[c])[j]?=some l->l ≠ .dead->(G.blk++[(p,o)])[j]?=some (b,t) ->
   (j<mu.length/\j≠i/\mu[j]?=some l/\G.blk[j]?=some (b,t))\/(j=mu.length/\l=c/\b=p/\t=o):=by
  intro j l b t J g R;rcases yi J with ⟨I,C⟩|⟨I,C⟩
  .grind
  .rcases yi R with ⟨h',_⟩|⟨_,h'⟩
   .omega
   .obtain ⟨rfl,rfl⟩:=Prod.mk.inj h'
    exact .inr ⟨zOm,C,rfl,rfl⟩
 refine⟨P,⟨by simp[s.len],s.imm,?_,?_,?_,s.tab⟩,fun _ _ _=>rfl,qo _,?_,fun b h => .inl h,rfl,rfl,rfl,qo _⟩
 .intro j l b t J g R
  rcases r j _ b t J g R with ⟨_,_,I,C⟩|⟨_,rfl,rfl,rfl⟩
  .obtain ⟨o',g1,g2⟩:=s.obj j l b t I g C
   exact⟨o',g1,g2.le P⟩
  .obtain ⟨o',g1,g2⟩:=s.obj i l b t hc hd hk
   exact⟨o',g1,g2.le P⟩
 .intro j l b t J g R
  rcases r j _ b t J g R with ⟨_,_,I,C⟩|⟨_,rfl,rfl,rfl⟩
  .exact s.live j l b t I g C
  .exact s.live i l b t hc hd hk
 .intro j k l ck b t t' J a1 g T U a2
  rcases r j _ b t J g U with ⟨l1,n1,I,C⟩|⟨l1,e1,e2,e3⟩<;>rcases r k _ b t' a1 T a2 with ⟨l2,n2,h3,h4⟩|⟨l2,e4,e5,e6⟩
  .exact s.inj j k l ck b t t' I h3 g T C h4
  .subst e5
   exact absurd (s.inj j i l c b t o I hc g hd C hk) n1
  .subst e2
   exact absurd (s.inj k i ck c b t' o h3 hc T hd h4 hk) n2
  .omega
 .intro b R
  obtain⟨j,l,t,J,g,U⟩:=R;rcases r j _ b t J g U with ⟨_,_,I,C⟩|⟨_,rfl,rfl,rfl⟩
  .exact .inl ⟨j,l,t,I,g,C⟩
  .exact .inl ⟨i,l,t,hc,hd,hk⟩
@[go_sem] def Jf(n:Nat)(z:List AV):List AV:=
 match z with
 | [x]=>qS n x
 |z=>(qS n z).flatten
theorem pj(n z):Jf n z=(qS n z).flatten:=by
 unfold Jf;split
 .simp
 .rfl
@[go_sem] def Jg(P:qf)(mu:Mu)(t:j1)(len cap:AV):Option (AV×Mu):=
 match len,cap,qE P t with
 | .sc (.int .i64 l),.sc (.int .i64 c),some (e,g,i) =>
  match qx P e with
  |some z=>if 0<=l/\l<=c/\c<=4294967296/\i<=16384/\z.cells.length=g/\z.cells.all AV.one=true/\g≠0 then
    some (.sl mu.length g 0 l.toNat,mu++[.arr (Jf l.toNat z.cells)]) else none
  |none=>none
 |_,_,_=>none
theorem zL{n}(g : -9223372036854775808<=n)(i:n<=9223372036854775807):qm.wrap n=n:=IntWalk.i64_in n ⟨g,i⟩
theorem zWr{x}(g:-9223372036854775808<=x:=by omega)(i:x<=9223372036854775807:=by omega):qm.wrap x=x:=zL g i
theorem zWk(k:Nat)(g:-9223372036854775808<=(k:Int)+1:=by omega)(i:(k:Int)+1<=9223372036854775807:=by omega):qm.wrap ((k:Int)+1)=(k:Int)+1:=zL g i
theorem qfL{P G mu mu' w}(s:Sim G mu w.heap){t len cap x vl vc}(rl:VRel G w.heap len vl)(rc:VRel G w.heap cap vc)
  (e:Jg P mu t len cap=some (x,mu')):Good P G mu w (Instr.makeSlice t vl vc) x mu':=by
 unfold Jg at e;split at e
 .rename_i l c el i bt hs
  cases rl;cases rc;split at e
  .rename_i z hz
   split at e
   .rename_i hc
    obtain⟨c1,c2,c3,c4,c5,c6,c7⟩:=hc;simp only[qr,vU]at e;obtain⟨rfl,rfl⟩:=e;obtain⟨o,hu,C,a8,T⟩:=vW hs;have a0:szOf P el=some i:=by grind [szOf]
    obtain⟨it,p,a1,a2,rfl⟩:=VJ hz;have g:=Jd (G:=G) (h:=w.heap) p (fun c hc=>by grind);have a3:(zeroValue el).run P w = .ok p w:=by simp[zeroValue,typeInfo,a1,a2]
    have a4:qm.wrap l=l:=zWr;have a5:qm.wrap c=c:=zWr;have a9:((o.bytes:Nat):Int)*c<=2 ^ 48:=by
     rw[T];have h1:(bt:Int)*c<=16384*4294967296:=Int.mul_le_mul zOm zOm zOm zOm;omega
    have I:p.cells.size=i:=by rw[g.1,c5]
    let arr:Array j3:=(Array.range (c.toNat*i)).map ((if c.toNat*i=0 then #[] else p.cells)[· % (if c.toNat*i=0 then #[] else p.cells).size]!)
    have J:arr.size=c.toNat*i:=by simp[arr]
    have aa:l.toNat*i<=c.toNat*i:=Nat.mul_le_mul_right _ zOm;have ab:(Jf l.toNat (ofV p).cells).length=l.toNat*i:=by rw[pj,ph,c5]
    have U:=sR s (.cells arr el) (.arr (Jf l.toNat (ofV p).cells)) (c.toNat*i) (by
     intro _;refine⟨arr,el,rfl,J,zOm,fun j y hj=>?_⟩;have ad:j<l.toNat*i:=by grind
     have a6:¬c.toNat*i=0:=zOm;rw[pj]at hj;have hy:=pg _ _ hj;refine⟨by grind,?_⟩;have:=g.2 _ y hy;simp only[arr,if_neg a6];rw[pi zOm zOm,I,<-c5];exact this)
    refine⟨.slice (some ⟨w.heap.size,0,none⟩) l.toNat c.toNat,_,_,?_,U,?_⟩
    .have a7:(typeInfo el).run P w = .ok o w:=by simp[typeInfo,C]
     have n1:¬(((o.bytes:Nat):Int)*c > 2 ^ 48):=zOm;have r:((decide (c<0)||decide (((o.bytes:Nat):Int)*c > 2 ^ 48))||decide (l<0)||decide (l > c))=false:=by
      grind
     simp only[Instr.makeSlice,qM,run_underlying hu,qP,asInt,asIntOf,zD,a7,a4,a5,r,Bool.false_eq_true,if_false,run_askRoom,jr a0];by_cases R:c.toNat*i=0
     .simp only[if_pos R,qM,zD,qP,newRow,run_newObj]
      simp only[arr,if_pos R];rfl
     .simp only[if_neg R,qM,a3,zD,qP,newRow,run_newObj]
      simp only[arr,if_neg R];rfl
    .refine .sl _ i 0 _ w.heap.size (c.toNat*i) c.toNat ?_ zOm zOm
     show (G.blk++[_])[mu.length]?=_;rw[<-s.len];simp
   grind
  grind
 grind
end Go.Ev
namespace Go.Ev
open Go Go.RowKit
section
variable {P:qf}{w:j2}
def qz(mu:Mu):AV->Option (List (List AV))
 | .lst _ p=>some p
 | .sl b g off len=>match mu[b]? with
  |some (.arr cells)=>if off+len*g<=cells.length then some ((qq len).map fun i=>(cells.drop (off+i*g)).take g) else none
  |_=>none
 |_=>none
theorem Wr(sz):∀(len)(cells:List AV),len*sz<=cells.length->((qq len).map fun i=>(cells.drop (i*sz)).take sz).flatten=cells.take (len*sz):=by
 intro len;induction len with
 |zero=>intro cells _;simp
 |succ n g =>
  intro cells h;rw[List.range_succ,q9,List.flatten_append,g cells (by rw[Nat.succ_mul]at h;omega)];simp only[List.map_cons,List.map_nil,wE,List.flatten_nil,List.append_nil,Nat.succ_mul];rw[List.take_add]
theorem VK{G mu}(s:Sim G mu w.heap){x v ys sz}(r:VRel G w.heap x v)(h:qz mu x=some ys)(R:zc sz ys) :
  ∃(a:Option Addr) (cap:Nat) (news:List j3),v = .slice a ys.length cap/\news.length=ys.length*sz/\(∀ u∈news,u.oneCell'=true) /\
   (∀(k) y,ys.flatten[k]?=some y->VRel G w.heap y (news.getD k wg))/\(Builtin.firstCells sz ys.length v).run P w = .ok news.toArray w/\(Builtin.firstCells sz ys.length v).run P w.drew = .ok news.toArray w.drew:=by
 have fin:∀(a:Addr)(cap:Nat)(rd:Nat->j3),(∀(k:Nat) y,ys.flatten[k]?=some y->w.cell? (a.add k)=some (rd k)/\VRel G w.heap y (rd k))->v = .slice (some a) ys.length cap ->
   ∃(a:Option Addr) (cap:Nat) (news:List j3),v = .slice a ys.length cap/\news.length=ys.length*sz/\(∀ u∈news,u.oneCell'=true) /\
   (∀(k:Nat) y,ys.flatten[k]?=some y->VRel G w.heap y (news.getD k wg))/\(Builtin.firstCells sz ys.length v).run P w = .ok news.toArray w/\(Builtin.firstCells sz ys.length v).run P w.drew = .ok news.toArray w.drew:=by
  intro a cap rd T U;subst U;have l:=yD R.ok;have t:∀ k,k<ys.length*sz->∃ y,ys.flatten[k]?=some y:=fun k hk=>⟨ys.flatten[k]' zOm,by simp[l,hk]⟩
  refine⟨some a,cap,(qq (ys.length*sz)).map rd,rfl,zSp,?_,?_,?_,?_⟩
  .intro u hu
   obtain⟨k,hk,rfl⟩:=qi.1 hu;obtain⟨y,i⟩:=t k (zUs hk);exact(T k y i).2.one (R.one y (qU i))
  .grind
  .grind [Builtin.firstCells,run_loadCells]
  .simp only[Builtin.firstCells]
   exact run_loadCells w.drew a _ rd (fun j hj=>by simp_all)
 unfold qz at h;split at h
 .rename_i full p
  simp only[qr]at h;subst h;cases r with
  |nil=>exact⟨none,0,[],rfl,zSp,zSp,zSp,by simp[Builtin.firstCells],by simp[Builtin.firstCells]⟩
  |emp _ a cap hc=>simp_all
  |lst _ _ g a cap cs e fr rd hb hs hl hc hi a2 hr U =>
   exact fin a cap rd (fun k y i=>⟨by rw[Zr hb hs];exact hr k y i,U k y i⟩) rfl
 .rename_i b g off len
  split at h
  .rename_i cells hc
   split at h
   .rename_i a3
    simp only[qr]at h;cases r with
    |sl _ _ _ _ o a0 cap hb ht hl =>
    obtain⟨arr,e,h1,h2,h3,h4⟩:=s.arr b cells o a0 hc hb;have C:ys.length=len:=by rw[<-h];simp
    subst C;by_cases h0:ys.length=0
    .simp_all
    .have I:g=sz:=by
      have J:0<ys.length:=zOm;have hm:(cells.drop (off+0*g)).take g∈ys:=by
       rw[<-h];exact qi.2 ⟨0,zUs J,rfl⟩
      have:=(R _ hm).1;have a1:g<=ys.length*g:=Nat.le_mul_of_pos_left _ J;simp at this;omega
     subst I;have l:ys.flatten=(cells.drop off).take (ys.length*g):=by
      rw[<-h];have:=Wr g ys.length (cells.drop off) zSo;simp only[List.drop_drop]at this;simpa using this
     refine fin ⟨o,off,none⟩ cap (fun k=>arr.getD (off+k) wg) (fun k y i=>?_) rfl;rw[l,jW]at i;split at i
     .rw [vT]at i
      refine⟨?_,(h4 _ y i).2⟩;rw[Zr (a:=⟨o,off,none⟩) h1 rfl];have a4:off+k<cells.length:=(qg.1 i).1;have:off+k<arr.size:=zOm;simp[qV,this]
     grind
   grind
  grind
 grind
def jM(P:qf)(mu:Mu)(j:Array j1)(s x:AV)(K:AV->Mu->Prop):Prop:=
  ∃ t o e g r i,j=#[t,o]/\qE P t=some (e,g,r)/\(qE P o).isSome=true/\(∃ l,qx P e=some l/\l.cells.length=g/\l.cells.all AV.one=true)/\g≠0/\r<=16384/\qz mu x=some i/\zc g i /\
    ((∃ p,s = .lst true p/\zc g p/\p.length+i.length<=4294967296/\(i=[]->K s mu)/\(i≠[]->K (.sl mu.length g 0 (p.length+i.length)) (mu++[.arr (p++i).flatten]))) \/
     (∃ b len cells,s = .sl b g 0 len/\mu[b]?=some (.arr cells)/\len*g<=cells.length/\len+i.length<=4294967296 /\
        K (.sl mu.length g 0 (len+i.length)) (mu.set b .dead++[.arr (cells.take (len*g)++i.flatten)])))
theorem pm{t C ty e i d}(I:P.underlying t=some (.slice e))(o:P.underlying C=some (.slice d))(J:P.info? e=some i)
  {base} {g j n cap} {a} {news} {w'}
  (hf:(Builtin.firstCells i.size n (.slice a n cap)).run P w = .ok news.toArray w) (l:g+n<=j)
  (p:∀ b,base=some b->(storeCells (b.add (g*i.size)) news).run P w = .ok () w') (r:base=none->w'=w) :
  (Builtin.append_ #[t,C] ty #[.slice base g j,.slice a n cap]).run P w = .ok (.slice base (g+n) j) w':=by
 cases base with
 |none =>
  have:=r rfl;subst this;simp[Builtin.append_,run_underlying I,run_underlying o,sizeOf,typeInfo,J,Builtin.lenOf,l,hf]
 |some b =>
  have:=p b rfl;simp[Builtin.append_,run_underlying I,run_underlying o,sizeOf,typeInfo,J,Builtin.lenOf,l,hf,this]
theorem qfM{t I ty e i z d}(R:P.underlying t=some (.slice e))(r:P.underlying I=some (.slice d))(T:P.info? e=some i)(U:i.zero=some z)
  {base a} {g j n cap} {l news}
  (C:(Builtin.firstCells i.size g (.slice base g j)).run P w.drew = .ok l.toArray w.drew) (hf:(Builtin.firstCells i.size n (.slice a n cap)).run P w.drew = .ok news.toArray w.drew)
  (hg:j<g+n) (a0:((g+n:Nat):Int)<=9223372036854775807) (J:Builtin.nextslicecap (g+n) j*i.bytes<=281474976710656) :
  (Builtin.append_ #[t,I] ty #[.slice base g j,.slice a n cap]).run P w =
   .ok (.slice (some ⟨w.heap.size,0,none⟩) (g+n) (grownCap w (g+n) j e))
    (w.drew.alloc (.cells (l++(news++(yQ z.cells (grownCap w (g+n) j e-(g+n))).toList)).toArray e)):=by
 have hn:¬(g+n<=j):=zOm;have o:¬(9223372036854775807<((g:Int)+(n:Int))):=zOm;have p:¬(281474976710656<Builtin.nextslicecap (g+n) j*i.bytes):=zOm;simp[Builtin.append_,run_underlying R,run_underlying r,sizeOf,typeInfo,zeroValue,T,U,Builtin.lenOf,hn,o,p,Question.forced,hf,C,newRow,grownCap];congr 2;apply Array.ext';simp
theorem pn(w g i e):g<=grownCap w g i e:=by
 simp only[grownCap,Question.cut];omega
theorem pp{g cap bt}(h:cap<g)(i:g<=4294967296)(j:bt<=16384):Builtin.nextslicecap g cap*bt<=281474976710656:=by
 refine growslice_fits h ?_;have:g*bt<=4294967296*16384:=Nat.mul_le_mul i j;omega
theorem pq{G mu}(s:Sim G mu w.heap){J ty sv xv vs vx}(rs:VRel G w.heap sv vs)(rx:VRel G w.heap xv vx){K}
  (h:jM P mu J sv xv K):∃ z mu',K z mu'/\Good P G mu w (Builtin.append_ J ty #[vs,vx]) z mu':=by
 obtain⟨t,t',e,g,bt,ys,rfl,aw,bm,⟨zv,ax,ay,az⟩,bn,b0,b1,aa,h⟩:=h;obtain⟨i,hu,hi,rfl,rfl⟩:=vW aw;obtain⟨d,ah⟩:∃ d,P.underlying t'=some (.slice d):=by
  grind [qE,vW]
 obtain⟨i',z,b2,hz,rfl⟩:=VJ ax;obtain rfl:i=i':=Option.some.inj (hi.symm.trans b2);have al:z.cells.size=i.size:=by rw[(Jd (G:=G) (h:=w.heap) z (fun c hc=>by simpa using zb.1 az c hc)).1,ay]
 obtain⟨a,cap,o,rfl,ai,an,a6,hf,b3⟩:=VK (P:=P) s rx b1 aa;have b4:=yD aa.ok
 have grow:∀(base:Option Addr)(l R:Nat)(C:List j3)(oc:List AV)(b5:Mu)(G1:Gh),l*i.size=oc.length->C.length=oc.length->(∀(k:Nat) y,oc[k]?=some y->y.one=true/\VRel G w.heap y (C.getD k wg)) ->
   (Builtin.firstCells i.size l (.slice base l R)).run P w.drew = .ok C.toArray w.drew->R<l+ys.length->l+ys.length<=4294967296 ->
   Good P G mu w (Builtin.append_ #[t,t'] ty #[.slice base l R,.slice a ys.length cap]) (.sl mu.length i.size 0 (l+ys.length)) (mu++[.arr (oc++ys.flatten)]):=by
  intro base l R C oc b5 G1 b6 a3 T ab hg a7;have a2:=qfM (ty:=ty) hu ah hi hz ab b3 hg zOm (pp hg a7 b0);have b7:=pn w (l+ys.length) R e;generalize grownCap w (l+ys.length) R e=gc at a2 b7;have b8:(yQ z.cells (gc-(l+ys.length))).toList.length=(gc-(l+ys.length))*z.cells.size:=by simp[size_zeroCells]
  have sd:Sim G mu w.drew.heap:=s;have U:=sR sd (.cells (C++(o++(yQ z.cells (gc-(l+ys.length))).toList)).toArray e) (.arr (oc++ys.flatten)) ((C++(o++(yQ z.cells (gc-(l+ys.length))).toList)).length) (by
   intro _;refine⟨_,e,rfl,zSp,by simp only[qX];omega,fun j y hj=>?_⟩;rw[Wq,zC];by_cases ad:j<oc.length
   .rw [qG ad]at hj
    rw[zGa,<-zC];exact T j y hj
   .rw [zE zOm]at hj
    rw[zE zOm,a3];have:j-oc.length<ys.flatten.length:=(qg.1 hj).1;rw[zGa,<-zC];exact⟨aa.one y (qU hj),a6 _ y hj⟩)
  have ao:(C++(o++(yQ z.cells (gc-(l+ys.length))).toList)).length=gc*i.size:=by
   simp only[qX,b8,al,a3,<-b6,ai,<-Nat.add_mul];congr 1;omega
  rw[ao]at U;refine⟨_,_,_,a2,(Stp.drew s).trans s U,?_⟩;refine .sl _ i.size 0 _ w.heap.size (gc*i.size) gc ?_ zOm zOm;show (G.blk++[_])[mu.length]?=_;rw[<-s.len];simp
 rcases h with ⟨p,rfl,aj,a7,b9,bb⟩|⟨b,len,cells,rfl,hc,aq,a7,hk⟩
 .obtain ⟨a0,af,C,rfl,a3,_,T,ab,a5⟩:=VK (P:=P) s rs (ys:=p) rfl aj
  have ar:af=p.length:=by
   obtain⟨a1,c1,h1,_,h2,_⟩:=rs.lst_inv;cases h1;exact h2 rfl
  subst ar;by_cases hy:ys=[]
  .subst hy
   refine⟨_,_,b9 rfl,_,_,_,?_,Stp.refl s,rs⟩;have hn:o=[]:=wD (zUs ai);subst hn;exact pm (ty:=ty) hu ah hi hf zSp (fun b hb=>rfl) (fun _=>rfl)
  .have bo:0<ys.length:=List.length_pos_iff.2 hy
   have au:=yD aj.ok;have:=grow a0 p.length p.length C p.flatten mu G au.symm (by rw[a3,au]) (fun k y hk=>⟨aj.one y (qU hk),T k y hk⟩) a5 zOm a7;rw[<-List.flatten_append]at this;exact⟨_,_,bb hy,this⟩
 .refine ⟨_,_,hk,?_⟩
  have ak:qz mu (.sl b i.size 0 len)=some ((qq len).map fun j=>(cells.drop (j*i.size)).take i.size):=by
   simp only[qz,hc,Nat.zero_add];rw[if_pos aq]
  have bc:=rs;cases rs with
  |sl _ _ _ _ I ae a8 hb ht hl =>
  obtain⟨arr,e',h1,h2,h3,h4⟩:=s.arr b cells I ae hc hb;have av:zc i.size ((qq len).map fun j=>(cells.drop (j*i.size)).take i.size):=by
   intro r hr;obtain⟨j,hj,rfl⟩:=qi.1 hr;have be:j<len:=zUs hj;have:(j+1)*i.size<=len*i.size:=Nat.mul_le_mul_right _ be;rw[Nat.succ_mul]at this;refine⟨zSo,?_⟩;rw[zb];intro c bg;obtain⟨k,hk⟩:=List.mem_iff_getElem?.1 (List.mem_of_mem_drop (ui bg));exact(h4 k c hk).1
  have bh:=Wr i.size len cells aq;obtain⟨a0,af,C,hv,a3,_,T,ab,a5⟩:=VK (P:=P) s bc ak av;rw[bh]at T;simp only[zK,List.length_range]at hv a3 ab a5;by_cases a4:len+ys.length<=a8
  ·
   have bq:len*i.size+o.length<=arr.size:=by
    have h5:=Nat.mul_le_mul_right i.size a4;rw[Nat.add_mul]at h5;rw[ai,h2];omega
   have a2:=run_storeCells_at P I (len*i.size) e' o 0 arr w h1 zOm an;simp only[Nat.add_zero]at a2;have bi:=pm (ty:=ty) (w':=w.setRow I (arr.toList.take (len*i.size)++o++arr.toList.drop (len*i.size+o.length)).toArray) hu ah hi hf a4 (base:=some ⟨I,0,none⟩)
    (fun b' bj=>by
     cases bj;have:(⟨I,0,none⟩:Addr).add (len*i.size)=⟨I,len*i.size,none⟩:=by unfold Addr.add;split<;>simp_all
     rw[this];exact a2) zSp
   have st1:=sW (w':=w.setRow I (arr.toList.take (len*i.size)++o++arr.toList.drop (len*i.size+o.length)).toArray) s b (.arr cells) (.arr (cells.take (len*i.size)++ys.flatten)) I ae
    (.cells (arr.toList.take (len*i.size)++o++arr.toList.drop (len*i.size+o.length)).toArray e' (0,0)) hc zSp zSp hb zSp (setRow_heap w I arr _ e' _ h1) (fun k hk=>setRow_other w I k _ hk) rfl rfl rfl
    (by
     have ag:(cells.take (len*i.size)).length=len*i.size:=zSo;have bk:(arr.toList.take (len*i.size)).length=len*i.size:=zSo;refine⟨_,e',rfl,zSo,by simp only[qX,ag,b4];omega,fun j y hj=>?_⟩;rw[Wq,zC,zy];by_cases ad:j<len*i.size
     .rw [zGa,jW,if_pos ad]at hj
      rw[zGa,jW,if_pos ad,ZW,<-qV];exact h4 j y hj
     .rw [zE zOm,ag]at hj
      rw[zE zOm,bk];have:j-len*i.size<ys.flatten.length:=(qg.1 hj).1;rw[zGa,<-zC];exact⟨aa.one y (qU hj),a6 _ y hj⟩)
   have a9:b<mu.length:=(qg.1 hc).1;have st2:=Stp.move st1.sim b (.arr (cells.take (len*i.size)++ys.flatten)) I ae (zP1 a9) zSp hb;rw[List.set_set]at st2;refine⟨_,_,_,bi,st1.trans s st2,?_⟩;refine .sl _ i.size 0 _ I ae a8 ?_ ht a4;show (G.blk++[_])[mu.length]?=_;rw[<-s.len];simp
  .obtain ⟨v,w',G',k1,k2,k3⟩:=grow (some ⟨I,0,none⟩) len a8 C (cells.take (len*i.size)) mu G zSo (by rw[a3];simp;omega) (fun k y hk=>by
    refine⟨?_,T k y hk⟩;rw[jW]at hk;split at hk
    .exact (h4 k y hk).1
    .exact absurd hk zSp) a5 zOm a7
   have st2:=sX k2.sim b;have a9:b<mu.length:=(qg.1 hc).1;rw[List.set_append_left _ _ a9]at st2;exact⟨v,w',G',k1,k2.trans s st2,k3⟩
end
end Go.Ev
namespace Go.Ev
open Go Go.RowKit
section
variable {es:List (AV×AV)}{xs:List (List AV)}{cs:List AV}
structure St where
 tm:Nat->AV
 mu:Mu
def St.put(st:St)(d:Option Tmp)(v:AV)(m:Mu):St:=
 ⟨match d with|some d=>fun i=>if i=d then v else st.tm i|none=>st.tm,m⟩
def St.ev(st:St):uk->AV
 | .tmp t=>st.tm t
 | .const v=>ofV v
 | .global _ => .any
 | .func f => .fn (.func f) [] []
structure Pol where
 mt:List Nat:=[]
inductive AEnd where
 |ret (v:AV)
 |pan (v:AV)
def zM(G:Gh)(h:Array Obj)(args:List AV)(g:Array j3):Prop:=
 g.size=args.length/\∀(k:Nat) x,args[k]?=some x->VRel G h x (g.getD k wg)
def yZ(P:qf)(f:us):Prop:=∀(args:Array j3)(w:j2),(callFunc f args).run P w = .ok (.enter f args) w
def qy(P:qf)(f:us)(args:List AV)(mu:Mu)(R:AEnd->Mu->Prop):Prop:=yZ P f /\
 ∀(G:Gh)(w:j2)(o:Array j3),Sim G mu w.heap->zM G w.heap args o ->
  Calls P f o w fun e i=>∃ l j,Stp G mu w l j i /\
   ((∃ r v,R (.ret r) j/\e = .returned v/\VRel l i.heap r v)\/(∃ r v,R (.pan r) j/\e = .panicked [{ v,recovered:=false }]/\VRel l i.heap r v))
structure Z0 (B:Nat) (w w':j2):Prop extends Below B w w' where
 drawn:w.drawn<=w'.drawn
def qd(P:qf)(f:us)(args:List AV)(r:AV):Prop:=yZ P f /\
 ∀(i:Nat->Prop)(w:j2)(l:Array j3),Sim ⟨i,[]⟩ [] w.heap->zM ⟨i,[]⟩ w.heap args l ->
  Calls P f l w fun e j=>∃ g v,e = .returned v/\(∀ b,i b->g b)/\(∀ b,g b->b<j.heap.size/\(i b\/w.heap.size<=b))/\Z0 w.heap.size w j/\VRel ⟨g,[]⟩ j.heap r v
def qfN(P:qf)(f:us)(args:List AV)(r:AV):Prop:=yZ P f /\
 ∀(g:Nat->Prop)(w:j2)(j:Array j3),Sim ⟨g,[]⟩ [] w.heap->zM ⟨g,[]⟩ w.heap args j ->
  Calls P f j w fun e i=>∃ l v,e = .returned v/\(∀ b,l b->w.heap.size<=b/\b<i.heap.size)/\Z0 w.heap.size w i/\VRel ⟨l,[]⟩ i.heap r v
def HF(x:AV):Prop:=∀(G:Gh)(h:Array Obj)(v:j3),VRel G h x v->VRel ⟨G.imm,[]⟩ h x v
def FL(x:AV):Prop:=∀(G g:Gh)(h i:Array Obj)(v:j3),VRel G h x v->VRel g i x v
theorem HF.sc(v):HF (.sc v):=fun _ _ u r=>by cases r with|sc _ g=>exact .sc _ g
theorem HF.agg(h:∀ c,c∈cs->HF c):HF (.agg cs):=fun G i u r=>by
 cases r with
 |agg _ o j l=>exact .agg _ _ j (fun k x g=>h x (qU g) G i _ (l k x g))
theorem HF.tup(h:∀ c,c∈cs->HF c):HF (.tup cs):=fun G i u r=>by
 cases r with
 |tup _ o j l=>exact .tup _ _ j (fun k x g=>h x (qU g) G i _ (l k x g))
theorem HF.ip(h:∀ c,c∈cs->HF c):HF (.ip cs):=fun G i u r=>by
 cases r with
 |ip _ a arr e j rd l o p t C=>exact .ip _ a arr e j rd l o p t (fun k x g=>h x (qU g) G i _ (C k x g))
theorem HF.ifc{t x}(h:HF x):HF (.ifc t x):=fun G g u r=>by
 cases r with
 |ifc _ _ v i=>exact .ifc _ _ _ (h G g v i)
theorem HF.lst{full}(h:∀ r,r∈xs->∀ c,c∈r->HF c):HF (.lst full xs):=fun G l u r=>by
 cases r with
 |nil=>exact .nil _
 |emp _ a cap i=>exact .emp _ a cap i
 |lst _ _ g a cap o e p rd t C I i J P R T =>
  refine .lst _ _ g a cap o e p rd t C I i J P R (fun k x j=>?_);obtain⟨row,U,h2⟩:=kU.1 (qU j);exact h row U x h2 G l _ (T k x j)
theorem HF.fn{f first caps}(j:∀ c,c∈first->HF c)(l:∀ c,c∈caps->HF c):HF (.fn f first caps):=fun G i u r=>by
 cases r with
 |fn _ _ _ o p t C I J=>exact .fn _ _ _ o p t C (fun k x g=>j x (qU g) G i _ (I k x g)) (fun k x g=>l x (qU g) G i _ (J k x g))
theorem HF.im(h:∀ p,p∈es->HF p.1/\HF p.2):HF (.im es):=fun G j u r=>by
 cases r with
 |im _ i ce clock l o t C I J=>exact .im _ i ce clock l o t (fun k x g=>(h x (qU g)).1 G j _ (C k x g)) (fun k x g=>(h x (qU g)).2 G j _ (I k x g)) J
theorem HF.ims(h:∀ p,p∈es->HF p.1/\HF p.2):HF (.ims es):=fun G C u r=>by
 cases r with
 |ims _ i I J _ g P r =>
  refine .ims _ i I J _ g P (HF.im (fun p l=>?_) G C _ r);obtain⟨j,o⟩:=List.mem_iff_getElem?.1 l;have t:j<es.length:=by rw[<-g.1];exact(qg.1 o).1
  rw[g.back t]at o;exact h p (qU o)
theorem FL.sc(v):FL (.sc v):=fun _ _ _ _ u r=>by cases r with|sc _ g=>exact .sc _ g
theorem FL.agg(h:∀ c,c∈cs->FL c):FL (.agg cs):=fun G j l g u r=>by
 cases r with
 |agg _ t o p=>exact .agg _ _ o (fun k x i=>h x (qU i) G j l g _ (p k x i))
theorem FL.tup(h:∀ c,c∈cs->FL c):FL (.tup cs):=fun G j l g u r=>by
 cases r with
 |tup _ t o p=>exact .tup _ _ o (fun k x i=>h x (qU i) G j l g _ (p k x i))
theorem FL.ifc{t x}(h:FL x):FL (.ifc t x):=fun G i j g u r=>by
 cases r with
 |ifc _ _ v l=>exact .ifc _ _ _ (h G i j g v l)
inductive Rd (mu:Mu):AV->AV->Prop
 |hf (x:AV) (h:HF x):Rd mu x x
 |sl (b sz off len:Nat) (cells:List AV) (ys:List (List AV)) (hc:mu[b]?=some (.arr cells)) (hl:off+len*sz<=cells.length) (hn:ys.length=len) (hz:yE sz ys)
   (h:∀(k:Nat) x y,cells[off+k]?=some x->ys.flatten[k]?=some y->Rd mu x y):Rd mu (.sl b sz off len) (.lst false ys)
 |ptr (b off:Nat) (cells ys:List AV) (hc:mu[b]?=some (.arr cells)) (hn:off+ys.length<=cells.length) (h:∀(k:Nat) x y,cells[off+k]?=some x->ys[k]?=some y->Rd mu x y):Rd mu (.ptr b off) (.ip ys)
 |mp (b:Nat) (es fs:List (AV×AV)) (hc:mu[b]?=some (.mp es)) (hn:fs.length=es.length) (hk:∀(k:Nat) x y,es[k]?=some x->fs[k]?=some y->Rd mu x.1 y.1) (hv:∀(k:Nat) x y,es[k]?=some x->fs[k]?=some y->Rd mu x.2 y.2):Rd mu (.mp b) (.im fs)
 |md (b:Nat) (es fs:List (AV×AV)) (hc:mu[b]?=some (.md es)) (hn:fs.length=es.length) (hk:∀(k:Nat) x y,es[k]?=some x->fs[k]?=some y->Rd mu x.1 y.1) (hv:∀(k:Nat) x y,es[k]?=some x->fs[k]?=some y->Rd mu x.2 y.2):Rd mu (.mp b) (.im fs)
 |agg (xs ys:List AV) (hn:ys.length=xs.length) (h:∀(k:Nat) x y,xs[k]?=some x->ys[k]?=some y->Rd mu x y):Rd mu (.agg xs) (.agg ys)
 |tup (xs ys:List AV) (hn:ys.length=xs.length) (h:∀(k:Nat) x y,xs[k]?=some x->ys[k]?=some y->Rd mu x y):Rd mu (.tup xs) (.tup ys)
 |lst (full:Bool) (xs ys:List (List AV)) (hn:ys.length=xs.length) (hz:∀(k:Nat) x y,xs[k]?=some x->ys[k]?=some y->x.length=y.length) (h:∀(k:Nat) x y,xs.flatten[k]?=some x->ys.flatten[k]?=some y->Rd mu x y):Rd mu (.lst full xs) (.lst full ys)
 |fn (f:Fn) (first first' caps caps':List AV) (hn:first'.length=first.length) (hm:caps'.length=caps.length) (h:∀(k:Nat) x y,first[k]?=some x->first'[k]?=some y->Rd mu x y) (h':∀(k:Nat) x y,caps[k]?=some x->caps'[k]?=some y->Rd mu x y) :
   Rd mu (.fn f first caps) (.fn f first' caps')
 |ifc (t:j1) (x y:AV) (h:Rd mu x y):Rd mu (.ifc t x) (.ifc t y)
 |wk (x:AV) (full:Bool) (ys:List (List AV)) (h:Rd mu x (.lst full ys)):Rd mu x (.lst false ys)
 |ims (x:AV) (es es':List (AV×AV)) (σ τ:Nat->Nat) (hp:PIx σ τ es es') (hd:(es.map Prod.fst).Nodup) (h:Rd mu x (.im es')):Rd mu x (.ims es)
theorem Rd.zsc{mu}(v):Rd mu (.sc v) (.sc v):=.hf _ (HF.sc _)
theorem pr{ys:List (List AV)}(g:ys.length=xs.length)(i:∀(k:Nat) x y,xs[k]?=some x->ys[k]?=some y->x.length=y.length):xs.flatten.length=ys.flatten.length:=by
 induction xs generalizing ys with
 |nil=>grind
 |cons x xs j =>
  cases ys with
  |nil=>simp at g
  |cons y ys =>
   have p:=i 0 x y rfl rfl;have:=j (ys:=ys) (zUs g) (fun k a b l o=>i (k+1) a b (zUs l) (zUs o))
   grind
theorem Rd.sound{G mu h}(s:Sim G mu h){x y}(r:Rd mu x y):∀{v},VRel G h x v->VRel ⟨fun b=>G.imm b\/Live G mu b,[]⟩ h y v:=by
 have a4:Gh.le ⟨G.imm,[]⟩ ⟨fun b=>G.imm b\/Live G mu b,[]⟩:=⟨fun b h => .inl h,fun _ _ h=>h⟩;induction r with
 |hf x R=>intro v r;exact(R G h v r).le a4
 |sl b g off len cells i J hl U hz j ih =>
  intro v r;subst U;cases r with
  |sl _ _ _ _ l o cap P ht a3 =>
  obtain⟨arr,e,h1,h2,h3,h4⟩:=s.arr b cells l o J P;by_cases h0:i=[]
  .subst h0;exact .emp false _ cap zSp
  .have a5:=yD hz
   have C:∀(k:Nat) y,i.flatten[k]?=some y->∃ x,cells[off+k]?=some x:=by
    grind
   refine .lst false i g ⟨l,off,none⟩ cap arr e (0,0) (fun k=>arr.getD (off+k) wg) h1 rfl a3 zSp (.inr ⟨b,_,o,J,zSp,P⟩) hz ?_ ?_
   .intro k y T
    obtain⟨x,R⟩:=C k y T;have:off+k<arr.size:=by grind
    simp[qV,this]
   grind
 |ptr b off cells i J U j ih =>
  intro v r;cases r with
  |ptr _ _ l o P =>
  obtain⟨arr,e,h1,h2,h3,h4⟩:=s.arr b cells l o J P;have C:∀(k:Nat) y,i[k]?=some y->∃ x,cells[off+k]?=some x:=by
   grind
  refine .ip i ⟨l,off,none⟩ arr e (0,0) (fun k=>arr.getD (off+k) wg) h1 rfl (.inr ⟨b,_,o,J,zSp,P⟩) ?_ ?_
  .intro k y T
   obtain⟨x,R⟩:=C k y T;have:off+k<arr.size:=by grind
   simp[qV,this]
  grind
 |mp b I fs J U hk hv a6 a7 =>
  intro v r;cases r with
  |mp _ l o P =>
  obtain⟨ce,cl,h1,h2,h3,h4,h5,h6⟩:=s.mp b I l o J P;have C:∀(k:Nat) y,fs[k]?=some y->∃ x,I[k]?=some x:=by
   grind
  refine .im fs l ce cl h1 (.inr ⟨b,_,o,J,zSp,P⟩) zOm ?_ ?_ (.of h5 h6)
  .grind
  grind
 |md b I fs J U hk hv a6 a7 =>
  intro v r;cases r with
  |mp _ l o P =>
  obtain⟨ce,cl,h1,h2,h3,h4,h5⟩:=s.md b I l o J P;have C:∀(k:Nat) y,fs[k]?=some y->∃ x,I[k]?=some x:=by
   grind
  refine .im fs l ce cl h1 (.inr ⟨b,_,o,J,zSp,P⟩) zOm ?_ ?_ h5
  .grind
  grind
 |agg p i U j ih =>
  intro v r;cases r with
  |agg _ vs hm hv =>
  refine .agg _ _ zOm (fun k y T=>?_);have hk:k<i.length:=(qg.1 T).1;have R:p[k]?=some (p[k]' zOm):=by grind
  grind
 |tup p i U j ih =>
  intro v r;cases r with
  |tup _ vs hm hv =>
  refine .tup _ _ zOm (fun k y T=>?_);have hk:k<i.length:=(qg.1 T).1;have R:p[k]?=some (p[k]' zOm):=by grind
  grind
 |lst full p i U hz j ih =>
  intro v r;have a5:=pr U hz;cases r with
  |nil=>cases i with
   |nil=>exact .nil _
   |cons=>simp at U
  |emp _ a cap J=>cases i with
   |nil=>exact .emp _ a cap J
   |cons=>simp at U
  |lst _ _ g a cap cs e fr rd P hs hl J hi a8 hr hv =>
   rw[<-U];have C:∀(k:Nat) y,i.flatten[k]?=some y->∃ x,p.flatten[k]?=some x:=by
    grind
   refine .lst full i g a cap cs e fr rd P hs zOm (by rw[U];exact J) (.inl hi) ?_ ?_ ?_
   .intro r a9
    obtain⟨k,hk⟩:=List.mem_iff_getElem?.1 a9;have ae:k<i.length:=(qg.1 hk).1;have R:p[k]?=some (p[k]' zOm):=by simp[show k<p.length by omega]
    rw[<-hz k _ r R hk];exact a8 _ (qU R)
   .intro k y T
    obtain⟨x,R⟩:=C k y T;exact hr k x R
   grind
 |fn f first a1 a0 a2 U hm j aa ih ab =>
  intro v r;cases r with
  |fn _ _ _ vs ws af ag hv hw =>
  refine .fn f _ _ vs ws zOm zOm (fun k y T=>?_) (fun k y T=>?_)
  .have hk:k<a1.length:=(qg.1 T).1
   have R:first[k]?=some (first[k]' zOm):=by simp[show k<first.length by omega]
   grind
  .have hk:k<a2.length:=(qg.1 T).1
   have R:a0[k]?=some (a0[k]' zOm):=by simp[show k<a0.length by omega]
   exact ab k _ y R T (hw k _ R)
 |ifc t x y j ih =>
  intro v r;cases r with
  |ifc _ _ v hv=>exact .ifc t y v (ih hv)
 |wk x full i j ih =>
  intro v r;have:=ih r;cases this with
  |nil=>exact .nil _
  |emp _ a cap J=>exact .emp _ a cap zSp
  |lst _ _ g a cap cs e fr rd P hs hl J hi hz hr hv=>exact .lst _ _ g a cap cs e fr rd P hs hl zSp hi hz hr hv
 |ims x I ad σ τ hp hd j ih =>
  intro v r;exact .ims I ad σ τ v hp hd (ih r)
end
end Go.Ev
namespace Go.Ev
open Go Go.RowKit
section
variable {s x:AV}{K l:AV->Mu->Prop}{h:Array Obj}{i j:Array j1}{G:Gh}{mu:Mu}{P:qf}{w:j2}
def cutM(keep:Nat->Bool):Mu->Nat->Mu
 | [],_=>[]
 |c :: l,i=>(if keep i=true then c else .dead) :: cutM keep l (i+1)
theorem js(keep):∀ mu i k,(cutM keep mu k)[i]?=(mu[i]?).map fun c=>if keep (k+i)=true then c else .dead
 | [],i,k=>by simp[cutM]
 |c :: l,0,k=>by simp[cutM]
 |c :: l,i+1,k=>by
  rw[cutM,vw,vw,js keep l i (k+1)];have:k+1+i=k+(i+1):=zOm;rw[this]
theorem jz(keep):∀ mu k,(cutM keep mu k).length=mu.length
 | [],_=>rfl
 |c :: l,k=>by simp[cutM,jz keep l (k+1)]
theorem jZ{keep i c}(h:(cutM keep mu 0)[i]?=some c)(j:c ≠ .dead):mu[i]?=some c/\keep i=true:=by
 rw[js]at h;cases g:mu[i]? with
 |none=>grind
 |some l =>
  rw[g]at h;simp only[zg,Nat.zero_add,qr]at h;by_cases o:keep i=true
  .grind
  grind
theorem Live.cut{keep b}(h:Live G (cutM keep mu 0) b):Live G mu b:=by
 obtain⟨i,c,g,l,j,o⟩:=h;exact⟨i,c,g,(jZ l j).1,j,o⟩
theorem Sim.cut(s:Sim G mu h)(keep):Sim G (cutM keep mu 0) h:=by
 refine⟨by rw[jz];exact s.len,s.imm,fun i c g l r o p=>s.obj i c g l (jZ r o).1 o p,fun i c g l r o p=>s.live i c g l (jZ r o).1 o p,?_,s.tab⟩;intro i j ci C b I J r o p t P R;exact s.inj i j ci C b I J (jZ r p).1 (jZ o t).1 p t P R
def frz(G:Gh)(give:Nat->Bool)(mu:Mu):Gh:=⟨fun b=>G.imm b\/Live G (cutM give mu 0) b,G.blk⟩
theorem VL(s:Sim G mu h)(give):Sim (frz G give mu) (cutM (fun i=>!give i) mu 0) h:=by
 have J:G.le (frz G give mu):=⟨fun b C => .inl C,fun _ _ h=>h⟩;refine⟨by rw[jz];exact s.len,?_,?_,?_,?_,s.tab.mono (fun b h => .inl h) (fun _ _=>rfl)⟩
 .rintro b (C|⟨i,c,g,p,l,r⟩)
  .exact s.imm b C
  .obtain ⟨o,P,_⟩:=s.obj i c b g (jZ p l).1 l r
   exact(yv.1 P).1
 .intro i c t g p l r
  obtain⟨o,P,U⟩:=s.obj i c t g (jZ p l).1 l r;exact⟨o,P,U.mono J (Ext.refl _ _)⟩
 .rintro i c t g p l r (C|⟨j,c',I,g1,R,g3⟩)
  .exact s.live i c t g (jZ p l).1 l r C
  .have e:=s.inj i j c c' t g I (jZ p l).1 (jZ g1 R).1 l R r g3
   subst e;have a1:=(jZ p l).2;have a2:=(jZ g1 R).2
   grind
 .intro i j ci cj b ti tj p l r T h5 h6
  exact s.inj i j ci cj b ti tj (jZ p r).1 (jZ l T).1 r T h5 h6
theorem Qk(s:Sim G mu w.heap)(give):Stp G mu w (frz G give mu) (cutM (fun i=>!give i) mu 0) w:=by
 refine⟨⟨fun b g => .inl g,fun _ _ h=>h⟩,VL s give,fun _ _ _=>rfl,qo _,?_,?_,rfl,rfl,rfl,qo _⟩
 .rintro b ⟨i,c,j,o,l,p⟩
  exact .inl ⟨i,c,j,(jZ o l).1,l,p⟩
 .rintro b (g|g)
  .exact .inl g
  .exact .inr (.inl g.cut)
theorem Ws(s:Sim G mu h)(give){x y v}(r:Rd (cutM give mu 0) x y)(g:VRel G h x v):VRel (frz G give mu) h y v:=
 VRel.mono (G:=⟨fun b=>G.imm b\/Live G (cutM give mu 0) b,[]⟩) (G':=frz G give mu) ⟨fun _ j=>j,fun i x l=>by simp at l⟩ (Ext.refl _ _) (r.sound (s.cut give) g)
theorem jM.det(h:jM P mu j s x K):∃ v m,jM P mu j s x (fun a b=>a=v/\b=m)/\K v m:=by
 obtain⟨t,I,e,g,J,i,R,T,U,a4,a5,a6,a7,a8,h⟩:=h;rcases h with ⟨p,l,o,r,b4,b5⟩|⟨b,len,cells,l,o,r,b4,b5⟩
 .by_cases C:i=[]
  .exact ⟨_,_,⟨t,I,e,g,J,i,R,T,U,a4,a5,a6,a7,a8,.inl ⟨p,l,o,r,fun _=>⟨rfl,rfl⟩,fun h=>absurd C h⟩⟩,b4 C⟩
  .exact ⟨_,_,⟨t,I,e,g,J,i,R,T,U,a4,a5,a6,a7,a8,.inl ⟨p,l,o,r,fun h=>absurd h C,fun _=>⟨rfl,rfl⟩⟩⟩,b5 C⟩
 .exact ⟨_,_,⟨t,I,e,g,J,i,R,T,U,a4,a5,a6,a7,a8,.inr ⟨b,len,cells,l,o,r,b4,rfl,rfl⟩⟩,b5⟩
theorem jM.mono(h:jM P mu j s x K)(o:∀ v m,K v m->l v m):jM P mu j s x l:=by
 obtain⟨t,T,e,g,U,i,a1,a2,a3,a4,a5,a6,a7,a8,h⟩:=h;refine⟨t,T,e,g,U,i,a1,a2,a3,a4,a5,a6,a7,a8,?_⟩;rcases h with ⟨p,r,C,I,J,R⟩|⟨b,len,cells,r,C,I,J,R⟩
 .exact .inl ⟨p,r,C,I,fun h=>o _ _ (J h),fun h=>o _ _ (R h)⟩
 grind
def pt(P:qf)(mu:Mu)(l:Array j1)(s x:AV)(K:AV->Mu->Prop):Prop:=
 ∃ t o e g r j n p,l=#[t,o]/\qE P t=some (e,g,r)/\P.underlying o=some (.int .i64)/\qx P e=some j/\j.cells.length=g/\j.cells.all AV.one=true/\g≠0/\r<=16384/\x = .sc (.int .i64 (Int.ofNat n))/\0<n/\s = .lst true p/\zc g p/\p.length+n<=4294967296 /\
  K (.sl mu.length g 0 (p.length+n)) (mu++[.arr (p.flatten++(qq (n*g)).map fun i=>j.cells.getD (i % g) .any)])
theorem qfO(s:Sim G mu w.heap){J ty sv xv vs vx}(rs:VRel G w.heap sv vs)(rx:VRel G w.heap xv vx){K}
  (h:pt P mu J sv xv K):∃ z mu',K z mu'/\Good P G mu w (Builtin.append_ J ty #[vs,vx]) z mu':=by
 obtain⟨t,tn,e,g,bt,zv,n,p,rfl,ab,ad,ae,R,af,an,T,rfl,hn,rfl,I,ag,hk⟩:=h;obtain⟨i,hu,hi,rfl,rfl⟩:=vW ab;obtain⟨i',z,ah,hz,rfl⟩:=VJ ae;obtain rfl:i=i':=Option.some.inj (hi.symm.trans ah);obtain⟨l,ai⟩:=Jd (G:=G) (h:=w.heap) z (fun c hc=>by grind);rw[R]at l;obtain⟨a0,a2,o,rfl,a3,_,a4,aq,a5⟩:=VK (P:=P) s rs (ys:=p) rfl I;have a6:a2=p.length:=by
  obtain⟨a1,c1,h1,_,h2,_⟩:=rs.lst_inv;cases h1;exact h2 rfl
 subst a6;cases rx with
 |sc _ _ =>
 have a7:n*i.bytes<=281474976710656:=zt (Nat.mul_le_mul (show n<=4294967296 by omega) T) zOm;have C:=Lib.run_append_grow_zeros w t tn ty e i z .i64 .i64 hu ad hi hz a0 p.length p.length o a5 n hn zOm zOm zOm a7 (pp zOm ag T);have aj:=pn w (p.length+n) p.length e;generalize grownCap w (p.length+n) p.length e=gc at C aj;have ak:=yD I.ok;have ar:(yQ z.cells n).size=n*i.size:=by simp[yQ,l]
 have au:(yQ z.cells (gc-(p.length+n))).size=(gc-(p.length+n))*i.size:=by simp[yQ,l]
 have a8:∀ j,j<n*i.size->(yQ z.cells n).getD j wg=z.cells.getD (j % i.size) wg:=by
  intro j r;have a9:0<i.size:=zOm;simp_all[Nat.mod_lt,yQ,qV,getElem!_pos,Zm]
 have sd:Sim G mu w.drew.heap:=s;have U:=sR sd (.cells (o.toArray++yQ z.cells n++yQ z.cells (gc-(p.length+n))) e) (.arr (p.flatten++(qq (n*i.size)).map fun j=>(ofV z).cells.getD (j % i.size) .any)) (gc*i.size) (by
  intro _;have ao:p.length*i.size+n*i.size+(gc-(p.length+n))*i.size=gc*i.size:=by
   rw[<-Nat.add_mul,<-Nat.add_mul];congr 1;omega
  refine⟨_,e,rfl,by grind,by grind,fun j y r=>?_⟩;by_cases al:j<p.flatten.length
  .rw [qG al]at r
   refine⟨I.one y (qU r),?_⟩;have:=a4 j y r;rw[qV,Array.append_assoc,Array.getElem?_append_left zSo];rw[zC]at this;show VRel G w.heap y _
   grind
  .rw [zE zOm,zf]at r
   have aa:j-p.flatten.length<n*i.size:=by
    cases hq:(qq (n*i.size))[j-p.flatten.length]? with
    |none=>rw[hq]at r;cases r
    |some q=>have:=(qg.1 hq).1;simpa using this
   rw[List.getElem?_range aa]at r;have a9:0<i.size:=zOm;have hm:(j-p.flatten.length) % i.size<(ofV z).cells.length:=by rw[R];exact Nat.mod_lt _ a9
   simp only[zg,qr]at r;rw[zC,qw hm]at r;subst r;refine⟨by simpa using zb.1 af _ (List.getElem_mem hm),?_⟩;have e1:(o.toArray++yQ z.cells n++yQ z.cells (gc-(p.length+n))).getD j wg=(yQ z.cells n).getD (j-p.flatten.length) wg:=by
    rw[qV,qV,Array.append_assoc,Array.getElem?_append_right zSo,Array.getElem?_append_left (by simp[a3];omega)];simp[a3,ak]
   rw[e1,a8 _ aa];exact ai _ _ (qw hm))
 refine⟨_,_,hk,_,_,_,C,(Stp.drew s).trans s U,?_⟩;refine .sl _ i.size 0 _ w.heap.size (gc*i.size) gc ?_ zOm zOm;show (G.blk++[_])[mu.length]?=_;rw[<-s.len];simp
def qu(P:qf)(mu:Mu)(g:Array j1)(s x:AV)(K:AV->Mu->Prop):Prop:=
 jM P mu g s x K\/((∃ give j,Rd (cutM give mu 0) x j/\jM P (cutM (fun i=>!give i) mu 0) g s j K)\/pt P mu g s x K)
theorem qu.det(h:qu P mu i s x K):∃ v m,qu P mu i s x (fun a b=>a=v/\b=m)/\K v m:=by
 rcases h with h|⟨give,j,l,o⟩|⟨t,r,e,C,I,J,n,p,R,T,U,a4,a5,a6,a7,a8,a9,b1,b2,b3,b4,k⟩
 .obtain ⟨v,m,g,k⟩:=h.det;exact⟨v,m,.inl g,k⟩
 .obtain ⟨v,m,g,k⟩:=o.det;exact⟨v,m,.inr (.inl ⟨give,j,l,g⟩),k⟩
 .exact ⟨_,_,.inr (.inr ⟨t,r,e,C,I,J,n,p,R,T,U,a4,a5,a6,a7,a8,a9,b1,b2,b3,b4,rfl,rfl⟩),k⟩
theorem qu.mono(h:qu P mu i s x K)(j:∀ v m,K v m->l v m):qu P mu i s x l:=by
 rcases h with h|⟨give,o,r,C⟩|⟨t,I,e,g,J,R,n,p,T,U,a3,a4,a5,a6,a7,a8,a9,b1,b2,b3,b4,k⟩
 .exact .inl (h.mono j)
 .exact .inr (.inl ⟨give,o,r,C.mono j⟩)
 .exact .inr (.inr ⟨t,I,e,g,J,R,n,p,T,U,a3,a4,a5,a6,a7,a8,a9,b1,b2,b3,b4,j _ _ k⟩)
theorem qfP(s:Sim G mu w.heap){g ty l o p r}(i:VRel G w.heap l p)(j:VRel G w.heap o r){K}
  (h:qu P mu g l o K):∃ z mu',K z mu'/\Good P G mu w (Builtin.append_ g ty #[p,r]) z mu':=by
 rcases h with h|⟨give,x',t,C⟩|h
 .exact pq s i j h
 .obtain ⟨z,mu',I,v,J,R,g1,T,U⟩:=pq (ty:=ty) (VL s give) (i.mono (Qk s give).le (Ext.refl _ _)) (Ws s give t j) C
  exact⟨z,mu',I,v,J,R,g1,(Qk s give).trans s T,U⟩
 .exact qfO s i j h
inductive Gv (mu:Mu) (give:Nat->Bool):AV->AV->Prop where
 |same (x:AV):Gv mu give x x
 |rd (x y:AV) (h:Rd (cutM give mu 0) x y):Gv mu give x y
 |fn (f:Fn) (first first' caps caps':List AV) (hn:first'.length=first.length) (hm:caps'.length=caps.length) (h:∀(k:Nat) x y,first[k]?=some x->first'[k]?=some y->Gv mu give x y)
   (h':∀(k:Nat) x y,caps[k]?=some x->caps'[k]?=some y->Gv mu give x y):Gv mu give (.fn f first caps) (.fn f first' caps')
theorem Gv.sound(s:Sim G mu h){give x y}(r:Gv mu give x y):∀{v},VRel G h x v->VRel (frz G give mu) h y v:=by
 have o:G.le (frz G give mu):=⟨fun b t => .inl t,fun _ _ h=>h⟩;induction r with
 |same x=>intro v l;exact l.mono o (Ext.refl _ _)
 |rd x y r=>grind [Ws]
 |fn f first g i j hn hm hr C ih I =>
  intro v l;cases l with
  |fn _ _ _ J P R T l hw =>
  refine .fn f _ _ J P zOm zOm (fun k y p=>?_) (fun k y p=>?_)
  .have U:k<g.length:=(qg.1 p).1
   have hx:first[k]?=some (first[k]' zOm):=qw _
   grind
  .have U:k<j.length:=(qg.1 p).1
   have hx:i[k]?=some (i[k]' zOm):=qw _
   grind
end
end Go.Ev
namespace Go.Ev
open Go Go.RowKit
section
variable {x:AV}{h:Array Obj}{G:Gh}{P:qf}{u:j3}{w:j2}
theorem Jh{e q cs i v}(g:P.underlying e=some (.int q))(h:cs[i]?=some v):(part e cs i).run P w = .ok v w:=by
 simp_all[isAgg,run_underlying,part]
theorem Ji{xs ys b}(h:aEqs (x :: xs) ys=some b):∃ k a b' g,x = .sc (.int k a)/\ys = .sc (.int k b') :: g/\(((a == b')=true/\aEqs xs g=some b)\/((a == b')=false/\b=false)):=by
 cases x with
 |sc v =>
  cases v with
  |int k a =>
   cases ys with
   |nil=>simp[aEqs]at h
   |cons y ys =>
    cases y with
    |sc u =>
     cases u with
     |int j b' =>
      by_cases l:k=j
      .subst l
       cases i:(a == b') with
       |true=>exact⟨k,a,b',ys,rfl,rfl,.inl ⟨i,by grind [aEqs]⟩⟩
       |false=>exact⟨k,a,b',ys,rfl,rfl,.inr ⟨i,by grind [aEqs]⟩⟩
      grind [aEqs]
     |_=>simp[aEqs]at h
    |_=>simp[aEqs]at h
  |_=>simp[aEqs]at h
 |_=>simp[aEqs]at h
theorem qfQ(d){e q}(p:P.underlying e=some (.int q))(C I):∀ xs ys i b,aEqs xs ys=some b ->
  (∀(k) x,xs[k]?=some x->∃ v,C[i+k]?=some v/\VRel G w.heap x v)->(∀(k) x,ys[k]?=some x->∃ v,I[i+k]?=some v/\VRel G w.heap x v) ->
  (forIn (m:=Sem) (List.range' i xs.length) ((none:Option Bool),()) fun i T=>do
   let a <-part e C i
   let b <-part e I i
   let c <-Op.equalIn (d+1) e a b
   if (!c)=true then pure (ForInStep.done (some false,())) else pure (ForInStep.yield (none,()))).run P w = .ok (if b then (none,()) else (some false,())) w:=by
 intro xs;induction xs with
 |nil =>
  intro ys i b h _ _;cases ys with
  |nil=>simp_all[aEqs,qr]
  |cons=>simp[aEqs]at h
 |cons x xs U =>
  intro ys i b h J R;have h':=Ji h;clear h;obtain⟨k,a,b',r,rfl,rfl,h⟩:=h';obtain⟨v,g,rv⟩:=J 0 _ rfl;obtain⟨u,l,ru⟩:=R 0 _ rfl;cases rv;cases ru;rw[Nat.add_zero]at g l;simp only[zz,List.range'_succ,List.forIn_cons,qM,Jh p g,Jh p l,qP,run_equalIn_int w d e k q a b' p];rcases h with ⟨o,h⟩|⟨o,rfl⟩
  .rw [o]
   simp only[Bool.not_true,Bool.false_eq_true,if_false,zD,qP];refine U r (i+1) b h (fun j x t=>?_) (fun j x t=>?_)
   .have:=J (j+1) x (zUs t)
    grind
   .have:=R (j+1) x (zUs t)
    grind
  simp_all
theorem Z1{xs:List AV}{g:Array j3}(i:g.size=xs.length)(j:∀(k) x,xs[k]?=some x->VRel G h x (g.getD k wg)) :
  ∀(k) x,xs[k]?=some x->∃ v,g[0+k]?=some v/\VRel G h x v:=by
 simp_all[qg,wg,qV]
theorem pu(d){t e n q}(l:P.underlying t=some (.array n e))(o:P.underlying e=some (.int q))(p:szOf P e=some 1)
  {xs ys} {g i} (r:xs.length=n) (C:VRel G w.heap (.agg xs) (.agg g)) (I:VRel G w.heap (.agg ys) (.agg i)) {b} (h:aEqs xs ys=some b) :
  (Op.equalIn (d+2) t (.agg g) (.agg i)).run P w = .ok b w:=by
 cases C with
 |agg _ _ J R =>
 cases I with
 |agg _ _ T U =>
 unfold Op.equalIn;simp only[qM,run_underlying l,qP,jr p,Nat.mul_one,Std.Legacy.Range.forIn_eq_forIn_range'];have j:(Std.Legacy.Range.size [:n])=xs.length:=by simp[Std.Legacy.Range.size,r]
 rw[j];have:=qfQ (G:=G) d o g i xs ys 0 b h (Z1 J R) (Z1 T U);rw[this];cases b<;>simp
theorem qfR(d I J):∀ fs i xs ys b,ZX P fs i=true->xs.length=fs.length->aEqs xs ys=some b ->
  (∀(k) x,xs[k]?=some x->∃ v,I[i+k]?=some v/\VRel G w.heap x v)->(∀(k) x,ys[k]?=some x->∃ v,J[i+k]?=some v/\VRel G w.heap x v) ->
  (Op.eqFields (d+1) I J fs).run P w = .ok b w:=by
 intro fs;induction fs with
 |nil =>
  intro i xs ys b _ p h _ _;have:xs=[]:=wD (zUs p);subst this;cases ys with
  |nil=>simp only[aEqs,qr]at h;subst h;rfl
  |cons=>simp[aEqs]at h
 |cons f fs U =>
  intro i xs ys b hf p h R T;cases xs with
  |nil=>simp at p
  |cons x xs =>
   simp only[ZX,qD,beq_iff_eq,bne_iff_ne,ne_eq]at hf;obtain⟨⟨⟨h1,h2⟩,h3⟩,h4⟩:=hf;have h':=Ji h;clear h;obtain⟨k,a,b',r,rfl,rfl,h⟩:=h';obtain⟨v,g,rv⟩:=R 0 _ rfl;obtain⟨u,l,ru⟩:=T 0 _ rfl;cases rv;cases ru;rw[Nat.add_zero]at g l;obtain⟨q,t⟩:∃ q,P.underlying f.type=some (.int q):=by
    grind [kY,absurd]
   rw[Op.eqFields,if_pos h2];simp only[h1,qM,Jh t g,Jh t l,qP,run_equalIn_int w d f.type k q a b' t];rcases h with ⟨o,h⟩|⟨o,rfl⟩
   .rw [o]
    simp only[Bool.not_true,Bool.false_eq_true,if_false];refine U (i+1) xs r b h4 (zUs p) h (fun j x C=>?_) (fun j x C=>?_)
    .have:=R (j+1) x (zUs C)
     grind
    .have:=T (j+1) x (zUs C)
     grind
   simp_all
theorem qfS(d){t fs}(j:P.underlying t=some (.struct fs))(hf:ZX P fs.toList 0=true)(o:P.stoodInHeld t=false)
  {xs ys} {g i} (p:xs.length=fs.size) (r:VRel G w.heap (.agg xs) (.agg g)) (C:VRel G w.heap (.agg ys) (.agg i)) {b} (h:aEqs xs ys=some b) :
  (Op.equalIn (d+2) t (.agg g) (.agg i)).run P w = .ok b w:=by
 have l:P.fieldsOf t=fs:=by simp[Program.fieldsOf,j]
 rw[run_equalIn_agg w (d+1) t g i (by rw[l];exact j) o,l];cases r with
 |agg _ _ I J =>
 cases C with
 |agg _ _ R T =>
 exact qfR d g i fs.toList 0 xs ys b hf (zUs p) h (Z1 I J) (Z1 R T)
inductive KK where
 |now
 |arr (n:Nat)
def keyKind(P:qf)(g:j1):Option KK:=
 match P.underlying g with
 |some (.int _)|some .string|some .bool=>some .now
 |some (.array n e)=>match P.underlying e,szOf P e with
  |some (.int _),some 1=>some (.arr n)
  |_,_=>none
 |_=>none
@[go_sem] def jA(P:qf)(g:j1)(x y:AV):Option Bool:=
 match P.underlying g with
 |some (.int _)=>(match x,y with | .sc (.int k a),.sc (.int j b)=>if k=j then some (a == b) else none|_,_=>none)
 |some .string=>(match x,y with | .sc (.string a),.sc (.string b)=>some (a == b)|_,_=>none)
 |some .bool=>(match x,y with | .sc (.bool a),.sc (.bool b)=>some (a == b)|_,_=>none)
 |some (.array n e)=>(match P.underlying e,szOf P e with
  |some (.int _),some 1=>(match x,y with | .agg p,.agg i=>if p.length=n/\i.length=n then aEqs p i else none|_,_=>none)
  |_,_=>none)
 |_=>none
def zj(P:qf)(g:j1)(k:AV):List (AV×AV)->Nat->Option (Option Nat)
 | [],_=>some none
 |e :: I,i=>match jA P g k e.1 with
  |some true=>some (some i)
  |some false=>zj P g k I (i+1)
  |none=>none
@[go_sem] def Z2(q:IntKind):AV->Bool
 | .sc (.int k _)=>k == q
 |_=>false
@[go_sem] def je(P:qf)(g:j1)(x:AV):Bool:=
 match P.underlying g with
 |some (.int q)=>Z2 q x
 |some .string=>(match x with | .sc (.string _)=>true|_=>false)
 |some .bool=>(match x with | .sc (.bool _)=>true|_=>false)
 |some (.array n e)=>(match P.underlying e,szOf P e with
  |some (.int q),some 1=>(match x with | .agg p=>p.length == n&&p.all (Z2 q)|_=>false)
  |_,_=>false)
 |_=>false
theorem qfT(m d){e q}(l:P.underlying e=some (.int q))(o:szOf P e=some 1)(j):∀ n i,i+n<=j.size ->
    (forIn (m := Sem) (List.range' i n) PUnit.unit fun i p => do
            let g <-Go.sizeOf e
            let x <-part e j (i*g)
            Instr.checkKey m (d+1) e x
            pure (ForInStep.yield PUnit.unit)).run P w = .ok PUnit.unit w:=by
  intro n;induction n with
  |zero=>intro i _;rfl
  |succ n C =>
    intro i h;have r:j[i]?=some (j[i]' zOm):=by grind
    have t:∀ v,(Instr.checkKey m (d+1) e v).run P w = .ok () w:=by
      simp_all[Instr.checkKey,run_underlying]
    simp only[List.range'_succ,List.forIn_cons,qM,jr o,qP,Nat.mul_one,Jh l r,t,zD]
    grind
theorem Jj{g v}(m)(r:VRel G w.heap x v)(h:je P g x=true):(Instr.checkKey m 10000 g v).run P w = .ok () w:=by
 unfold je at h;have now:∀ d,P.underlying g=some d->(∀ n e,d ≠ .array n e)->(∀ o,d ≠ .struct o)->(∀ t,d ≠ .interface t)->(Instr.checkKey m 10000 g v).run P w = .ok () w:=by
  intro d i C I J;show (Instr.checkKey m (9999+1) g v).run P w=_;unfold Instr.checkKey;simp only[qM,run_underlying i,qP];cases d<;>first|rfl | (exact absurd rfl (C _ _)) | (exact absurd rfl (I _)) | (exact absurd rfl (J _))
 split at h
 .grind
 .grind
 .grind
 .rename_i n e i
  split at h
  .rename_i R T
   split at h
   .rename_i p
    cases r with
    |agg _ l U hv =>
    have hl:p.length=n:=by
     grind
    show (Instr.checkKey m (9998+2) g (.agg l)).run P w=_;unfold Instr.checkKey;simp only[qM,run_underlying i,qP,Std.Legacy.Range.forIn_eq_forIn_range'];have j:(Std.Legacy.Range.size [:n])=n:=by simp[Std.Legacy.Range.size]
    rw[j,qfT m 9998 R T l n 0 zOm];simp
   grind
  grind
 grind
def jf(G:Gh)(h:Array Obj)(es:List (AV×AV))(ce:List xa):Prop:=ce.length=es.length/\∀(k:Nat) x,es[k]?=some x->∃ e,ce[k]?=some e/\VRel G h x.1 e.key/\VRel G h x.2 e.val
theorem pv{i y v b d}(j:P.underlying i=some d)(l:∀ n e,d ≠ .array n e)(o:VRel G h x u)(p:VRel G h y v)(g:jA P i x y=some b) :
  Instr.sameNow d u v=some b:=by
 unfold jA at g;rw[j]at g;cases d<;>simp only at g<;>first | (exact absurd g (by simp;done)) | (exact absurd rfl (l _ _))|skip
 all_goals
  split at g
  .cases o;cases p
   grind [Instr.sameNow,qr,absurd]
  grind
theorem qfU{t d}(C:P.underlying t=some d)(I:∀ n e,d ≠ .array n e)(J:VRel G h x u):∀ es ce i r,
  jf G h es ce->zj P t x es i=some r->Instr.findNow d u ce i=some (r.map fun j=>(j,(ce.getD (j-i) default).val))/\∀ j,r=some j->i<=j/\j<i+es.length:=by
 intro es;induction es with
 |nil =>
  intro ce i r g hf;have:ce=[]:=wD g.1;subst this;simp only[zj,qr]at hf;subst hf;exact⟨rfl,zSp⟩
 |cons e es T =>
  intro ce i r g hf;cases ce with
  |nil=>have:=g.1;simp at this
  |cons c ce =>
   obtain⟨c',l,R,rv⟩:=g.2 0 e rfl;simp only[Vq,qr]at l;subst l;simp only[zj]at hf;split at hf
   .rename_i o
    simp only[qr]at hf;subst hf;have:=pv C I J R o
    grind [Instr.findNow]
   .rename_i o
    have:=pv C I J R o;have p:jf G h es ce:=⟨by have:=g.1;grind,fun k y U=>g.2 (k+1) y (zUs U)⟩;obtain⟨h1,h2⟩:=T ce (i+1) r p hf;refine⟨?_,fun j hj=>?_⟩
    .simp only[Instr.findNow,this,h1]
     cases r with
     |none=>rfl
     |some j =>
      have:=h2 j rfl;simp only[zg];rw[show j-i=(j-(i+1))+1 by omega];simp
    grind
   grind
theorem qfV{o e n q}(R:P.underlying o=some (.array n e))(T:P.underlying e=some (.int q))(U:szOf P e=some 1){x u}(rx:VRel G w.heap x u) :
  ∀ es ce i r,jf G w.heap es ce->zj P o x es i=some r ->
   (Instr.findAsking o u ce i).run P w = .ok (r.map fun j=>(j,(ce.getD (j-i) default).val)) w/\∀ j,r=some j->i<=j/\j<i+es.length:=by
 intro es;induction es with
 |nil =>
  intro ce i r g hf;have:ce=[]:=wD g.1;subst this;simp only[zj,qr]at hf;subst hf;exact⟨rfl,zSp⟩
 |cons y es ih =>
  intro ce i r g hf;cases ce with
  |nil=>have:=g.1;simp at this
  |cons c ce =>
   obtain⟨c',t,C,rv⟩:=g.2 0 y rfl;simp only[Vq,qr]at t;subst t;simp only[zj]at hf;have heq:∀ b,jA P o x y.1=some b->(Op.equal o u c.key).run P w = .ok b w:=by
    intro b l;unfold jA at l;rw[R]at l;simp only[T,U]at l;split at l
    .rename_i p ys I
     split at l
     .rename_i hl
      rw[I]at C;generalize hq:c.key=ck at C;cases rx with
      |agg _ vs hn hv =>
      cases C with
      |agg _ ws hm hw =>
      exact pu (G:=G) 9998 R T U hl.1 (.agg _ _ hn hv) (.agg _ _ hm hw) l
     grind
    grind
   split at hf
   .rename_i hk
    simp only[qr]at hf;subst hf;simp_all[Instr.findAsking]
   .rename_i hk
    have J:jf G w.heap es ce:=⟨by have:=g.1;grind,fun k z hz=>g.2 (k+1) z (zUs hz)⟩;obtain⟨h1,h2⟩:=ih ce (i+1) r J hf;refine⟨?_,fun j hj=>?_⟩
    .simp only[Instr.findAsking,qM,heq _ hk,qP,Bool.false_eq_true,if_false,h1]
     cases r with
     |none=>rfl
     |some j =>
      have:=h2 j rfl;simp only[zg];rw[show j-i=(j-(i+1))+1 by omega];simp
    grind
   grind
theorem Ql{g}(p:VRel G w.heap x u)(l:je P g x=true){es}{ce:Array xa}{r}(o:jf G w.heap es ce.toList)(hf:zj P g x es 0=some r) :
  (Instr.findKey g u ce.toList).run P w = .ok (r.map fun j=>(j,(ce.getD j default).val)) w/\∀ j,r=some j->j<es.length:=by
 have C:∀ j,ce.toList.getD j default=ce.getD j default:=by
  simp
 unfold je at l;have now:∀ d,P.underlying g=some d->(∀ n e,d ≠ .array n e)->(Instr.findKey g u ce.toList).run P w = .ok (r.map fun j=>(j,(ce.getD j default).val)) w/\∀ j,r=some j->j<es.length:=by
  intro d i I;obtain⟨t,J⟩:=qfU i I p es ce.toList 0 r o hf;simp_all[Nat.sub_zero,Instr.findKey,run_underlying]
 split at l
 .grind
 .grind
 .grind
 .rename_i n e i
  split at l
  .rename_i R T
   obtain⟨t,J⟩:=qfV i R T p es ce.toList 0 r o hf;simp only[Nat.sub_zero,C]at t;refine⟨?_,fun j hj=>by grind⟩;simp only[Instr.findKey,qM,run_underlying i,qP];cases U:ce.toList with
   |nil =>
    have:r=none:=by
     cases es with
     |nil=>grind [zj]
     |cons=>have:=o.1;rw[U]at this;simp at this
    subst this;simp[Instr.findNow]
   |cons c cs =>
    grind [Instr.findNow,Instr.sameNow]
  grind
 grind
end
end Go.Ev
namespace Go.Ev
open Go Go.RowKit
section
variable {k x y:AV}{h:Array Obj}{G:Gh}{es:List (AV×AV)}{mu:Mu}{P:qf}{g:j1}{w:j2}
def mapT(P:qf)(t:j1):Option (j1×j1):=match P.underlying t with|some (.map k e)=>some (k,e)|_=>none
theorem Zs{t k e}(h:mapT P t=some (k,e)):P.underlying t=some (.map k e):=by
 unfold mapT at h;split at h
 .grind
 grind
@[go_sem] def jN(mu:Mu):AV->Option (List (AV×AV))
 | .im I=>some I
 | .mp b=>match mu[b]? with|some (.mp I)=>some I|_=>none
 | .sc (.map none)=>some []
 |_=>none
theorem VM(ce:Array xa)(k)(g:k<ce.size):ce.toList[k]?=some (ce.getD k default):=by
 simp[qV,g]
theorem qfW(s:Sim G mu w.heap){x v es}(r:VRel G w.heap x v)(h:jN mu x=some es) :
  (v = .map none/\es=[])\/∃ m ce i,v = .map (some m)/\w.heap[m]?=some (.map ce i)/\jf G w.heap es ce.toList:=by
 unfold jN at h;split at h
 .simp only[qr]at h;subst h
  cases r with
  |im _ g ce clock j P o R T U =>
   refine .inr ⟨g,ce,clock,rfl,j,⟨zUs o,fun k x p=>?_⟩⟩
   grind [qg,VM]
 .split at h
  .rename_i t C
   simp only[qr]at h;subst h;cases r with
   |mp _ g l j =>
    obtain⟨ce,i,I,J,h3,h4,h5,h6⟩:=s.mp _ _ g l C j;refine .inr ⟨g,ce,i,rfl,I,⟨zUs J,fun k x p=>?_⟩⟩
    grind [qg,VM]
  grind
 .simp only[qr]at h;subst h
  cases r;exact .inl ⟨rfl,rfl⟩
 grind
@[go_sem] def jk(P:qf)(mu:Mu)(t:j1)(m k:AV)(ok:Bool):Option AV:=
 match mapT P t,jN mu m with
 |some (g,j),some I =>
  if je P g k=true then
   match zj P g k I 0 with
   |some (some i)=>(I[i]?).map fun e=>if ok then .tup [e.2,.sc (.bool true)] else e.2
   |some none=>(qx P j).map fun z=>if ok then .tup [z,.sc (.bool false)] else z
   |none=>none
  else none
 |_,_=>none
theorem tup2{z u v}(i:VRel G h y u)(j:VRel G h z v):VRel G h (.tup [y,z]) (.tuple #[u,v]):=by
 refine .tup _ _ rfl (fun k c g=>?_);cases k with
 |zero=>simp at g;subst g;exact i
 |succ k=>cases k with
  |zero=>simp at g;subst g;exact j
  |succ k=>simp at g
theorem uR{m ce g}(h:w.heap[m]?=some (.map ce g)):(getObj m).run P w = .ok (.map ce g) w:=by
 simp[getObj,Sem.run,h]
theorem pw(s:Sim G mu w.heap){t m k z ok vm U}(rm:VRel G w.heap m vm)(R:VRel G w.heap k U)(h:jk P mu t m k ok=some z) :
  ∃ u,(Instr.lookup t vm U ok).run P w = .ok u w/\VRel G w.heap z u:=by
 unfold jk at h;split at h
 .rename_i kt et I ht a0
  have J:=Zs ht;split at h
  .rename_i o
   have j:∀ b,(Instr.checkKey b 10000 kt U).run P w = .ok () w:=fun b=>Jj b R o
   rcases qfW s rm a0 with ⟨rfl,rfl⟩|⟨mb,ce,cl,rfl,hb,hr⟩
   .simp only[zj]at h
    cases C:qx P et with
    |none=>simp[C]at h
    |some z0 =>
     simp only[C,zg,qr]at h;subst h;obtain⟨p,l,rfl⟩:=Zq C w;have g:=(Ql (es:=[]) (ce:=#[]) R o ⟨rfl,zSp⟩ (r:=none) rfl).1;cases ok
     .exact ⟨p,by simp[Instr.lookup,run_underlying J,j,g,l],.ofV p⟩
     .exact ⟨.tuple #[p,.bool false],by simp[Instr.lookup,run_underlying J,j,g,l],tup2 (.ofV p) (.sc _ rfl)⟩
   .have T:=uR (P:=P) hb
    split at h
    .rename_i i hf
     obtain⟨g,a1⟩:=Ql R o hr hf;have hi:=a1 i rfl;have hx:I[i]?=some I[i]:=zP1 hi;rw[hx]at h;simp only[zg,qr]at h;subst h;obtain⟨e,he,h1,h2⟩:=hr.2 i _ hx;have a2:ce.getD i default=e:=by
      simp_all
     simp only[zg,a2]at g;cases ok
     .exact ⟨e.val,by simp[Instr.lookup,run_underlying J,T,j,g],h2⟩
     .exact ⟨.tuple #[e.val,.bool true],by simp[Instr.lookup,run_underlying J,T,j,g],tup2 h2 (.sc _ rfl)⟩
    .rename_i hf
     obtain⟨g,_⟩:=Ql R o hr hf;simp only[Option.map_none]at g;cases C:qx P et with
     |none=>simp[C]at h
     |some z0 =>
      simp only[C,zg,qr]at h;subst h;obtain⟨p,l,rfl⟩:=Zq C w;cases ok
      .exact ⟨p,by simp[Instr.lookup,run_underlying J,T,j,g,l],.ofV p⟩
      .exact ⟨.tuple #[p,.bool false],by simp[Instr.lookup,run_underlying J,T,j,g,l],tup2 (.ofV p) (.sc _ rfl)⟩
    grind
  grind
 grind
theorem px:∀ xs ys,aEqs xs ys=some true->xs=ys
 | [],[],_=>rfl
 | [],_ :: _,h=>by simp[aEqs]at h
 |x :: xs,[],h=>by cases x<;>simp[aEqs]at h
 |x :: xs,y :: ys,h=>by
  unfold aEqs at h;split at h
  .rename_i g i;cases g
  .rename_i k a l k' b o g i
   simp only[List.cons.injEq]at g i;obtain⟨rfl,rfl⟩:=g;obtain⟨rfl,rfl⟩:=i;split at h
   .rename_i p
    subst p;split at h
    .rename_i j
     have:=beq_iff_eq.1 j;subst this;rw[px xs ys h]
    grind
   grind
  grind
theorem py(q):∀ xs ys,xs.length=ys.length->xs.all (Z2 q)=true->ys.all (Z2 q)=true->∃ b,aEqs xs ys=some b
 | [],[],_,_,_=>⟨true,rfl⟩
 | [],_ :: _,h,_,_=>by simp at h
 |_ :: _,[],h,_,_=>by simp at h
 |x :: xs,y :: ys,h,g,i=>by
  simp only[List.all_cons,qD]at g i;obtain⟨b,t⟩:=py q xs ys (zUs h) g.2 i.2;have j:=g.1;have l:=i.1;unfold Z2 at j l;split at j
  .split at l
   .rename_i C a _ I c
    have o:=beq_iff_eq.1 j;have p:=beq_iff_eq.1 l;subst o;subst p;by_cases r:(a == c)=true
    .simp_all [aEqs]
    simp_all[aEqs]
   grind
  grind
theorem Wt{a b:tG}(h:(a == b)=true):a=b:=by
 obtain⟨x⟩:=a;obtain⟨y⟩:=b;have g:(x == y)=true:=h;rw[beq_iff_eq.1 g]
theorem qfX(h:jA P g x y=some true):x=y:=by
 unfold jA at h;split at h
 .grind
 .grind [qr,Wt,absurd]
 .grind
 .grind [px,absurd]
 grind
theorem pz{l}(i:je P l x=true)(g:je P l y=true):∃ b,jA P l x y=some b:=by
 unfold je at i g;unfold jA;split at i
 .rename_i q j
  simp only[j]at g⊢;unfold Z2 at i g;split at i
  .split at g
   .simp_all
   grind
  grind
 .rename_i j
  simp only[j]at g⊢;split at i
  .split at g
   .exact ⟨_,rfl⟩
   grind
  grind
 .rename_i j
  simp only[j]at g⊢;split at i
  .split at g
   .exact ⟨_,rfl⟩
   grind
  grind
 .rename_i n e j
  simp only[j]at g⊢;split at i
  .rename_i q o p
   simp only[o,p]at g⊢;split at i
   .split at g
    .rw [qD]at i g
     have r:=beq_iff_eq.1 i.1;have t:=beq_iff_eq.1 g.1;simp only;rw[if_pos ⟨r,t⟩]
     grind [py]
    grind
   grind
  grind
 grind
theorem Jk:∀{es i j},zj P g k es i=some (some j)->i<=j/\∃ e,es[j-i]?=some e/\k=e.1
 | [],i,j,h=>by simp[zj]at h
 |e :: es,i,j,h=>by
  unfold zj at h;split at h
  .rename_i l
   simp only[qr]at h;subst h;exact⟨qo _,e,zSp,qfX l⟩
  .obtain ⟨o,p,r,t⟩:=Jk h
   grind
  grind
theorem Wu{j}:∀{es i},zj P j k es i=some none->∀ e,e∈es->jA P j k e.1=some false
 | [],_,_=>zSp
 |e :: es,i,h=>by
  unfold zj at h;split at h
  .exact absurd h zSp
  .rename_i l
   intro o g;rcases qt.1 g with rfl|g
   .exact l
   .exact Wu h o g
  grind
theorem pA(l:je P g k=true):∀ es i,(∀ e,e∈es->je P g e.1=true)->∃ r,zj P g k es i=some r
 | [],i,_=>⟨none,rfl⟩
 |e :: es,i,h=>by
  obtain⟨b,p⟩:=pz l (h e zSp);obtain⟨r,t⟩:=pA l es (i+1) (fun o j=>h o (zP1 j))
  grind [zj]
theorem PIx.mem{J o r es i}(p:PIx o r es i){x:J}:x∈i↔x∈es:=by
 constructor
 .intro h
  obtain⟨j,l⟩:=List.mem_iff_getElem?.1 h;have g:j<es.length:=by rw[<-p.1];grind
  rw[p.back g]at l
  grind
 .intro h
  obtain⟨j,l⟩:=List.mem_iff_getElem?.1 h;have g:j<es.length:=(qg.1 l).1;rw[<-(p.2 j g).2.2.2.2]at l
  grind
theorem qfY(h:(es.map Prod.fst).Nodup){x y}(g:x∈es)(i:y∈es)(e:x.1=y.1):x=y:=by
 induction es with
 |nil=>simp at g
 |cons z es j =>
  grind
theorem pB(h:jA P g x y=some false):x≠y:=by
 rintro rfl;unfold jA at h;have agg:∀ p:List AV,aEqs p p≠some false:=by
  intro p;induction p with
  |nil=>simp[aEqs]
  |cons x p j =>
   intro h;obtain⟨k,a,o,i,rfl,r,h⟩:=Ji h
   grind
 have ba:∀ a:tG,(a == a)=true:=fun a=>by obtain⟨l⟩:=a;exact(beq_self_eq_true l)
 split at h
 .grind
 .grind
 .grind
 .grind
 grind
theorem qfZ{t T et p z ok σ τ}(ht:mapT P t=some (T,et))(I:PIx σ τ es p)(hd:(es.map Prod.fst).Nodup)
  (ho:∀ e,e∈es->je P T e.1=true) (h:jk P mu t (.im es) k ok=some z):jk P mu t (.im p) k ok=some z:=by
 unfold jk at *
 simp only[ht,jN]at h⊢;split at h
 .rename_i U
  rw[if_pos U];obtain⟨r',o⟩:=pA U p 0 (fun e r=>ho e (I.mem.1 r));rw[o];split at h
  .rename_i i J
   obtain⟨_,e,r,C⟩:=Jk J;simp only[Nat.sub_zero]at r;rw[r]at h;cases r' with
   |none=>exact absurd C (pB (Wu o e (I.mem.2 (qU r))))
   |some j =>
    obtain⟨_,R,g,l⟩:=Jk o;simp only[Nat.sub_zero]at g;have:R=e:=qfY hd (I.mem.1 (qU g)) (qU r) (by rw[<-C,<-l])
    grind
  .rename_i J
   cases r' with
   |none=>exact h
   |some j =>
    obtain⟨_,R,g,l⟩:=Jk o;simp only[Nat.sub_zero]at g;exact absurd l (pB (Wu J R (I.mem.1 (qU g))))
  grind
 grind
def yj(P:qf)(mu:Mu)(t:j1)(m k:AV)(ok:Bool):Option AV:=
 match m with
 | .ims I=>(match mapT P t with
  |some (g,_)=>if (I.all fun e=>je P g e.1)=true then jk P mu t (.im I) k ok else none
  |none=>none)
 |m=>jk P mu t m k ok
@[go_sem] theorem qs3(P mu t es k ok):yj P mu t (.ims es) k ok=(match mapT P t with
  |some (g,_)=>if (es.all fun e=>je P g e.1)=true then jk P mu t (.im es) k ok else none
  |none=>none):=rfl
@[go_sem] theorem qs4(P mu t es k ok):yj P mu t (.im es) k ok=jk P mu t (.im es) k ok:=rfl
@[go_sem] theorem qs5(P mu t b k ok):yj P mu t (.mp b) k ok=jk P mu t (.mp b) k ok:=rfl
@[go_sem] theorem qs6(P mu t v k ok):yj P mu t (.sc v) k ok=jk P mu t (.sc v) k ok:=rfl
theorem qf0(s:Sim G mu w.heap){t m k z ok g i}(j:VRel G w.heap m g)(l:VRel G w.heap k i)(h:yj P mu t m k ok=some z) :
  ∃ u,(Instr.lookup t g i ok).run P w = .ok u w/\VRel G w.heap z u:=by
 unfold yj at h;split at h
 .rename_i I
  split at h
  .rename_i R T o
   split at h
   .rename_i U
    cases j with
    |ims _ p σ τ _ C J r =>
     exact pw s r l (qfZ o C J (fun e he=>by grind) h)
   grind
  grind
 .exact pw s j l h
theorem qf1:∀(xs ys)(g i:List j3)(n),aEqs xs ys=some true->g.length=xs.length->i.length=ys.length->(∀(k:Nat) x,xs[k]?=some x->∃ v,g[k]?=some v/\VRel G h x v) ->
  (∀(k:Nat) x,ys[k]?=some x->∃ v,i[k]?=some v/\VRel G h x v)->g.length=i.length/\((g.zip i).all fun (x,y)=>Instr.sameBits n x y)=true:=by
 intro xs;induction xs with
 |nil =>
  intro ys g i n o p r _ _;cases ys with
  |nil=>simp_all
  |cons=>simp[aEqs]at o
 |cons x xs R =>
  intro ys g i n o p r I l;have T:=Ji o;clear o;obtain⟨k,a,b',t,rfl,rfl,h⟩:=T;rcases h with ⟨U,h⟩|⟨_,h⟩
  .cases g with
   |nil=>simp at p
   |cons v g =>
    cases i with
    |nil=>simp at r
    |cons u i =>
     obtain⟨v',J,r1⟩:=I 0 _ rfl;obtain⟨u',P,r2⟩:=l 0 _ rfl;simp at J P;subst J;subst P;cases r1;cases r2;obtain⟨g1,g2⟩:=R t g i n h (zUs p) (zUs r) (fun j y C=>I (j+1) y (zUs C)) (fun j y C=>l (j+1) y (zUs C));refine⟨by simp[g1],?_⟩;simp_all[List.zip_cons_cons,List.all_cons,Instr.sameBits]
  grind
theorem Wv{kt u v}(R:VRel G h x u)(T:VRel G h y v)(g:jA P kt x y=some true):Instr.sameBits 10000 v u=true:=by
 unfold jA at g;split at g
 .split at g
  .cases R;cases T
   split at g
   .simp_all [qr,beq_iff_eq,Instr.sameBits]
   grind
  grind
 .split at g
  .cases R;cases T
   simp_all[Option.some.inj,Instr.sameBits,beq_toListBytes,beq_iff_eq]
  grind
 .split at g
  .cases R;cases T
   have g:=Option.some.inj g;simp_all[Instr.sameBits,beq_iff_eq]
  grind
 .split at g
  .split at g
   .rename_i p i
    split at g
    .rename_i hl
     cases R with
     |agg _ o U hv =>
     cases T with
     |agg _ t hm hw =>
     have g1:=Z1 U hv;have g2:=Z1 hm hw;have:=qf1 (G:=G) (h:=h) p i o.toList t.toList 9999 g (zUs U) (zUs hm) (fun k x hx=>by have:=g1 k x hx;simpa using this) (fun k x hx=>by have:=g2 k x hx;simpa using this);have C:∀(a b:List j3),a.length=b.length->((a.zip b).all fun (x,y)=>Instr.sameBits 9999 x y)=true->(∀ c,c∈a->∃ k n,c = .int k n)->(∀ c,c∈b->∃ k n,c = .int k n)->((b.zip a).all fun (x,y)=>Instr.sameBits 9999 x y)=true:=by
      intro a;induction a with
      |nil=>intro b _ _ _ _;simp
      |cons c a ih =>
       intro b hl h ha hb;cases b with
       |nil=>simp at hl
       |cons d b =>
        obtain⟨k1,n1,rfl⟩:=ha c zSp;obtain⟨k2,n2,rfl⟩:=hb d zSp;simp only[List.zip_cons_cons,List.all_cons,qD]at h⊢;refine⟨?_,ih b (zUs hl) h.2 (fun c j=>ha c (zP1 j)) (fun c j=>hb c (zP1 j))⟩;simp only[Instr.sameBits,qD,beq_iff_eq]at h⊢;exact⟨h.1.1.symm,h.1.2.symm⟩
     have ints:∀(p i:List AV),aEqs p i=some true->(∀ c,c∈p->∃ k n,c = .sc (.int k n))/\(∀ c,c∈i->∃ k n,c = .sc (.int k n)):=by
      intro p;induction p with
      |nil=>intro i h;cases i with
       |nil=>simp
       |cons=>simp[aEqs]at h
      |cons x p ih =>
       intro i h;have h':=Ji h;clear h;obtain⟨k,a,b',a0,rfl,rfl,h⟩:=h';rcases h with ⟨_,h⟩|⟨_,h⟩
       .obtain ⟨g1,g2⟩:=ih a0 h
        refine⟨fun c j=>?_,fun c j=>?_⟩
        .rcases qt.1 j with rfl|j
         .exact ⟨k,a,rfl⟩
         .exact g1 c j
        .rcases qt.1 j with rfl|j
         .exact ⟨k,b',rfl⟩
         .exact g2 c j
       .exact absurd h zSp
     obtain⟨i1,i2⟩:=ints p i g;have val:∀(l:List AV)(I:Array j3),I.size=l.length->(∀(k:Nat) x,l[k]?=some x->VRel G h x (I.getD k wg))->(∀ c,c∈l->∃ k n,c = .sc (.int k n))->∀ c,c∈I.toList->∃ k n,c = .int k n:=by
      intro l I U hv hi c j;obtain⟨k,g⟩:=List.mem_iff_getElem?.1 j;have J:I[k]?=some c:=zUs g;have a1:k<l.length:=by have:=(yv.1 J).1;omega
      obtain⟨q,n,e⟩:=hi l[k] zSp;have r:=hv k l[k] (zP1 a1);rw[e,qeX J]at r;cases r;exact⟨q,n,rfl⟩
     have hs:=C o.toList t.toList this.1 this.2 (val p o U hv i1) (val i t hm hw i2);show (t.size == o.size&&(t.toList.zip o.toList).all fun (x,y)=>Instr.sameBits 9999 x y)=true
     grind
    grind
   grind
  grind
 grind
theorem Ww:∀ es i j,zj P g k es i=some (some j)->i<=j/\∃ e,es[j-i]?=some e/\jA P g k e.1=some true:=by
 intro es;induction es with
 |nil=>intro i j h;simp[zj]at h
 |cons e es l =>
  intro i j h;simp only[zj]at h;split at h
  .grind
  .grind
  grind
end
end Go.Ev
namespace Go.Ev
open Go Go.RowKit
section
variable {ce:Array xa}{h:Array Obj}{G:Gh}{es:List (AV×AV)}{mu mu':Mu}{g:Nat}{P:qf}{w:j2}
@[go_sem] def Z3(es:List (AV×AV))(i:Option Nat)(k v:AV):List (AV×AV):=
 match i with
 |some i=>es.set i (k,v)
 |none=>es++[(k,v)]
theorem wI{r}(h:w.heap[r]?=some (.map ce g))(o):(setObj r o).run P w = .ok () { w with heap:=w.heap.setIfInBounds r o }:=by
 simp[setObj,Sem.run,h]
theorem Wx(w:j2)(r o)(h:r<w.heap.size):({ w with heap:=w.heap.setIfInBounds r o }:j2).heap[r]?=some o:=by
 simp[h]
theorem Wy(w:j2)(r k o)(h:k≠r):({ w with heap:=w.heap.setIfInBounds r o }:j2).heap[k]?=w.heap[k]?:=by
 grind
theorem VN(s:Sim G mu w.heap){b v es}(r:VRel G w.heap (.mp b) v)(l:mu[b]?=some (.mp es)) :
  ∃ m g ce,v = .map (some m)/\G.blk[b]?=some (m,g)/\w.heap[m]?=some (.map ce ce.size)/\jf G w.heap es ce.toList/\(∀(k)(e:xa),ce[k]?=some e->e.born=k):=by
 cases r with
 |mp _ i g j =>
  obtain⟨ce,I,o,p,J,P,t,C⟩:=s.mp _ _ i g l j;subst t;refine⟨i,g,ce,rfl,j,o,⟨zUs p,fun k x R=>?_⟩,C⟩
  grind [qg,VM]
theorem qf2(i:jf G h es ce.toList)(l:∀(k)(e:xa),ce[k]?=some e->e.born=k):vV G h g (.map ce ce.size) (.mp es):=by
 refine⟨ce,ce.size,rfl,by simpa using i.1,fun k x j=>?_,fun k x j=>?_,rfl,l⟩
 .obtain ⟨e,o,p,r⟩:=i.2 k x j
  simp_all
 .obtain ⟨e,o,p,r⟩:=i.2 k x j
  simp_all
theorem pC(g:jf G h es ce.toList){i}(C:i<es.length){k v o p}(I:VRel G h k o)(J:VRel G h v p) :
  jf G h (es.set i (k,v)) (ce.modify i fun e=>{ e with key:=o,val:=p }).toList:=by
 refine⟨by simpa using g.1,fun j x l=>?_⟩;rcases vA l with ⟨rfl,rfl⟩|⟨r,l⟩
 .have t:j<ce.size:=by have:=g.1;simp at this;omega
  simp_all
 .obtain ⟨e,P,R,T⟩:=g.2 j x l
  grind
theorem Wz(i:jf G h es ce.toList){k v l o}(t:VRel G h k l)(C:VRel G h v o)(n) :
  jf G h (es++[(k,v)]) (ce.push { key:=l,val:=o,born:=n }).toList:=by
 have r:ce.size=es.length:=by simpa using i.1
 refine⟨zP1 r,fun j x g=>?_⟩;rcases yi g with ⟨I,g⟩|⟨rfl,rfl⟩
 .obtain ⟨e,J,P,R⟩:=i.2 j x g
  grind
 simp_all
theorem WA(g:∀(k) (e:xa),ce[k]?=some e->e.born=k)(i f)(hf:∀ e,(f e).born=e.born):∀(k)(e:xa),(ce.modify i f)[k]?=some e->e.born=k:=by
 grind
theorem pD(g:∀(k)(e:xa),ce[k]?=some e->e.born=k)(x)(i:x.born=ce.size):∀(k)(e:xa),(ce.push x)[k]?=some e->e.born=k:=by
 grind
theorem sL(s:Sim G mu w.heap){b m j es i ce g}(o:mu[b]?=some (.mp es))(p:G.blk[b]?=some (m,j))(r:w.heap[m]?=some (.map ce ce.size))
  (t:jf G w.heap i g.toList) (l:∀(k)(e:xa),g[k]?=some e->e.born=k):Stp G mu w G (mu.set b (.mp i)) { w with heap:=w.heap.setIfInBounds m (.map g g.size) }:=by
 grind [yv,sW,Wx,Wy,qf2]
theorem qf3(s:Sim G mu w.heap){b v es}(r:VRel G w.heap (.mp b) v)(o:mu[b]?=some (.md es)) :
  ∃ m g ce j,v = .map (some m)/\G.blk[b]?=some (m,g)/\w.heap[m]?=some (.map ce j)/\jf G w.heap es ce.toList/\jY ce j:=by
 cases r with
 |mp _ i g l =>
  obtain⟨ce,j,p,t,I,J,C⟩:=s.md _ _ i g o l;refine⟨i,g,ce,j,rfl,l,p,⟨zUs t,fun k x P=>?_⟩,C⟩
  grind [qg,VM]
theorem qf4{i}(j:jf G h es ce.toList)(o:jY ce g):vV G h i (.map ce g) (.md es):=by
 refine⟨ce,g,rfl,by simpa using j.1,fun k x l=>?_,fun k x l=>?_,o⟩
 .obtain ⟨e,p,r,t⟩:=j.2 k x l
  simp_all
 .obtain ⟨e,p,r,t⟩:=j.2 k x l
  simp_all
theorem sQ(s:Sim G mu w.heap){b m j c i o g p}(r:mu[b]?=some c)(t:c ≠ .dead)(C:G.blk[b]?=some (m,j))(I:w.heap[m]?=some o)
  (J:jf G w.heap i g.toList) (l:jY g p):Stp G mu w G (mu.set b (.md i)) { w with heap:=w.heap.setIfInBounds m (.map g p) }:=by
 grind [yv,sW,Wx,Wy,qf4]
theorem qf5{l}(o:jY ce l)(i f)(hf:∀ e,(f e).born=e.born):jY (ce.modify i f) l:=by
 have key:∀(k:Nat)(e:xa),(ce.modify i f)[k]?=some e->∃ g,ce[k]?=some g/\g.born=e.born:=by
  grind
 refine⟨fun k e h=>?_,fun j k e p r t T=>?_⟩
 .obtain ⟨g,C,I⟩:=key k e h
  rw[<-I];exact o.1 k g C
 .obtain ⟨J,g1,U⟩:=key j e r
  obtain⟨P,R,g4⟩:=key k p t;exact o.2 j k J P g1 R zOm
theorem qf6{i}(g:jY ce i)(x)(I:x.born=i):jY (ce.push x) (i+1):=by
 have key:∀(k:Nat)(e:xa),(ce.push x)[k]?=some e->(k=ce.size/\e=x)\/ce[k]?=some e:=by
  grind
 refine⟨fun k e h=>?_,fun j k e l r t C=>?_⟩
 .rcases key k e h with ⟨_,rfl⟩|h
  .omega
  .have:=g.1 k e h;omega
 .rcases key j e r with ⟨o,rfl⟩|o<;>rcases key k l t with ⟨p,rfl⟩|p
  .omega
  .have:=g.1 k l p;omega
  .have:=g.1 j e o;omega
  .exact g.2 j k e l o p C
theorem qf7{l}(o:jY ce l)(i):jY (ce.eraseIdxIfInBounds i) l:=by
 have key:∀ k:Nat,∃ j:Nat,(ce.eraseIdxIfInBounds i)[k]?=ce[j]?/\j=if k<i then k else if i<ce.size then k+1 else k:=by
  grind
 refine⟨fun k e h=>?_,fun j k e t p r C=>?_⟩
 .obtain ⟨j,g,_⟩:=key k
  rw[g]at h;exact o.1 j e h
 .obtain ⟨I,g,R⟩:=key j
  obtain⟨J,P,T⟩:=key k;rw[g]at p;rw[P]at r;have:=o.2 I J e t p r C
  grind
theorem qf8(j:jf G h es ce.toList){i}(t:i<es.length):jf G h (es.eraseIdx i) (ce.eraseIdxIfInBounds i).toList:=by
 have o:ce.size=es.length:=by simpa using j.1
 have e:(ce.eraseIdxIfInBounds i).toList=ce.toList.eraseIdx i:=by
  simp_all
 rw[e];refine⟨by simp[List.length_eraseIdx,o],fun k x g=>?_⟩;rw[List.getElem?_eraseIdx]at g;by_cases l:k<i
 .rw [if_pos l]at g
  obtain⟨c,p,r⟩:=j.2 k x g
  grind
 .rw [if_neg l]at g
  obtain⟨c,p,r⟩:=j.2 (k+1) x g
  grind
@[go_sem] def jB(P:qf)(mu:Mu)(t:j1)(m k v:AV):Option Mu:=
 match m,mapT P t with
 | .mp b,some (g,_)=>match mu[b]? with
  |some (.mp I)=>if je P g k=true then (zj P g k I 0).map fun r=>mu.set b (.mp (Z3 I r k v)) else none
  |some (.md I)=>if je P g k=true then (zj P g k I 0).map fun r=>mu.set b (.md (Z3 I r k v)) else none
  |_=>none
 |_,_=>none
theorem WB{o n}(h:Instr.sameBits 10000 o n=true):(Instr.keyThatStays o n).run P w = .ok n w:=by
 simp[Instr.keyThatStays,h]
theorem pE(s:Sim G mu w.heap){t m k v vm vk vv}(rm:VRel G w.heap m vm)(rk:VRel G w.heap k vk)(rv:VRel G w.heap v vv)(h:jB P mu t m k v=some mu') :
  ∃ w',(Instr.mapUpdate t vm vk vv).run P w = .ok () w'/\Stp G mu w G mu' w':=by
 unfold jB at h;split at h
 .rename_i b kt et ht
  have hu:=Zs ht;split at h
  .rename_i I hm
   split at h
   .rename_i C
    obtain⟨mb,a4,ce,rfl,hb,J,R,g⟩:=VN s rm hm;have T:(Instr.checkKey false 10000 kt vk).run P w = .ok () w:=Jj false rk C;have hg:=uR (P:=P) J;have a5:ce.size=I.length:=by simpa using R.1
    cases hf:zj P kt k I 0 with
    |none=>simp[hf]at h
    |some r =>
     simp only[hf,zg,qr]at h;subst h;obtain⟨j,a0⟩:=Ql rk C R hf;cases r with
     |none =>
      have l:=Wz R rk rv ce.size;have o:=pD g { key:=vk,val:=vv,born:=ce.size } rfl;refine⟨_,?_,sL s hm hb J l o⟩;simp only[Option.map_none]at j;simp[Instr.mapUpdate,run_underlying hu,hg,T,j,wI J]
     |some i =>
      obtain⟨_,e,he,U⟩:=Ww I 0 i hf;rw[Nat.sub_zero]at he;obtain⟨c,hc,a1,a6⟩:=R.2 i e he;have a2:ce[i]?=some c:=zUs hc;have p:=Wv rk a1 U;have l:=pC R (a0 i rfl) rk rv;have o:=WA g i (fun e=>{ e with key:=vk,val:=vv }) (fun _=>rfl);refine⟨_,?_,sL s hm hb J l o⟩;simp only[zg]at j;simp[Instr.mapUpdate,run_underlying hu,hg,T,j,a2,WB p,wI J]
   grind
  .rename_i I hm
   split at h
   .rename_i C
    obtain⟨mb,a4,ce,cl,rfl,hb,J,R,g⟩:=qf3 s rm hm;have T:(Instr.checkKey false 10000 kt vk).run P w = .ok () w:=Jj false rk C;have hg:=uR (P:=P) J;have a5:ce.size=I.length:=by simpa using R.1
    cases hf:zj P kt k I 0 with
    |none=>simp[hf]at h
    |some r =>
     simp only[hf,zg,qr]at h;subst h;obtain⟨j,a0⟩:=Ql rk C R hf;cases r with
     |none =>
      have l:=Wz R rk rv cl;have o:=qf6 g { key:=vk,val:=vv,born:=cl } rfl;refine⟨_,?_,sQ s hm zSp hb J l o⟩;simp only[Option.map_none]at j;simp[Instr.mapUpdate,run_underlying hu,hg,T,j,wI J]
     |some i =>
      obtain⟨_,e,he,U⟩:=Ww I 0 i hf;rw[Nat.sub_zero]at he;obtain⟨c,hc,a1,a6⟩:=R.2 i e he;have a2:ce[i]?=some c:=zUs hc;have p:=Wv rk a1 U;have l:=pC R (a0 i rfl) rk rv;have o:=qf5 g i (fun e=>{ e with key:=vk,val:=vv }) (fun _=>rfl);refine⟨_,?_,sQ s hm zSp hb J l o⟩;simp only[zg]at j;simp[Instr.mapUpdate,run_underlying hu,hg,T,j,a2,WB p,wI J]
   grind
  grind
 grind
@[go_sem] def Z4(P:qf)(mu:Mu)(t:j1)(m k:AV):Option (AV×Mu):=
 match m,mapT P t with
 | .mp b,some (g,j)=>match mu[b]? with
  |some (.mp I)=>if je P g k=true then
    match zj P g k I 0 with
    |some (some i)=>(I[i]?).map fun e=>(.tup [e.2,.sc (.int .i64 i)],mu.set b (.mp (I.set i (k,e.2))))
    |some none=>(qx P j).map fun z=>(.tup [z,.sc (.int .i64 I.length)],mu.set b (.mp (I++[(k,z)])))
    |none=>none
   else none
  |_=>none
 |_,_=>none
theorem qf9(s:Sim G mu w.heap){t m k z vm T}(rm:VRel G w.heap m vm)(rk:VRel G w.heap k T)(h:Z4 P mu t m k=some (z,mu')) :
  Good P G mu w (Instr.mapEntry t vm T) z mu':=by
 unfold Z4 at h;split at h
 .rename_i b kt et ht
  have hu:=Zs ht;split at h
  .rename_i I hm
   split at h
   .rename_i o
    obtain⟨mb,a9,ce,rfl,hb,hh,p,g⟩:=VN s rm hm;have a0:(Instr.checkKey false 10000 kt T).run P w = .ok () w:=Jj false rk o;have hg:=uR (P:=P) hh;have a2:ce.size=I.length:=by simpa using p.1
    split at h
    .rename_i i hf
     obtain⟨l,aa⟩:=Ql rk o p hf;obtain⟨_,e,he,a1⟩:=Ww I 0 i hf;rw[Nat.sub_zero]at he;rw[he]at h;simp only[zg,qr,vU]at h;obtain⟨rfl,rfl⟩:=h;obtain⟨c,hc,a3,a4⟩:=p.2 i e he;have r:ce[i]?=some c:=zUs hc;have C:=Wv rk a3 a1;have a5:ce.getD i default=c:=by simp[qV,r]
     have J:jf G w.heap (I.set i (k,e.2)) (ce.modify i fun e=>{ e with key:=T }).toList:=by
      refine⟨by simpa using p.1,fun j x hx=>?_⟩;rcases vA hx with ⟨rfl,rfl⟩|⟨ab,hx⟩
      .grind
      .obtain ⟨e',ad,h1,h2⟩:=p.2 j x hx
       grind
     have R:=WA g i (fun e=>{ e with key:=T }) (fun _=>rfl);have a6:c.born=i:=g i c r;have U:=sL s hm hb hh J R;refine⟨.tuple #[c.val,.int .i64 i],_,G,?_,U,tup2 (U.vrel s a4) (.sc _ rfl)⟩;simp only[zg,a5]at l;simp[Instr.mapEntry,run_underlying hu,hg,a0,l,r,WB C,wI hh,goInt,a6]
    .rename_i hf
     obtain⟨l,_⟩:=Ql rk o p hf;cases hz:qx P et with
     |none=>simp[hz]at h
     |some z0 =>
      simp only[hz,zg,qr,vU]at h;obtain⟨rfl,rfl⟩:=h;obtain⟨zv,a7,rfl⟩:=Zq hz w;have J:=Wz p rk (VRel.ofV (G:=G) (h:=w.heap) zv) ce.size;have R:=pD g { key:=T,val:=zv,born:=ce.size } rfl;have U:=sL s hm hb hh J R;refine⟨.tuple #[zv,.int .i64 I.length],_,G,?_,U,tup2 (.ofV zv) (.sc _ rfl)⟩;simp only[Option.map_none]at l;simp[Instr.mapEntry,run_underlying hu,hg,a0,l,a7,wI hh,goInt,a2]
    grind
   grind
  grind
 grind
@[go_sem] def WC(mu:Mu)(m g v:AV):Option Mu:=
 match m,g with
 | .mp b,.sc (.int _ i)=>match mu[b]? with
  |some (.mp I)=>if 0<=i then (I[i.toNat]?).map fun e=>mu.set b (.mp (I.set i.toNat (e.1,v))) else none
  |_=>none
 |_,_=>none
theorem qgA(s:Sim G mu w.heap){t m st v vm vs o}(rm:VRel G w.heap m vm)(rs:VRel G w.heap st vs)(rv:VRel G w.heap v o)(h:WC mu m st v=some mu') :
  ∃ w',(Instr.entryStore t vm vs o).run P w = .ok () w'/\Stp G mu w G mu' w':=by
 unfold WC at h;split at h
 .rename_i b q i
  split at h
  .rename_i I hm
   split at h
   .rename_i a1
    cases p:I[i.toNat]? with
    |none=>simp[p]at h
    |some e =>
     simp only[p,zg,qr]at h;subst h;obtain⟨mb,a2,ce,rfl,hb,r,C,g⟩:=VN s rm hm;cases rs;have hg:=uR (P:=P) r;obtain⟨c,hc,a3,a4⟩:=C.2 _ e p;have J:ce[i.toNat]?=some c:=zUs hc;have R:i.toNat<ce.size:=(yv.1 J).1;have l:ce.findIdx? (fun e=>(e.born:Int) == i)=some i.toNat:=by
      rw[Array.findIdx?_eq_some_iff_getElem];refine⟨R,?_,fun j hj=>?_⟩
      .grind
      .have:ce[j].born=j:=g j _ (by simp[show j<ce.size by omega])
       simp[this];omega
     have T:jf G w.heap (I.set i.toNat (e.1,v)) (ce.modify i.toNat fun e=>{ e with val:=o }).toList:=by
      refine⟨by simpa using C.1,fun j x U=>?_⟩;rcases vA U with ⟨rfl,rfl⟩|⟨a5,U⟩
      .grind
      .obtain ⟨e',a6,h1,h2⟩:=C.2 j x U
       grind
     have a0:=WA g i.toNat (fun e=>{ e with val:=o }) (fun _=>rfl);refine⟨_,?_,sL s hm hb r T a0⟩;simp[Instr.entryStore,hg,asInt,asIntOf,l,wI r]
   grind
  grind
 grind
theorem qgB(s:Sim G mu w.heap){t}:Good P G mu w (Instr.makeMap t none) (.mp mu.length) (mu++[.mp []]):=by
 have U:=sR s (.map #[] 0) (.mp []) 0 (fun _=>⟨#[],0,rfl,rfl,zSp,zSp,rfl,zSp⟩);refine⟨.map (some w.heap.size),_,_,?_,U,.mp _ w.heap.size 0 ?_⟩
 .simp [Instr.makeMap]
 .show (G.blk++[_])[mu.length]?=_
  rw[<-s.len];simp
@[go_sem] def VO(P:qf)(mu:Mu)(t:j1)(m:AV):Option (AV×Mu):=
 match mapT P t,m with
 |some _,.im I=>some (.ptr mu.length 0,mu++[.it I []])
 |some _,.ims I=>some (.ptr mu.length 0,mu++[.it I []])
 |some _,.sc (.map none)=>some (.ptr mu.length 0,mu++[.it [] []])
 |_,_=>none
theorem qgC(s:Sim G mu w.heap){t m z T}(i:VRel G w.heap m T)(h:VO P mu t m=some (z,mu')):Good P G mu w (Instr.range t T) z mu':=by
 unfold VO at h;split at h
 .rename_i l I o
  obtain⟨kt,et⟩:=l;have p:=Zs o;simp only[qr,vU]at h;obtain⟨rfl,rfl⟩:=h;have j:=i;cases i with
  |im _ g ce clock r C hn hk hv hd =>
  have U:=sR s (.mapIter (some g) clock #[] clock) (.it I []) 0 (fun h => .inl ⟨g,I,id,id,ce,clock,j,r,C,PIx.refl I,zSp,zSp⟩);refine⟨.pointer (some ⟨w.heap.size,0,none⟩),_,_,?_,U,.ptr _ 0 w.heap.size 0 ?_⟩
  .have J:=uR (P:=P) r
   simp[Instr.range,run_underlying p,J]
  .show (G.blk++[_])[mu.length]?=_
   rw[<-s.len];simp
 .rename_i l I o
  obtain⟨kt,et⟩:=l;have p:=Zs o;simp only[qr,vU]at h;obtain⟨rfl,rfl⟩:=h;cases i with
  |ims _ R σ τ _ hp a0 i =>
  have j:=i;cases i with
  |im _ g ce clock r C hn hk hv hd =>
  have U:=sR s (.mapIter (some g) clock #[] clock) (.it I []) 0 (fun h => .inl ⟨g,R,σ,τ,ce,clock,j,r,C,hp,zSp,zSp⟩);refine⟨.pointer (some ⟨w.heap.size,0,none⟩),_,_,?_,U,.ptr _ 0 w.heap.size 0 ?_⟩
  .have J:=uR (P:=P) r
   simp[Instr.range,run_underlying p,J]
  .show (G.blk++[_])[mu.length]?=_
   rw[<-s.len];simp
 .rename_i l o
  obtain⟨kt,et⟩:=l;have p:=Zs o;simp only[qr,vU]at h;obtain⟨rfl,rfl⟩:=h;cases i;have U:=sR s (.mapIter none 0 #[] 0) (.it [] []) 0 (fun _ => .inr ⟨rfl,rfl⟩);refine⟨.pointer (some ⟨w.heap.size,0,none⟩),_,_,?_,U,.ptr _ 0 w.heap.size 0 ?_⟩
  .simp [Instr.range,run_underlying p]
  .show (G.blk++[_])[mu.length]?=_
   rw[<-s.len];simp
 grind
def WD(mu:Mu)(g:AV)(K:AV->Mu->Prop):Prop:=
 ∃ b I seen,g = .ptr b 0/\mu[b]?=some (.it I seen) /\
  (∀(i:Nat) e,I[i]?=some e->i ∉ seen->K (.tup [.sc (.bool true),e.1,e.2]) (mu.set b (.it I (seen++[i])))) /\
  ((∀ i,i<I.length->i∈seen)->K (.tup [.sc (.bool false)]) mu)
theorem tup1{y u}(i:VRel G h y u):VRel G h (.tup [y]) (.tuple #[u]):=by
 refine .tup _ _ rfl (fun k c g=>?_);cases k with
 |zero=>simp at g;subst g;exact i
 |succ k=>simp at g
theorem tup3{x y z t u v}(i:VRel G h x t)(j:VRel G h y u)(l:VRel G h z v):VRel G h (.tup [x,y,z]) (.tuple #[t,u,v]):=by
 refine .tup _ _ rfl (fun k c g=>?_)
 match k,g with
 | 0,g=>simp at g;subst g;exact i
 | 1,g=>simp at g;subst g;exact j
 | 2,g=>simp at g;subst g;exact l
 |k+3,g=>simp at g
theorem qgD(s:Sim G mu w.heap){an vi ty}(ri:VRel G w.heap an vi){K}(h:WD mu an K) :
  ∃ z mu',K z mu'/\Good P G mu w (Instr.next vi false ty) z mu':=by
 obtain⟨b,I,seen,rfl,hm,h1,h2⟩:=h;cases ri with
 |ptr _ _ p ao hb =>
 obtain⟨o,ho,ag⟩:=s.obj b _ p ao hm zSp hb;have b2:p<w.heap.size:=(yv.1 ho).1;rcases ag with ⟨m,a1,σ,τ,g,l,rm,a6,hi,C,a2,rfl⟩|⟨rfl,rfl⟩
 .cases rm with
  |im _ _ ce clock ab a7 aq hk hv hd =>
  rw[a6]at ab;obtain⟨rfl,rfl⟩:g=ce/\l=clock:=zUs ab;have hn:g.size=I.length:=by rw[aq];exact C.1
  have ar:∀ j,j<I.length->g[j]?=some (g.getD j default):=fun j hj=>by
   simp_all
  generalize au:(seen.map fun i=>(g.getD (σ i) default).born)=sn at ho;have ad:∀ j,j<I.length->((g.getD j default).born∈sn↔τ j∈seen):=by
   intro j hj;rw[<-au,qi];constructor
   .rintro ⟨i,a7,b3⟩
    have h1:=C.2 i (a2 i a7);have:=hd.2 _ _ _ _ (ar _ h1.1) (ar j hj) b3
    grind
   .intro b4
    exact⟨τ j,b4,by simp only[(C.2 j hj).2.2.2.1]⟩
  have a3:(getObj p).run P w = .ok (.mapIter (some m) l sn.toArray l) w:=by simp[getObj,Sem.run,ho]
  have ah:=uR (P:=P) a6;have J:(!sn.toArray.isEmpty&&!g.isEmpty&&g.all fun e=>decide (e.born>=l))=false:=by
   by_cases bb:g.size=0
   .grind
   .have:(g.all fun e=>decide (e.born>=l))=false:=by
     cases hq:(g.all fun e=>decide (e.born>=l)) with
     |false=>rfl
     |true =>
      have h0:g[0]?=some (g[0]' zOm):=by simp[show 0<g.size by omega]
      have:=(Array.all_eq_true'.1 hq) _ (Array.mem_of_getElem? h0);have bc:=hd.1 0 _ h0
      grind
    rw[this];simp
  have av:∀(a:Array xa),(∀ e,e∈a->e∈g)->(a.filter fun e=>decide (e.born<l))=a/\(a.filter fun e=>decide (e.born>=l))=#[]:=by
   intro a ha;have hb:∀ e,e∈a->e.born<l:=by
    intro e he;obtain⟨k,hk⟩:=Array.mem_iff_getElem?.1 (ha e he);exact hd.1 k e hk
   simp_all
  obtain⟨ai,aj⟩:=av (g.filter fun e=>!sn.toArray.contains e.born) (fun e he=>(Array.mem_filter.1 he).1);generalize r:(g.filter fun e=>!sn.toArray.contains e.born)=left at ai aj;have a0:∀ e,e∈left->∃(k:Nat) (x:AV×AV),I[k]?=some x/\k ∉ seen/\e.born=(g.getD (σ k) default).born/\VRel G w.heap x.1 e.key/\VRel G w.heap x.2 e.val:=by
   intro e he;rw[<-r,Array.mem_filter]at he;obtain⟨k,aw⟩:=Array.mem_iff_getElem?.1 he.1;have a8:k<g.size:=(yv.1 aw).1;have a4:k<I.length:=zOm;have hx:a1[k]?=some (a1[k]' zOm):=by simp[show k<a1.length by omega]
   have a9:g.getD k default=e:=by simp[qV,aw]
   refine⟨τ k,_,by rw[<-C.back a4];exact hx,?_,by rw[(C.2 k a4).2.2.2.1,a9],by have:=hk k _ hx;rwa[a9]at this,by have:=hv k _ hx;rwa[a9]at this⟩;intro hs;have:=he.2;have h3:=(ad k a4).2 hs;rw[a9]at h3;simp[h3]at this
  by_cases a5:left=#[]
  ·
   have ax:∀ i,i<I.length->i∈seen:=by
    intro i hi;refine Classical.byContradiction fun ak=>?_
    obtain⟨q1,q2,q3,q4,q5⟩:=C.2 i hi;have a7:σ i<g.size:=zOm;have:g[σ i]∈left:=by
     rw[<-r,Array.mem_filter];refine⟨zSp,?_⟩;have h4:g.getD (σ i) default=g[σ i]:=by simp[qV,a7]
     have h3:g[σ i].born ∉ sn:=fun h=>ak (by rw[<-h4]at h;have:=(ad _ q1).1 h;rwa[q3]at this)
     simp[h3]
    rw[a5]at this;simp at this
   refine⟨_,_,h2 ax,?_⟩;refine sY s (v := .tuple #[.bool false]) ?_ (tup1 (.sc _ rfl));simp only[Instr.next,qM,a3,qP,ah,J,Bool.false_eq_true,if_false,r,a5];simp[Question.forced]
  .have R:0<left.size:=by
    rcases Nat.eq_zero_or_pos left.size with h|h
    .exact absurd (Array.eq_empty_of_size_eq_zero h) a5
    .exact h
   have ay:left.isEmpty=false:=by simp[Array.isEmpty];omega
   have ae:∀(n:Nat)(h:n<left.size),left[n]?=some left[n]:=fun n h=>zP1 h
   have key:∀(n:Nat)(T:j2)(b5:n<left.size),T.heap=w.heap->Stp G mu w G mu T->∃ z mu',K z mu'/\∃ v w' G',((do
     setObj p (.mapIter (some m) l (sn.toArray.push left[n].born) l)
     pure (.tuple #[.bool true,left[n].key,left[n].val]):Sem j3)).run P T = .ok v w'/\Stp G mu w G' mu' w'/\VRel G' w'.heap z v:=by
    intro n T b5 aa al;obtain⟨k,x,hx,ak,b6,r1,r2⟩:=a0 left[n] zSp;have b7:T.heap[p]?=some (.mapIter (some m) l sn.toArray l):=by rw[aa];exact ho
    have az:p<T.heap.size:=by rw[aa];exact b2
    have b8:VRel G T.heap (.im a1) (.map (some m)):=by rw[aa];exact .im _ m g _ a6 hi aq hk hv hd
    have a4:k<I.length:=(qg.1 hx).1;have U:=sW al.sim b (.it I seen) (.it I (seen++[k])) p ao (.mapIter (some m) l (sn++[(g.getD (σ k) default).born]).toArray l) hm zSp zSp hb (w':={ T with heap:=T.heap.setIfInBounds p (.mapIter (some m) l (sn++[(g.getD (σ k) default).born]).toArray l) }) zSp
     (Wx T p _ az) (fun j hj=>Wy T p j _ hj) rfl rfl rfl (.inl ⟨m,a1,σ,τ,g,l,b8,by rw[aa];exact a6,hi,C,fun i hi=>by
      rcases List.mem_append.1 hi with h|h
      .exact a2 i h
      .simp at h;subst h;exact a4,by rw[q9,au,List.map_singleton]⟩)
    have b0:(setObj p (.mapIter (some m) l (sn.toArray.push left[n].born) l)).run P T = .ok () { T with heap:=T.heap.setIfInBounds p (.mapIter (some m) l (sn++[(g.getD (σ k) default).born]).toArray l) }:=by
     simp[setObj,Sem.run,b7,b6]
    refine⟨_,_,h1 k x hx ak,.tuple #[.bool true,left[n].key,left[n].val],_,G,?_,al.trans s U,?_⟩
    .simp only[qM,b0,qP,zD]
    .have t:=al.trans s U
     exact tup3 (.sc _ rfl) (t.vrel s r1) (t.vrel s r2)
   have b9:∀(z:AV)(mu':Mu),True:=fun _ _=>trivial
   by_cases af:left.size<=1
   .obtain ⟨z,mu',a8,v,w',G',g1,g2,g3⟩:=key 0 w R rfl (Stp.refl s)
    refine⟨z,mu',a8,v,w',G',?_,g2,g3⟩;rw[<-g1];simp only[Instr.next,qM,a3,qP,ah,J,Bool.false_eq_true,if_false,r,ai,aj,ay];simp[Question.forced,af,ae 0 R]
   .obtain ⟨z,mu',a8,v,w',G',g1,g2,g3⟩:=key (w.tape w.drawn (.mapNext left.size) % left.size) w.drew (Nat.mod_lt _ R) rfl (Stp.drew s)
    refine⟨z,mu',a8,v,w',G',?_,g2,g3⟩;rw[<-g1];simp only[Instr.next,qM,a3,qP,ah,J,Bool.false_eq_true,if_false,r,ai,aj,ay];have b1:=Nat.mod_lt (w.tape w.drawn (.mapNext left.size)) R;simp[Question.forced,Question.cut,af,ae _ b1]
 .have a3:(getObj p).run P w = .ok (.mapIter none 0 #[] 0) w:=by simp[getObj,Sem.run,ho]
  refine⟨_,_,h2 (fun i hi=>by simp at hi),sY s (v := .tuple #[.bool false]) ?_ (tup1 (.sc _ rfl))⟩;simp[Instr.next,a3]
@[go_sem] def Zt(mu:Mu)(g:AV):Option AV:=
 match g with
 | .ptr b 0=>match mu[b]? with
  |some (.it I seen)=>match seen.getLast? with
   |some i=>(I[i]?).map fun e => .tup [e.1,e.2]
   |none=>none
  |_=>none
 |_=>none
theorem qgE(s:Sim G mu w.heap){R z vi}(ri:VRel G w.heap R vi)(h:Zt mu R=some z) :
  ∃ u,(Instr.entry vi).run P w = .ok u w/\VRel G w.heap z u:=by
 unfold Zt at h;split at h
 .rename_i b
  split at h
  .rename_i I seen hm
   split at h
   .rename_i i hi
    cases T:I[i]? with
    |none=>simp[T]at h
    |some x =>
     simp only[T,zg,qr]at h;subst h;cases ri with
     |ptr _ _ U a2 hb =>
     obtain⟨o,ho,r⟩:=s.obj b _ U a2 hm zSp hb;rcases r with ⟨m,a3,σ,τ,g,t,rm,a0,aa,a1,a4,rfl⟩|⟨rfl,rfl⟩
     .cases rm with
      |im _ _ ce clock p a5 a6 hk hv hd =>
      rw[a0]at p;obtain⟨rfl,rfl⟩:g=ce/\t=clock:=zUs p;have hn:g.size=I.length:=by rw[a6];exact a1.1
      obtain⟨q1,q2,q3,q4,q5⟩:=a1.2 i (qg.1 T).1;have C:a3[σ i]?=some x:=by rw[q5];exact T
      have l:(seen.map fun i=>(g.getD (σ i) default).born).toArray.back?=some ((g.getD (σ i) default).born):=zP1 hi;generalize (seen.map fun i=>(g.getD (σ i) default).born)=sn at ho l;generalize σ i=i at C l q1;have ab:(getObj U).run P w = .ok (.mapIter (some m) t sn.toArray t) w:=by simp[getObj,Sem.run,ho]
      have ad:=uR (P:=P) a0;have J:i<g.size:=zOm;have a7:g.getD i default=g[i]:=by simp[qV,J]
      rw[a7]at l;have a8:g.find? (fun e=>e.born == g[i].born)=some g[i]:=by
       rw[Array.find?_eq_some_iff_getElem];refine⟨zSp,i,J,rfl,fun j hj=>?_⟩;have a9:j<g.size:=zOm;have:g[j].born≠g[i].born:=fun h=>by
        have:=hd.2 j i _ _ (zP1 a9) (zP1 J) h;omega
       simp[this]
      have r1:=hk i x C;have r2:=hv i x C;simp_all[Instr.entry,tup2]
     .simp at T
   grind
  grind
 grind
end
end Go.Ev
namespace Go.Ev
open Go Go.RowKit
section
variable {mu:Mu}{w:j2}
theorem qgF{P G}(s:Sim G mu w.heap){x v ys sz}(r:VRel G w.heap x v)(h:qz mu x=some ys)(hz:zc sz ys)(n)(hn:n<=ys.length) :
  ∃(news:List j3),news.length=n*sz/\(∀ u∈news,u.oneCell'=true)/\(∀(k) y,(ys.take n).flatten[k]?=some y->VRel G w.heap y (news.getD k wg)) /\
   (Builtin.lenOf v).run P w = .ok ys.length w/\(Builtin.firstCells sz n v).run P w = .ok news.toArray w:=by
 have l:zc sz (ys.take n):=fun r hr=>hz r (ui hr)
 have a2:(ys.take n).flatten.length=n*sz:=by rw[yD l.ok];simp[Nat.min_eq_left hn]
 have o:∀(k:Nat) y,(ys.take n).flatten[k]?=some y->ys.flatten[k]?=some y:=by
  grind [List.flatten_append,vS,qG,qg]
 have fin:∀(a:Addr)(cap:Nat)(rd:Nat->j3),(∀(k:Nat) y,ys.flatten[k]?=some y->w.cell? (a.add k)=some (rd k)/\VRel G w.heap y (rd k))->v = .slice (some a) ys.length cap ->
   ∃(news:List j3),news.length=n*sz/\(∀ u∈news,u.oneCell'=true)/\(∀(k:Nat) y,(ys.take n).flatten[k]?=some y->VRel G w.heap y (news.getD k wg)) /\
   (Builtin.lenOf v).run P w = .ok ys.length w/\(Builtin.firstCells sz n v).run P w = .ok news.toArray w:=by
  intro a cap rd R T;subst T;have t:∀ k,k<n*sz->∃ y,(ys.take n).flatten[k]?=some y:=fun k hk=>⟨(ys.take n).flatten[k]' zOm,zSp⟩
  refine⟨(qq (n*sz)).map rd,zSp,?_,?_,by simp[Builtin.lenOf],?_⟩
  .intro u hu
   obtain⟨k,hk,rfl⟩:=qi.1 hu;obtain⟨y,i⟩:=t k (zUs hk);exact(R k y (o k y i)).2.one (l.one y (qU i))
  .grind
  grind [Builtin.firstCells,run_loadCells]
 unfold qz at h;split at h
 .rename_i full p
  simp only[qr]at h;subst h;cases r with
  |nil =>
   simp_all[List.length_nil,Nat.le_zero,Builtin.lenOf,Builtin.firstCells]
  |emp _ a cap U=>simp_all
  |lst _ _ g a cap cs e fr rd hb hs hl U hi a4 hr T =>
   exact fin a cap rd (fun k y i=>⟨by grind [Zr],T k y i⟩) rfl
 .rename_i b g off len
  split at h
  .rename_i cells U
   split at h
   .rename_i a5
    simp only[qr]at h;cases r with
    |sl _ _ _ _ j a0 cap hb ht hl =>
    obtain⟨arr,e,h1,h2,h3,h4⟩:=s.arr b cells j a0 U hb;have C:ys.length=len:=by rw[<-h];simp
    subst C;by_cases h0:ys.length=0
    .simp_all
    .have I:g=sz:=by
      have J:0<ys.length:=zOm;have hm:(cells.drop (off+0*g)).take g∈ys:=by
       rw[<-h];exact qi.2 ⟨0,zUs J,rfl⟩
      have:=(hz _ hm).1;have a3:g<=ys.length*g:=Nat.le_mul_of_pos_left _ J;simp at this;omega
     subst I;have a1:ys.flatten=(cells.drop off).take (ys.length*g):=by
      grind [Wr,List.drop_drop]
     refine fin ⟨j,off,none⟩ cap (fun k=>arr.getD (off+k) wg) (fun k y i=>?_) rfl;rw[a1,jW]at i;split at i
     .rw [vT]at i
      refine⟨?_,(h4 _ y i).2⟩;rw[Zr (a:=⟨j,off,none⟩) h1 rfl];have a6:off+k<cells.length:=(qg.1 i).1;have:off+k<arr.size:=zOm;simp[qV,this]
     grind
   grind
  grind
 grind
theorem sZ{G}(s:Sim G mu w.heap){b off g i cells xs arr e news}(t:mu[b]?=some (.arr cells))(C:G.blk[b]?=some (g,i))
  (I:w.heap[g]?=some (.cells arr e (0,0))) (T:arr.size=i) (U:cells.length<=i) (h4:∀(j) x,cells[j]?=some x->x.one=true/\VRel G w.heap x (arr.getD j wg))
  (l:off+xs.length<=cells.length) (hn:news.length=xs.length) (p:∀ x,x∈xs->x.one=true) (hx:∀(k) x,xs[k]?=some x->VRel G w.heap x (news.getD k wg)) :
  Stp G mu w G (mu.set b (.arr (putCells cells off xs))) (w.setRow g (arr.toList.take off++news++arr.toList.drop (off+news.length)).toArray):=by
 refine sW s b (.arr cells) _ g i (.cells (arr.toList.take off++news++arr.toList.drop (off+news.length)).toArray e (0,0)) t zSp zSp C zSp (setRow_heap w g arr _ e _ I)
  (fun k J=>setRow_other w g k _ J) rfl rfl rfl ?_
 refine⟨_,e,rfl,zSo,by grind [yY],?_⟩;intro j y r;rw[yY _ _ _ l,zy]at r;rw[Wq,zC,zy];have P:(arr.toList.take off).length=off:=zSo;have R:(cells.take off).length=off:=zSo;by_cases o:j<off
 .rw [zGa,jW,if_pos o]at r
  rw[zGa,jW,if_pos o,ZW,<-qV]
  grind
 grind [zE,qG,qU,qV]
def delE(es:List (AV×AV)):Option Nat->List (AV×AV)
 |some i=>es.eraseIdx i
 |none=>es
inductive ExtB (P:qf) (mu:Mu):Builtin->Array j1->List AV->AV->Mu->Prop where
 |copy {t t' e:j1} {sz sz0 bt b off len:Nat} {cells:List AV} {ys:List (List AV)} {x:AV} (hs:qE P t=some (e,sz,bt)) (hc:mu[b]?=some (.arr cells)) (hl:off+len*sz<=cells.length)
   (hr:qz mu x=some ys) (hw:zc sz ys) :
   ExtB P mu .copy #[t,t'] [.sl b sz0 off len,x] (.sc (.int .i64 ((min ys.length len:Nat):Int))) (mu.set b (.arr (putCells cells off (ys.take len).flatten)))
 |clear {t e:j1} {sz bt b off len:Nat} {cells:List AV} {zv:AV} (hs:qE P t=some (e,sz,bt)) (hz:qx P e=some zv) (hz1:zv.cells.length=sz) (hz2:zv.cells.all AV.one=true) (hz0:sz≠0) (hc:mu[b]?=some (.arr cells)) (hl:off+len*sz<=cells.length) (hp:0<len) :
   ExtB P mu .clear #[t] [.sl b sz off len] (.tup []) (mu.set b (.arr (putCells cells off ((qq (len*sz)).map fun i=>zv.cells.getD (i % sz) .any))))
 |delete {t t' kt et:j1} {b:Nat} {es:List (AV×AV)} {k:AV} {r:Option Nat} (ht:mapT P t=some (kt,et)) (hc:mu[b]?=some (.mp es)) (hk:je P kt k=true) (hf:zj P kt k es 0=some r) :
   ExtB P mu .delete #[t,t'] [.mp b,k] (.tup []) (mu.set b (.md (delE es r)))
theorem qgG{P G mu'}(s:Sim G mu w.heap){b a6 ty cs args j z}
  (hn:j.size=args.length) (hr:∀(k) x,args[k]?=some x->VRel G w.heap x (j.getD k wg)) (h:ExtB P mu b a6 args z mu') :
  ∃ u w',(builtin b a6 ty cs j).run P w = .ok (.value u) w'/\Stp G mu w G mu' w'/\VRel G w'.heap z u:=by
 cases h with
 | @copy t t' e g b0 bt b off len cells C x hs hc hl ah hw =>
  have r0:=hr 0 _ rfl;have r1:=hr 1 _ rfl;have J:j=#[j.getD 0 wg,j.getD 1 wg]:=by
   have h2:j.size=2:=zUs hn;apply Array.ext
   .simpa using h2
   .intro i hi ai
    have:i=0\/i=1:=zOm;rcases this with rfl|rfl<;>simp[qV,hi]
  generalize j.getD 0 wg=u0 at *
  generalize j.getD 1 wg=u1 at *
  subst J;obtain⟨aj,hu,a7,ak,al⟩:=vW hs;have b1:szOf P e=some g:=by grind [szOf]
  obtain⟨o,a8,a2,a9,av,aw⟩:=qgF (P:=P) s r1 ah hw (min C.length len) (Nat.min_le_left _ _);have a3:C.take (min C.length len)=C.take len:=by
   rcases Nat.le_total C.length len with h|h
   .grind
   .rw [Nat.min_eq_right h]
  rw[a3]at a9;have aa:zc g (C.take len):=fun r hr=>hw r (ui hr)
  have ax:(C.take len).flatten.length=min C.length len*g:=by
   rw[yD aa.ok,uP,Nat.min_comm]
  cases r0 with
  |sl _ _ _ _ R a0 cap hb ht an =>
   obtain⟨arr,el,h1,h2,h3,h4⟩:=s.arr b cells R a0 hc hb;have b2:min C.length len*g<=len*g:=Nat.mul_le_mul_right _ (Nat.min_le_right _ _);have U:=sZ s (off:=off) (xs:=(C.take len).flatten) (news:=o) hc hb h1 h2 h3 h4 zOm zOm aa.one a9;have T:=run_storeCells_at P R off el o 0 arr w h1 zOm a2;simp only[Nat.add_zero]at T;refine⟨_,_,?_,U,.sc _ rfl⟩;have ay:Nat.min C.length len=min C.length len:=rfl;simp only[builtin,Builtin.copy_,qM,zD,goInt];simp_all[uO,Vq,vw,run_underlying,jr]
 | @clear t e g bt b off len cells zv hs hz ao b3 b4 hc hl hp =>
  have r0:=hr 0 _ rfl;have J:j=#[j.getD 0 wg]:=by
   have h2:j.size=1:=zUs hn;apply Array.ext
   .simpa using h2
   simp_all
  generalize j.getD 0 wg=u0 at *
  subst J;obtain⟨aj,hu,a7,ak,al⟩:=vW hs;obtain⟨z,b5,rfl⟩:=Zq hz w;have ab:∀ c,c∈(ofV z).cells->c.one=true:=fun c hc=>by grind
  obtain⟨c1,c2,c3⟩:=(VRel.ofV (G:=G) (h:=w.heap) z).cells ab;have aq:z.cells.size=g:=by rw[c1,ao]
  have a8:(yQ z.cells len).toList.length=len*g:=by simp[yQ,aq]
  have az:∀ i:Nat,i % g<g:=fun i=>Nat.mod_lt i zOm
  have ad:∀ i,i<len*g->(yQ z.cells len).toList.getD i wg=z.cells.getD (i % g) wg:=by
   simp_all[yQ,zC,qV,getElem!_pos,Zm]
  cases r0 with
  |sl _ _ _ _ R a0 cap hb ht an =>
   obtain⟨arr,el,h1,h2,h3,h4⟩:=s.arr b cells R a0 hc hb;have a2:∀ v,v∈(yQ z.cells len).toList->v.oneCell'=true:=by
    intro v hv;obtain⟨i,hi⟩:=List.mem_iff_getElem?.1 hv;have ar:i<len*g:=by grind
    have:=ad i ar;rw[zC,hi]at this;simp only[Option.getD_some]at this;simp_all
   have b6:∀(k:Nat) x,((qq (len*g)).map fun i=>(ofV z).cells.getD (i % g) .any)[k]?=some x->k<len*g/\(ofV z).cells[k % g]?=some x:=by
    grind
   have U:=sZ s (off:=off) (xs:=(qq (len*g)).map fun i=>(ofV z).cells.getD (i % g) .any) (news:=(yQ z.cells len).toList) hc hb h1 h2 h3 h4 (zUs hl) (by rw[a8];simp)
    (fun x hx=>by
     grind)
    (fun k x hx=>by
     grind)
   have T:=run_storeCells_at P R off el (yQ z.cells len).toList 0 arr w h1 zOm a2;simp only[Nat.add_zero]at T;refine⟨_,_,?_,U,.tup [] #[] rfl zSp⟩;obtain⟨l,rfl⟩:∃ l,len=l+1:=⟨len-1,zOm⟩;simp_all[builtin,Builtin.clear_,qM,uO,Vq,run_underlying]
 | @delete t t' kt et b I k r ht hc ae hf =>
  have r0:=hr 0 _ rfl;have r1:=hr 1 _ rfl;have J:j=#[j.getD 0 wg,j.getD 1 wg]:=by
   have h2:j.size=2:=zUs hn;apply Array.ext
   .simpa using h2
   .intro i hi ai
    have:i=0\/i=1:=zOm;rcases this with rfl|rfl<;>simp[qV,hi]
  generalize j.getD 0 wg=u0 at *
  generalize j.getD 1 wg=u1 at *
  subst J;have hu:=Zs ht;obtain⟨mb,a0,ce,rfl,hb,hh,a4,a5⟩:=VN s r0 hc;have af:(Instr.checkKey ce.isEmpty 10000 kt u1).run P w = .ok () w:=Jj _ r1 ae;have hg:=uR (P:=P) hh;obtain⟨a1,au⟩:=Ql r1 ae a4 hf;have ag:jY ce ce.size := .of rfl a5;cases r with
  |none =>
   refine⟨_,_,?_,sQ s hc zSp hb hh a4 ag,.tup [] #[] rfl zSp⟩;simp only[Option.map_none]at a1;simp[builtin,Builtin.delete_,run_underlying hu,hg,af,a1,wI hh]
  |some i =>
   refine⟨_,_,?_,sQ s hc zSp hb hh (qf8 a4 (au i rfl)) (qf7 ag i),.tup [] #[] rfl zSp⟩;simp only[zg]at a1;simp[builtin,Builtin.delete_,run_underlying hu,hg,af,a1,wI hh]
end
end Go.Ev
namespace Go.Ev
open Go Go.RowKit
section
variable {P:qf}
theorem pF{g k x}:∀{es i r},zj P g k es i=some r->(r.isSome=true->zj P g k (es++[x]) i=some r)/\(r=none->zj P g k (es++[x]) i=zj P g k [x] (i+es.length))
 | [],i,r,h=>by
  grind [zj]
 |e :: es,i,r,h=>by
  unfold zj at h;split at h
  .rename_i j
   simp only[qr]at h;subst h;refine⟨fun _=>?_,fun h=>absurd h zSp⟩;rw[yw,zj,j]
  .rename_i j
   obtain⟨o,p⟩:=pF (x:=x) h;refine⟨fun l=>?_,fun l=>?_⟩
   .rw [yw,zj,j];exact o l
   .rw [yw,zj,j]
    simp only;rw[p l,zz];congr 1;omega
  .exact absurd h zSp
theorem pG{mu mu' t m k z l k' v}(h:Z4 P mu t m k=some (z,mu'))(j:jk P mu t l k' false=some v):jk P mu' t l k' false=some v:=by
 unfold Z4 at h;split at h
 .rename_i b kt et ht
  split at h
  .rename_i I hm
   split at h
   .rename_i J
    split at h
    ·
     rename_i i hf;obtain⟨_,e,U,R⟩:=Jk hf;simp only[Nat.sub_zero]at U;simp only[U,zg,qr,vU]at h;have e1:I.set i (k,e.2)=I:=by
      rw[R];apply jy
      grind
     rw[e1]at h;have e2:mu.set b (.mp I)=mu:=by
      apply jy
      grind
     grind
    .rename_i hf
     cases T:qx P et with
     |none=>simp[T]at h
     |some C =>
      simp only[T,zg,qr,vU]at h;obtain⟨_,rfl⟩:=h;have a0:b<mu.length:=(qg.1 hm).1;unfold jk at j⊢;rw[ht]at j⊢
      have key:jN (mu.set b (.mp (I++[(k,C)]))) l=jN mu l\/(jN mu l=some I/\jN (mu.set b (.mp (I++[(k,C)]))) l=some (I++[(k,C)])):=by
       unfold jN;split
       .exact .inl rfl
       .rename_i b'
        by_cases o:b=b'
        .grind
        grind
       .exact .inl rfl
       .exact .inl rfl
      rcases key with key|⟨k1,k2⟩
      .grind
      .rw [k1]at j
       rw[k2];simp only at j⊢;split at j
       .rename_i g
        rw[if_pos g];cases p:zj P kt k' I 0 with
        |none=>grind
        |some r =>
         rw[p]at j;obtain⟨a1,a2⟩:=pF (x:=(k,C)) p;cases r with
         |some i =>
          rw[a1 rfl]
          grind
         |none =>
          rw[a2 rfl];simp only[T,zg]at j;obtain⟨bb,o⟩:=pz g J;rw[zj,o];cases bb with
          |true =>
           grind
          |false =>
           grind [zj]
       grind
    grind
   grind
  grind
 grind
theorem qgH{mu mu' t m k z i k' v}(h:Z4 P mu t m k=some (z,mu'))(g:yj P mu t i k' false=some v):yj P mu' t i k' false=some v:=by
 cases i with
 |ims I =>
  simp only[yj]at g⊢;cases j:mapT P t with
  |none=>grind
  |some q =>
   rw[j]at g;simp only at g⊢;split at g
   .rename_i l
    rw[if_pos l];exact pG h g
   grind
 |_=>exact pG h g
end
end Go.Ev
namespace Go.Ev
open Go Go.RowKit
section
variable {x:AV}{K:AV->Prop}{h:Array Obj}{g:Array j3}{G:Gh}{xs:List (List AV)}{mu:Mu}{P:qf}{t:j1}{w:j2}
@[go_sem] def wJ(P:qf)(op:BinOp)(t:j1)(x y:AV):Option AV:=
 match x,y with
 | .agg p,.agg i=>match Vz P t with
  |some n=>if p.length=n then (match op with
   | .eql=>(aEqs p i).map fun b => .sc (.bool b)
   | .neq=>(aEqs p i).map fun b => .sc (.bool !b)
   |_=>none) else none
  |none=>none
 |x,y=>aBin P op t x y
theorem qgI{n}(h:Vz P t=some n):P.eqGuardType P.depth t=false/\((∃ e q,P.underlying t=some (.array n e)/\P.underlying e=some (.int q)/\szOf P e=some 1) \/
  ∃ fs,P.underlying t=some (.struct fs)/\ZX P fs.toList 0=true/\P.stoodInHeld t=false/\fs.size=n):=by
 unfold Vz at h;split at h
 .grind
 .grind
 grind
theorem qgJ{op y z ox oy u v}(o:VRel G w.heap x u)(C:VRel G w.heap y v)(h:wJ P op t x y=some z) :
    ∃ r,(do eqGuard op t ox oy u v;binOp op t u v:Sem j3).run P w = .ok r w/\VRel G w.heap z r:=by
  unfold wJ at h;split at h
  · rename_i p i
    split at h
    · rename_i n I
      obtain⟨hg,I⟩:=qgI I;split at h
      · rename_i hl
        have g:=o;have j:=C;cases o with
        |agg _ J hn hv =>
        cases C with
        |agg _ R hm hw =>
        have T:(eqGuard op t ox oy (.agg J) (.agg R)).run P w = .ok () w:=run_eqGuard_agg w op t ox oy J R hg;simp only[qM,T,qP];have heq:∀ b,aEqs p i=some b->(Op.equal t (.agg J) (.agg R)).run P w = .ok b w:=fun b l=>by
          rcases I with ⟨e,q,U,he,hs⟩|⟨fs,U,hf,hp,a0⟩
          · exact pu (G:=G) 9998 U he hs hl g j l
          · exact qfS (G:=G) 9998 U hf hp zOm g j l
        cases op<;>simp only at h<;>first
          | (simp at h;done)
          | (cases l:aEqs p i with
             |none=>simp[l]at h
             |some b =>
               simp only[l,zg,qr]at h;subst h;refine⟨_,?_,.sc _ rfl⟩;simp_all[binOp])
      grind
    grind
  · exact qe6 o C h
def uS:uk->Bool
 | .const (.slice none 0 0)=>true
 |_=>false
def jO(P:qf)(det:Bool)(op:BinOp)(t:j1)(x:AV)(K:AV->Prop):Prop:=
 (qE P t).isSome=true/\(op = .eql\/op = .neq) /\
 match x with
 | .lst _ []=>det=false/\K (.sc (.bool true))/\K (.sc (.bool false))
 | .lst _ (_ :: _) | .sl .. => K (.sc (.bool (decide (op = .neq))))
 |_=>False
theorem qgK(d){t e}(g:P.underlying t=some (.slice e))(b len cap) :
  (Op.equalIn (d+1) t (.slice b len cap) (.slice none 0 0)).run P w = .ok b.isNone w:=by
 cases b<;>simp[Op.equalIn,run_underlying g]
theorem jO.sound{det op ox oy u}(I:VRel G w.heap x u)(h:jO P det op t x K) :
  ∃ z r,K z/\(do eqGuard op t ox oy u (.slice none 0 0);binOp op t u (.slice none 0 0):Sem j3).run P w = .ok r w/\VRel G w.heap z r:=by
 obtain⟨hs,J,h⟩:=h;obtain⟨e,R⟩:∃ e,P.underlying t=some (.slice e):=by
  grind [qE,vW]
 have key:∀(b:Option Addr)(len cap:Nat),u = .slice b len cap->(do eqGuard op t ox oy u (.slice none 0 0);binOp op t u (.slice none 0 0):Sem j3).run P w = .ok (.bool (if op = .neq then b.isSome else b.isNone)) w:=by
  intro b len cap l;subst l;have T:(eqGuard op t ox oy (.slice b len cap) (.slice none 0 0)).run P w = .ok () w:=by
   simp_all[eqGuard]
  have U:(Op.equal t (.slice b len cap) (.slice none 0 0)).run P w = .ok b.isNone w:=qgK 9999 R b len cap;rcases J with rfl|rfl
  .simp [T,binOp,U]
  simp_all[binOp]
 have fin:∀(b:Bool),K (.sc (.bool b))->∀(c:Option Addr)(len cap:Nat),u = .slice c len cap->(if op = .neq then c.isSome else c.isNone)=b ->
   ∃ z r,K z/\(do eqGuard op t ox oy u (.slice none 0 0);binOp op t u (.slice none 0 0):Sem j3).run P w = .ok r w/\VRel G w.heap z r:=
  fun b hk c len cap l e2=>⟨_,_,hk,key c len cap l,by rw[e2];exact .sc _ rfl⟩
 cases I with
 |nil full =>
  obtain⟨_,o,C⟩:=h;by_cases j:op = .neq
  .grind
  grind
 |emp full a cap hc =>
  obtain⟨_,o,C⟩:=h;by_cases j:op = .neq
  .grind
  grind
 |lst full p g a cap cs e' fr rd hb a0 hl hc hi hz hr hv =>
  cases p with
  |nil =>
   obtain⟨_,o,C⟩:=h;by_cases j:op = .neq
   .grind
   grind
  |cons y i =>
   refine fin _ h (some a) _ cap rfl ?_;by_cases j:op = .neq
   .simp
   simp
 |sl b g off len a1 a2 cap hb ht hl =>
  refine fin _ h (some _) _ cap rfl ?_;by_cases j:op = .neq
  .simp
  simp
 |_=>exact h.elim
theorem jO.det{op}(h:jO P true op t x K):∃ z,K z/\∀ g,g z->jO P true op t x g:=by
 obtain⟨j,i,h⟩:=h;unfold jO;split at h
 .grind
 .grind
 .grind
 grind
theorem jO.mono{det op i}(h:jO P det op t x K)(j:∀ z,K z->i z):jO P det op t x i:=by
 obtain⟨l,g,h⟩:=h;unfold jO;refine⟨l,g,?_⟩;split at h
 .grind
 .exact j _ h
 .exact j _ h
 omega
theorem qgL{y}(h:uS y=true):y = .const (.slice none 0 0):=by
 grind [uS,absurd]
def WK(x y:AV):Prop:=∀(G:Gh)(h:Array Obj)(v:j3),VRel G h x v->VRel ⟨G.imm,[]⟩ h y v
theorem WK.hf(h:HF x):WK x x:=h
theorem VRel.ro{full v}(r:VRel G h (.lst full xs) v):VRel G h (.lst false xs) v:=by
 cases r with
 |nil=>exact .nil _
 |emp _ a cap i=>exact .emp _ a cap zSp
 |lst _ _ g a cap j e l rd o p t i C I J P=>exact .lst _ _ g a cap j e l rd o p t zSp C I J P
theorem WK.lst{full}(h:∀ r,r∈xs->∀ c,c∈r->HF c):WK (.lst full xs) (.lst false xs):=fun G g v r=>VRel.ro (HF.lst h G g v r)
theorem WK.agg{xs ys}(o:ys.length=xs.length)(h:∀(k:Nat) x y,xs[k]?=some x->ys[k]?=some y->WK x y):WK (.agg xs) (.agg ys):=fun G j v r=>by
 cases r with
 |agg _ p t l =>
  refine .agg _ _ zOm (fun k y g=>?_);have C:k<ys.length:=(qg.1 g).1;have i:xs[k]?=some (xs[k]' zOm):=by grind
  exact h k _ y i g G j _ (l k _ i)
def WKs:List AV->List AV->Prop
 | [],[]=>True
 |x :: p,y :: i=>WK x y/\WKs p i
 |_,_=>False
theorem WKs.get:∀{xs ys},WKs xs ys->ys.length=xs.length/\∀(k:Nat) x y,xs[k]?=some x->ys[k]?=some y->WK x y
 | [],[],_=>⟨rfl,zSp⟩
 |x :: xs,y :: ys,⟨h,t⟩=>by
  obtain⟨j,l⟩:=WKs.get t;refine⟨zP1 j,fun k a b g i=>?_⟩;cases k with
  |zero=>simp at g i;subst g;subst i;exact h
  |succ k=>exact l k a b (zUs g) (zUs i)
 | [],_ :: _,h=>h.elim
 |_ :: _,[],h=>h.elim
theorem WK.aggs{xs ys}(h:WKs xs ys):WK (.agg xs) (.agg ys) := .agg h.get.1 h.get.2
def Rds(mu:Mu):List AV->List AV->Prop
 | [],[]=>True
 |x :: p,y :: i=>Rd mu x y/\Rds mu p i
 |_,_=>False
theorem Rds.get:∀{xs ys},Rds mu xs ys->ys.length=xs.length/\∀(k:Nat) x y,xs[k]?=some x->ys[k]?=some y->Rd mu x y
 | [],[],_=>⟨rfl,zSp⟩
 |x :: xs,y :: ys,⟨h,t⟩=>by
  obtain⟨j,l⟩:=Rds.get t;refine⟨zP1 j,fun k a b g i=>?_⟩;cases k with
  |zero=>simp at g i;subst g;subst i;exact h
  |succ k=>exact l k a b (zUs g) (zUs i)
 | [],_ :: _,h=>h.elim
 |_ :: _,[],h=>h.elim
def MuLe(mu mu':Mu):Prop:=∀(b:Nat) c,mu[b]?=some c->mu'[b]?=some c
theorem MuLe.push(mu c):MuLe mu (mu++[c]):=fun b x h=>by grind
def Jl(P:qf)(mu:Mu)(f:AV)(args:List AV)(v:AV):Prop:=
 (∃ g first j i,f = .fn (.func g) first j/\qd P g i v/\(WKs (first++args++j) i\/(Rds mu (first++args++j) i/\FL v))) \/
 ∃ g first j i,f = .fn (.func g) first j/\qfN P g i v/\Rds mu (first++args++j) i
def Qm(P:qf)(i:Nat)(args:List AV)(mu:Mu)(R:Bool->Mu->Prop):Prop:=
 ∀(G:Gh)(w:j2)(r:Array j3),Sim G mu w.heap->zM G w.heap args r->∀(l p:Nat),G.blk[i]?=some (l,p) ->
  ∃ fn g assign o,(Instr.yield l r).run P w = .ok (.round l fn g assign o) w /\
   RoundIn Fence.wide 0 P l fn g assign o w fun e t=>∃ b C j,e = .returned (.bool b)/\Stp G mu w C j t/\R b j
def qc(P:qf)(det:Bool)(mu:Mu)(f:AV)(args:List AV)(K o:AV->Mu->Prop):Prop:=
 (∃ v,Jl P mu f args v/\K v mu) \/
 (det=false/\((∃ g first l R,f = .fn (.func g) first l/\qy P g (first++args++l) mu R/\(∀ r j,R (.ret r) j->K r j)/\(∀ r j,R (.pan r) j->o r j)) \/
  ∃ i R,f = .yl i/\Qm P i args mu R/\∀ b j,R b j->K (.sc (.bool b)) j))
def OptK{J:Type}(o:Option J)(k:J->Prop):Prop:=∃ v,o=some v/\k v
@[go_sem] def lenA(P:qf)(mu:Mu)(t:j1):AV->Option AV
 | .lst _ p=>if (qE P t).isSome then some (.sc (.int .i64 p.length)) else none
 | .sl _ _ _ len=>if (qE P t).isSome then some (.sc (.int .i64 len)) else none
 | .sc (.string s)=>match P.underlying t with|some .string=>some (.sc (.int .i64 s.size))|_=>none
 | .im I=>match P.underlying t with|some (.map _ _)=>some (.sc (.int .i64 I.length))|_=>none
 | .ims I=>match P.underlying t with|some (.map _ _)=>some (.sc (.int .i64 I.length))|_=>none
 | .mp b=>match P.underlying t,mu[b]? with|some (.map _ _),some (.mp I)=>some (.sc (.int .i64 I.length))|_,_=>none
 |_=>none
@[go_sem] def minA:AV->AV->Option AV
 | .sc (.int k x),.sc (.int _ y)=>some (.sc (.int k (if y<x then y else x)))
 |_,_=>none
@[go_sem] def maxA:AV->AV->Option AV
 | .sc (.int k x),.sc (.int _ y)=>some (.sc (.int k (if y > x then y else x)))
 |_,_=>none
@[go_sem] def um(P:qf)(mu:Mu)(b:Builtin)(g:Array j1)(args:List AV):Option AV:=
 match b,args,g[0]? with
 | .len,[x],some t=>lenA P mu t x
 | .cap,[.lst true p],some t=>if (qE P t).isSome then some (.sc (.int .i64 p.length)) else none
 | .min,[x,y],_=>minA x y
 | .max,[x,y],_=>maxA x y
 |_,_,_=>none
theorem WE(h:(qE P t).isSome=true):∃ e,P.underlying t=some (.slice e):=by
 grind [qE,vW]
theorem zM.one_inv(r:zM G h [x] g):∃ v,g=#[v]/\VRel G h x v:=by
 obtain⟨j,l⟩:=r;have:=l 0 x rfl;refine⟨g.getD 0 wg,?_,this⟩;have i:g.size=1:=zUs j;apply Array.ext
 .simpa using i
 simp_all
theorem zM.two_inv{y}(r:zM G h [x,y] g):∃ u v,g=#[u,v]/\VRel G h x u/\VRel G h y v:=by
 obtain⟨o,l⟩:=r;have a:=l 0 x rfl;have b:=l 1 y rfl;refine⟨g.getD 0 wg,g.getD 1 wg,?_,a,b⟩;have j:g.size=2:=zUs o;apply Array.ext
 .simpa using j
 .intro i p t
  have:i=0\/i=1:=zOm;rcases this with rfl|rfl<;>simp[qV,p]
theorem qgM(s:Sim G mu w.heap){t ty x z v}(r:VRel G w.heap x v)(h:lenA P mu t x=some z)(j)(o:j[0]?=some t) :
  ∃ u,(Builtin.len_ j ty #[v]).run P w = .ok u w/\VRel G w.heap z u:=by
 unfold lenA at h;split at h
 .split at h
  .rename_i p
   simp only[qr]at h;subst h;obtain⟨e,i⟩:=WE p;obtain⟨a,cap,rfl,_⟩:=r.lst_inv;exact⟨_,by simp[Builtin.len_,o,run_underlying i,goInt],.sc _ rfl⟩
  grind
 .split at h
  .rename_i p
   simp only[qr]at h;subst h;obtain⟨e,i⟩:=WE p;cases r;exact⟨_,by simp[Builtin.len_,o,run_underlying i,goInt],.sc _ rfl⟩
  grind
 .split at h
  .rename_i i
   simp only[qr]at h;subst h;cases r;exact⟨_,by simp[Builtin.len_,o,run_underlying i,goInt],.sc _ rfl⟩
  grind
 .split at h
  .rename_i i
   simp only[qr]at h;subst h;cases r with
   |im _ g ce clock l T R U hv hd =>
   have C:(getObj g).run P w = .ok (.map ce clock) w:=by simp[getObj,Sem.run,l]
   exact⟨_,by simp_all[Builtin.len_,run_underlying,goInt],.sc _ rfl⟩
  grind
 .split at h
  .rename_i i
   simp only[qr]at h;subst h;cases r with
   |ims _ a0 σ τ _ hp hd r =>
   cases r with
   |im _ g ce clock l T R U hv a1 =>
   have C:(getObj g).run P w = .ok (.map ce clock) w:=by simp[getObj,Sem.run,l]
   exact⟨_,by simp[Builtin.len_,o,run_underlying i,goInt,C,R,hp.1],.sc _ rfl⟩
  grind
 .split at h
  .rename_i I i hm
   simp only[qr]at h;subst h;cases r with
   |mp _ g J l =>
   obtain⟨ce,cl,h1,h2,_⟩:=s.mp _ I g J hm l;have C:(getObj g).run P w = .ok (.map ce cl) w:=by simp[getObj,Sem.run,h1]
   exact⟨_,by simp_all[Builtin.len_,run_underlying,goInt],.sc _ rfl⟩
  grind
 grind
theorem qgN(s:Sim G mu w.heap){b g ty cs args o z}(r:zM G w.heap args o)
  (h:um P mu b g args=some z):∃ u,(builtin b g ty cs o).run P w = .ok (.value u) w/\VRel G w.heap z u:=by
 unfold um at h;split at h
 .rename_i j
  obtain⟨v,rfl,i⟩:=r.one_inv;obtain⟨u,I,J⟩:=qgM s i h g j (ty:=ty);simp_all[builtin]
 .rename_i j
  obtain⟨v,rfl,i⟩:=r.one_inv;split at h
  .rename_i p
   simp only[qr]at h;subst h;obtain⟨e,t⟩:=WE p;obtain⟨a,cap,rfl,_,C,_⟩:=i.lst_inv;have:=C rfl;subst this;exact⟨_,by simp[builtin,Builtin.cap_,j,run_underlying t,goInt],.sc _ rfl⟩
  grind
 .obtain ⟨u,v,rfl,l,i⟩:=r.two_inv
  unfold minA at h;split at h
  .simp only[qr]at h;subst h
   cases l;cases i;exact⟨_,by simp[builtin,Builtin.min_,Builtin.min2],.sc _ rfl⟩
  grind
 .obtain ⟨u,v,rfl,l,i⟩:=r.two_inv
  unfold maxA at h;split at h
  .simp only[qr]at h;subst h
   cases l;cases i;exact⟨_,by simp[builtin,Builtin.max_,Builtin.max2],.sc _ rfl⟩
  grind
 grind
end
end Go.Ev
