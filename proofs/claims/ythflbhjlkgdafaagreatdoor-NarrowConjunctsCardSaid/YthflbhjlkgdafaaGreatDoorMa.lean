/-
  Own library, part 1: an abstract reading of values and a calculus over it; contracts of functions; plain lemmas.
-/
import GoSem.Claim
import Derived.WalkKit
import Derived.Laws.AppendOwn
import Derived.Laws.CopyRow
import Derived.Below
import Derived.RangeFuncRecord
import Derived.Laws.BytesString
import Derived.IntWalk
import Derived.Lib.AppendZerosOnto
set_option linter.unusedVariables false
set_option linter.unusedSimpArgs false
set_option maxRecDepth 100000
open Go renaming Value->yc,World->qf,TypeId->qe,MapEntry->us,undef->uk,Program->qc,Operand->yj,FuncId->j1
open List renaming getElem?_eq_some_iff->qj,mem_map->qn,range->qr,getElem?_eq_getElem->qw,mem_cons->qx,getElem?_append_left->qI,replicate->qM,mem_of_getElem?->qX,all_eq_true->qY,length_append->zf,map_append->zh,getD_eq_getElem?_getD->zr,getElem?_map->zw,append_assoc->zE,getElem?_append_right->zN,length_map->zX,length_cons->yp,cons_append->yD,getElem?_take->j6,ext_getElem?->j7,getElem?_cons_succ->vK,mem_of_mem_take->vM,length_take->vO,take_append_drop->uA,getElem?_drop->uB,eq_nil_of_length_eq_zero->uZ,flatten_cons->u3,getElem?_toArray->wR,getElem?_cons_zero->Z1,mem_flatten->k9
open Nat renaming le_refl->qk,le_trans->zH
open Go.IntKind renaming i64->qm
open Option.some renaming injEq->qp
open Bool renaming and_eq_true->qB
open Go.Sem renaming run_bind->qO,run_pure->zD
open Go.Result renaming andThen_ok->qR
open Array renaming getD_eq_getD_getElem?->qT,getElem?_eq_some_iff->yC,getElem?_eq_getElem->Zv,getElem?_toList->Jp
open Option renaming map_some->zg,map_eq_some_iff->vL
open Go.Builtin renaming zeroCells->yW
open Prod.mk renaming injEq->u4
namespace Go
abbrev dA:=ByteArray
section
variable {a b p:Prop}
theorem zOm(h:p:=by omega):p:=h
theorem zSi(h:p:=by simp[go_sem]):p:=h
theorem zS1(x:a)(h:a->p:=by intro x;simp[go_sem,x]):p:=h x
theorem zS2(x:a)(y:b)(h:a->b->p:=by intro x y;simp[go_sem,x,y]):p:=h x y
theorem zS3{c:Prop}(x:a)(y:b)(z:c)(h:a->b->c->p:=by intro x y z;simp[go_sem,x,y,z]):p:=h x y z
theorem zKr(h:p:=by kernel_rfl):p:=h
theorem zSp(h:p:=by simp):p:=h
theorem zP1(x:a)(h:a->p:=by intro x;simp[x]):p:=h x
theorem zSo(h:p:=by simp;omega):p:=h
theorem zUs(x:a)(h:a->p:=by intro x;simpa using x):p:=h x
theorem zVs(x:a)(h:a->p:=by intro x;simpa[go_sem] using x):p:=h x
theorem zW1(x:a)(h:a->p:=by intro x;omega):p:=h x
theorem zW2(x:a)(y:b)(h:a->b->p:=by intro x y;omega):p:=h x y
theorem zDe(h:p:=by decide):p:=h
theorem zIn{c}[Decidable c]{C}{a b:C}(h:¬c:=by omega):(if c then a else b)=b:=if_neg h
theorem zGl{C}{l:List C}{i j a}(h:i≠j:=by omega):(l.set i a)[j]?=l[j]?:=List.getElem?_set_ne h
theorem zGa{C}{l m:List C}{i}(h:i<l.length:=by omega):(l++m)[i]?=l[i]?:=qI h
end
end Go
namespace Go.Ev
open Go
def tabs:List (Nat×List yc):=[(0,[.int .u64 1,.int .u64 10,.int .u64 100,.int .u64 1000,.int .u64 10000,.int .u64 100000,.int .u64 1000000,.int .u64 10000000,.int .u64 100000000,.int .u64 1000000000,.int .u64 10000000000,.int .u64 100000000000,.int .u64 1000000000000,.int .u64 10000000000000,.int .u64 100000000000000,.int .u64 1000000000000000,.int .u64 10000000000000000,.int .u64 100000000000000000,.int .u64 1000000000000000000,.int .u64 10000000000000000000])]
end Go.Ev
namespace Go.Ev
open Go
section
variable {C:Type}{h h':Array Obj}{w:qf}
inductive AV where
 |any
 |sc (v:yc)
 |lst (full:Bool) (xs:List (List AV))
 |sl (b sz off len:Nat)
 |agg (cs:List AV)
 |tup (vs:List AV)
 |ip (cs:List AV)
 |ptr (b off:Nat)
 |mp (b:Nat)
 |im (es:List (AV×AV))
 |ims (es:List (AV×AV))
 |fn (f:Fn) (first caps:List AV)
 |ifc (t:qe) (v:AV)
 |yl (b:Nat)
 deriving Inhabited
def pb:yc->Bool
 | .bool _ | .int _ _ | .float _ _ | .complex _ _ _ | .string _ | .pointer none | .map none | .chan none | .nilFunc | .nilIface=>true
 | .tuple ⟨[]⟩=>true
 |_=>false
def ofC:yc->AV
 | .slice none 0 0 => .lst true []
 | .func f ⟨[]⟩ ⟨[]⟩ => .fn f [] []
 |v=>if pb v then .sc v else .any
def ofV:yc->AV
 | .agg g => .agg (g.toList.map ofC)
 |v=>ofC v
def AV.cells:AV->List AV
 | .agg g=>g
 |v=>[v]
def AV.one:AV->Bool
 | .any | .agg _ | .tup _=>false
 | .sc v=>v.oneCell'
 |_=>true
structure Gh where
 imm:Nat->Prop
 blk:List (Nat×Nat)
variable {G G':Gh}
structure Gh.le (G G':Gh):Prop where
 imm:∀ b,G.imm b->G'.imm b
 blk:∀(i:Nat)(x:Nat×Nat),G.blk[i]?=some x->G'.blk[i]?=some x
theorem Gh.le.refl(G:Gh):G.le G:=⟨fun _ h=>h,fun _ _ h=>h⟩
theorem Gh.le.trans{A B C:Gh}(h:A.le B)(k:B.le C):A.le C:=⟨fun b x=>k.imm b (h.imm b x),fun i x y=>k.blk i x (h.blk i x y)⟩
structure Ext (G:Gh) (h h':Array Obj):Prop where
 size:h.size<=h'.size
 keep:∀ b,G.imm b->h'[b]?=h[b]?
theorem Ext.refl(G h):Ext G h h:=⟨qk _,fun _ _=>rfl⟩
def PIx(σ i:Nat->Nat)(es g:List C):Prop:=g.length=es.length/\∀ k,k<es.length->σ k<es.length/\i k<es.length/\i (σ k)=k/\σ (i k)=k/\g[σ k]?=es[k]?
theorem PIx.refl(es:List C):PIx id id es es:=⟨rfl,fun k h=>⟨h,h,rfl,rfl,rfl⟩⟩
theorem PIx.back{σ i}{es g:List C}(p:PIx σ i es g){j}(h:j<es.length):g[j]?=es[i j]?:=by
 obtain⟨o,l,t,I,J⟩:=p.2 j h;have:=(p.2 (i j) l).2.2.2.2
 grind
def j8(ce:Array us)(clock:Nat):Prop:=(∀(k:Nat)(e:us),ce[k]?=some e->e.born<clock)/\∀(j k:Nat)(e f:us),ce[j]?=some e->ce[k]?=some f->e.born=f.born->j=k
theorem j8.of{ce clock}(p:clock=ce.size)(g:∀(k) (e:us),ce[k]?=some e->e.born=k):j8 ce clock:=
 ⟨fun k e h=>by grind,fun j k e f i l o=>by rw[<-g j e i,<-g k f l,o]⟩
inductive VRel (G:Gh) (h:Array Obj):AV->yc->Prop
 |any (v:yc):VRel G h .any v
 |sc (v:yc) (hv:pb v=true):VRel G h (.sc v) v
 |nil (full:Bool):VRel G h (.lst full []) (.slice none 0 0)
 |emp (full:Bool) (a:Addr) (cap:Nat) (hc:full=true->cap=0):VRel G h (.lst full []) (.slice (some a) 0 cap)
 |lst (full:Bool) (xs:List (List AV)) (sz:Nat) (a:Addr) (cap:Nat) (cs:Array yc) (e:qe) (fr:Nat×Nat) (rd:Nat->yc)
   (hb:h[a.block]?=some (.cells cs e fr)) (hs:a.spot=none) (hl:xs.length<=cap) (hc:full=true->cap=xs.length) (hi:G.imm a.block)
   (hz:∀ r,r∈xs->r.length=sz)
   (hr:∀(k:Nat) x,xs.flatten[k]?=some x->cs[a.off+k]?=some (rd k))
   (hv:∀(k:Nat) x,xs.flatten[k]?=some x->VRel G h x (rd k)):VRel G h (.lst full xs) (.slice (some a) xs.length cap)
 |sl (b sz off len blk tot cap:Nat) (hb:G.blk[b]?=some (blk,tot)) (ht:off+cap*sz<=tot) (hl:len<=cap) :
   VRel G h (.sl b sz off len) (.slice (some ⟨blk,off,none⟩) len cap)
 |agg (cs:List AV) (vs:Array yc) (hn:vs.size=cs.length) (hv:∀(k:Nat) x,cs[k]?=some x->VRel G h x (vs.getD k uk)):VRel G h (.agg cs) (.agg vs)
 |tup (cs:List AV) (vs:Array yc) (hn:vs.size=cs.length) (hv:∀(k:Nat) x,cs[k]?=some x->VRel G h x (vs.getD k uk)):VRel G h (.tup cs) (.tuple vs)
 |ip (cs:List AV) (a:Addr) (arr:Array yc) (e:qe) (fr:Nat×Nat) (rd:Nat->yc)
   (hb:h[a.block]?=some (.cells arr e fr)) (hs:a.spot=none) (hi:G.imm a.block)
   (hr:∀(k:Nat) x,cs[k]?=some x->arr[a.off+k]?=some (rd k))
   (hv:∀(k:Nat) x,cs[k]?=some x->VRel G h x (rd k)):VRel G h (.ip cs) (.pointer (some a))
 |ptr (b off blk tot:Nat) (hb:G.blk[b]?=some (blk,tot)):VRel G h (.ptr b off) (.pointer (some ⟨blk,off,none⟩))
 |mp (b blk tot:Nat) (hb:G.blk[b]?=some (blk,tot)):VRel G h (.mp b) (.map (some blk))
 |im (es:List (AV×AV)) (blk:Nat) (ce:Array us) (clock:Nat) (hb:h[blk]?=some (.map ce clock)) (hi:G.imm blk) (hn:ce.size=es.length)
   (hk:∀(k:Nat) x,es[k]?=some x->VRel G h x.1 (ce.getD k default).key) (hv:∀(k:Nat) x,es[k]?=some x->VRel G h x.2 (ce.getD k default).val)
   (hd:j8 ce clock):VRel G h (.im es) (.map (some blk))
 |ims (es es':List (AV×AV)) (σ τ:Nat->Nat) (v:yc) (hp:PIx σ τ es es') (hd:(es.map Prod.fst).Nodup) (r:VRel G h (.im es') v):VRel G h (.ims es) v
 |fn (f:Fn) (first caps:List AV) (vs ws:Array yc) (hn:vs.size=first.length) (hm:ws.size=caps.length)
   (hv:∀(k:Nat) x,first[k]?=some x->VRel G h x (vs.getD k uk)) (hw:∀(k:Nat) x,caps[k]?=some x->VRel G h x (ws.getD k uk)):VRel G h (.fn f first caps) (.func f vs ws)
 |ifc (t:qe) (x:AV) (v:yc) (hv:VRel G h x v):VRel G h (.ifc t x) (.iface t v)
 |yl (b blk tot:Nat) (hb:G.blk[b]?=some (blk,tot)):VRel G h (.yl b) (.func (.yield blk) #[] #[])
theorem VRel.mono(I:G.le G')(he:Ext G h h'){x v}(r:VRel G h x v):VRel G' h' x v:=by
 induction r with
 |any v=>exact .any v
 |sc v o=>exact .sc v o
 |nil full=>exact .nil full
 |emp full a cap hc=>exact .emp full a cap hc
 |lst full p sz a cap P e fr rd j hs hl hc C hz hr o l=>exact .lst full p sz a cap P e fr rd (by rw[he.keep _ C];exact j) hs hl hc (I.imm _ C) hz hr l
 |sl b sz off len g i cap j ht hl=>exact .sl b sz off len g i cap (I.blk _ _ j) ht hl
 |agg P U R o l=>exact .agg P U R l
 |tup P U R o l=>exact .tup P U R l
 |ip P a arr e fr rd j hs C hr o l=>exact .ip P a arr e fr rd (by rw[he.keep _ C];exact j) hs (I.imm _ C) hr l
 |ptr b off g i j=>exact .ptr b off g i (I.blk _ _ j)
 |mp b g i j=>exact .mp b g i (I.blk _ _ j)
 |im J g ce clock j C R hk o hd a1 T=>exact .im J g ce clock (by rw[he.keep _ C];exact j) (I.imm _ C) R a1 T hd
 |ims J a2 σ τ v hp hd r l=>exact .ims J a2 σ τ v hp hd l
 |fn f first a0 U ws R hm o hw T a3=>exact .fn f first a0 U ws R hm T a3
 |ifc t x v o l=>exact .ifc t x v l
 |yl b g i j=>exact .yl b g i (I.blk _ _ j)
theorem VRel.le(g:G.le G'){x v}(r:VRel G h x v):VRel G' h x v:=r.mono g (.refl _ _)
theorem VRel.ofC(v):VRel G h (ofC v) v:=by
 unfold Ev.ofC;split
 .exact .nil true
 .exact .fn _ [] [] _ _ rfl rfl zSp zSp
 .split
  .rename_i g;exact .sc v g
  .exact .any v
theorem VRel.ofV(v):VRel G h (ofV v) v:=by
 unfold Ev.ofV;split
 .rename_i i
  refine .agg _ _ zSp ?_;intro k x g;simp only[zw,vL,Jp]at g;obtain⟨v,j,rfl⟩:=g;have:i.getD k uk=v:=by simp[qT,j]
  rw[this];exact .ofC v
 .exact .ofC v
theorem VRel.one{x v}(r:VRel G h x v)(g:x.one=true):v.oneCell'=true:=by
 cases r with
 |ims _ _ _ _ _ _ _ r=>cases r;rfl
 |_=>simp_all[AV.one,Value.oneCell']
theorem qe9{v:yc}(h:v.oneCell'=true):v.cells=#[v]:=by
 cases v<;>simp_all[Value.cells,Value.oneCell']
theorem VRel.cells{x v}(r:VRel G h x v)(o:∀ c,c∈x.cells->c.one=true) :
  v.cells.size=x.cells.length/\(∀(k) c,x.cells[k]?=some c->VRel G h c (v.cells.getD k uk))/\(∀ u,u∈v.cells.toList->u.oneCell'=true):=by
 by_cases C:∃ j,x = .agg j
 .obtain ⟨j,rfl⟩:=C
  cases r with
  |agg _ I J p =>
   refine⟨by simpa[Value.cells,AV.cells] using J,by simpa[Value.cells,AV.cells] using p,?_⟩;intro u t;simp only[Value.cells]at t;obtain⟨k,g⟩:=List.mem_iff_getElem?.1 t;rw[Jp]at g;have l:k<j.length:=by
    grind
   have i:=p k j[k] (zP1 l);have:I.getD k uk=u:=by simp[qT,g]
   rw[this]at i;exact i.one (o _ (by simp[AV.cells]))
 .have e:x.cells=[x]:=by cases x<;>simp_all[AV.cells]
  have i:=r.one (o x (zP1 e));rw[qe9 i,e];refine⟨rfl,?_,zP1 i⟩;intro k c g;cases k with
  |zero=>simp at g;subst g;simpa using r
  |succ k=>simp at g
inductive Cell where
 |arr (cells:List AV)
 |mp (es:List (AV×AV))
 |md (es:List (AV×AV))
 |it (es:List (AV×AV)) (seen:List Nat)
 |lp (r:Loop) (tm:Nat->AV)
 |dead
 deriving Inhabited
abbrev Mu:=List Cell
variable {mu:Mu}
def Live(G:Gh)(mu:Mu)(b:Nat):Prop:=∃(i:Nat) (c:Cell) (g:Nat),mu[i]?=some c/\c ≠ .dead/\G.blk[i]?=some (b,g)
def uj(G:Gh)(h:Array Obj)(l:Nat)(o:Obj):Cell->Prop
 | .arr cells=>∃ t e,o = .cells t e (0,0)/\t.size=l/\cells.length<=l/\∀(j:Nat) x,cells[j]?=some x->x.one=true/\VRel G h x (t.getD j uk)
 | .mp J=>∃ ce clock,o = .map ce clock/\ce.size=J.length/\(∀(k:Nat) x,J[k]?=some x->VRel G h x.1 (ce.getD k default).key)/\(∀(k:Nat) x,J[k]?=some x->VRel G h x.2 (ce.getD k default).val) /\
   clock=ce.size/\(∀(k:Nat)(e:us),ce[k]?=some e->e.born=k)
 | .md J=>∃ ce clock,o = .map ce clock/\ce.size=J.length/\(∀(k:Nat) x,J[k]?=some x->VRel G h x.1 (ce.getD k default).key)/\(∀(k:Nat) x,J[k]?=some x->VRel G h x.2 (ce.getD k default).val)/\j8 ce clock
 | .it J seen=>(∃ m p C I ce g,VRel G h (.im p) (.map (some m))/\h[m]?=some (.map ce g)/\G.imm m/\PIx C I J p/\(∀ i,i∈seen->i<J.length)/\o = .mapIter (some m) g (seen.map fun i=>(ce.getD (C i) default).born).toArray g)\/(J=[]/\o = .mapIter none 0 #[] 0)
 | .lp r P=>o = .loop r/\∀ i,VRel G h (P i) (r.tmps.getD i uk)
 | .dead=>True
theorem uj.mono(l:G.le G')(p:Ext G h h'){R o c}(r:uj G h R o c):uj G' h' R o c:=by
  cases c with
  |arr cells=>obtain⟨cs,e,I,P,t,C⟩:=r;exact⟨cs,e,I,P,t,fun j x g=>⟨(C j x g).1,(C j x g).2.mono l p⟩⟩
  |mp J=>obtain⟨ce,T,I,P,t,C,U⟩:=r;exact⟨ce,T,I,P,fun k x g=>(t k x g).mono l p,fun k x g=>(C k x g).mono l p,U⟩
  |md J=>obtain⟨ce,T,I,P,t,C,U⟩:=r;exact⟨ce,T,I,P,fun k x g=>(t k x g).mono l p,fun k x g=>(C k x g).mono l p,U⟩
  | it J seen =>
                  rcases r with ⟨m,a0,σ,τ,ce,a1,I,P,t,C⟩|r
                  · exact .inl ⟨m,a0,σ,τ,ce,a1,I.mono l p,by rw[p.keep _ t];exact P,l.imm _ t,C⟩
                  · exact .inr r
  |lp r1 tm=>exact⟨r.1,fun i=>(r.2 i).mono l p⟩
  |dead=>trivial
theorem uj.le(i:G.le G'){g o c}(r:uj G h g o c):uj G' h g o c:=r.mono i (.refl _ _)
def Zw(g:Nat->Prop)(h:Array Obj):Prop:=∀ x,x∈tabs->g x.1/\∃ e i,h[x.1]?=some (.cells x.2.toArray e i)
theorem Zw.mono{i g j}(t:Zw i h)(o:∀ b,i b->g b)(p:∀ b,i b->j[b]?=h[b]?):Zw g j:=fun x l=>by
 obtain⟨C,e,I,J⟩:=t x l
 grind
structure Sim (G:Gh) (mu:Mu) (h:Array Obj):Prop where
 len:G.blk.length=mu.length
 imm:∀ b,G.imm b->b<h.size
 obj:∀(i:Nat)(c:Cell) blk tot,mu[i]?=some c->c ≠ .dead->G.blk[i]?=some (blk,tot)->∃ o,h[blk]?=some o/\uj G h tot o c
 live:∀(i:Nat)(c:Cell) blk tot,mu[i]?=some c->c ≠ .dead->G.blk[i]?=some (blk,tot)->¬G.imm blk
 inj:∀(i j:Nat)(ci cj:Cell) b ti tj,mu[i]?=some ci->mu[j]?=some cj->ci ≠ .dead->cj ≠ .dead->G.blk[i]?=some (b,ti)->G.blk[j]?=some (b,tj)->i=j
 tab:Zw G.imm h
theorem Sim.bare(s:Sim G mu h):Sim ⟨G.imm,[]⟩ [] h:=
 ⟨rfl,s.imm,fun i c b t h=>by simp at h,fun i c b t h=>by simp at h,fun i j ci g b t l h=>by simp at h,s.tab⟩
theorem Sim.arr(s:Sim G mu h)(i:Nat)(cells l g)(p:mu[i]?=some (.arr cells))(t:G.blk[i]?=some (l,g)) :
  ∃ cs e,h[l]?=some (.cells cs e (0,0))/\cs.size=g/\cells.length<=g/\∀(j) x,cells[j]?=some x->x.one=true/\VRel G h x (cs.getD j uk):=by
 obtain⟨o,C,cs,e,rfl,h⟩:=s.obj i _ l g p zSp t;exact⟨cs,e,C,h⟩
theorem Sim.mp(s:Sim G mu h)(i:Nat)(es g j)(l:mu[i]?=some (.mp es))(p:G.blk[i]?=some (g,j)) :
  ∃ ce clock,h[g]?=some (.map ce clock)/\ce.size=es.length/\(∀(k) x,es[k]?=some x->VRel G h x.1 (ce.getD k default).key)/\(∀(k) x,es[k]?=some x->VRel G h x.2 (ce.getD k default).val) /\
   clock=ce.size/\(∀(k)(e:us),ce[k]?=some e->e.born=k):=by
 obtain⟨o,t,ce,C,rfl,h⟩:=s.obj i _ g j l zSp p;exact⟨ce,C,t,h⟩
theorem Sim.md(s:Sim G mu h)(i:Nat)(es g j)(l:mu[i]?=some (.md es))(p:G.blk[i]?=some (g,j)) :
  ∃ ce clock,h[g]?=some (.map ce clock)/\ce.size=es.length/\(∀(k) x,es[k]?=some x->VRel G h x.1 (ce.getD k default).key)/\(∀(k) x,es[k]?=some x->VRel G h x.2 (ce.getD k default).val)/\j8 ce clock:=by
 obtain⟨o,t,ce,C,rfl,h⟩:=s.obj i _ g j l zSp p;exact⟨ce,C,t,h⟩
theorem Sim.livesize(s:Sim G mu h){b}(l:Live G mu b):b<h.size:=by
 obtain⟨i,c,g,j,p,t⟩:=l;obtain⟨o,C,_⟩:=s.obj i c b g j p t
 grind
theorem Sim.all(s:Sim G mu h):Sim ⟨fun b=>G.imm b\/Live G mu b,[]⟩ [] h:=
 ⟨rfl,fun b h=>h.elim (s.imm b) (fun l=>s.livesize l),fun i c b t h=>by simp at h,fun i c b t h=>by simp at h,fun i j ci g b t o h=>by simp at h,s.tab.mono (fun b h => .inl h) (fun b h=>rfl)⟩
structure Stp (G:Gh) (mu:Mu) (w:qf) (G':Gh) (mu':Mu) (w':qf):Prop where
 le:G.le G'
 sim:Sim G' mu' w'.heap
 keep:∀ b,b<w.heap.size->¬Live G mu b->w'.heap[b]?=w.heap[b]?
 size:w.heap.size<=w'.heap.size
 live:∀ b,Live G' mu' b->Live G mu b\/w.heap.size<=b
 inew:∀ b,G'.imm b->G.imm b\/Live G mu b\/w.heap.size<=b
 tape:w'.tape=w.tape
 os:w'.os=w.os
 output:w'.output=w.output
 drawn:w.drawn<=w'.drawn
theorem Stp.ext{mu' w'}(s:Sim G mu w.heap)(t:Stp G mu w G' mu' w'):Ext G w.heap w'.heap:=
 ⟨t.size,fun b j=>t.keep b (s.imm b j) (fun⟨i,c,g,l,o,p⟩=>s.live i c b g l o p j)⟩
theorem Stp.vrel{mu' w'}(s:Sim G mu w.heap)(t:Stp G mu w G' mu' w'){x v}(r:VRel G w.heap x v):VRel G' w'.heap x v:=
 r.mono t.le (t.ext s)
theorem Stp.refl(s:Sim G mu w.heap):Stp G mu w G mu w:=
 ⟨.refl G,s,fun _ _ _=>rfl,qk _,fun _ h => .inl h,fun _ h => .inl h,rfl,rfl,rfl,qk _⟩
theorem Stp.trans{A B C a b c u v}(s:Sim A a u.heap)(h:Stp A a u B b v)(k:Stp B b v C c w):Stp A a u C c w:=by
 refine⟨h.le.trans k.le,k.sim,?_,zH h.size k.size,?_,?_,k.tape.trans h.tape,k.os.trans h.os,k.output.trans h.output,zH h.drawn k.drawn⟩
 .intro x i j
  rw[k.keep x (Nat.lt_of_lt_of_le i h.size) (fun l=>(h.live x l).elim j (fun g=>absurd i (Nat.not_lt.2 g))),h.keep x i j]
 .intro x i
  rcases k.live x i with l|l
  .exact h.live x l
  .exact .inr (zH h.size l)
 .intro x i
  rcases k.inew x i with l|l|l
  .exact h.inew x l
  .exact .inr (h.live x l)
  .exact .inr (.inr (zH h.size l))
theorem Stp.drew(s:Sim G mu w.heap):Stp G mu w G mu w.drew:=
 ⟨.refl G,s,fun _ _ _=>rfl,qk _,fun _ h => .inl h,fun _ h => .inl h,rfl,rfl,rfl,Nat.le_succ _⟩
end
end Go.Ev
namespace Go.Ev
open Go Go.RowKit
section
variable {G:Gh}{mu:Mu}{w:qf}
theorem yq{C:Type}{l}{a x:C}{i}(h:(l++[a])[i]?=some x):(i<l.length/\l[i]?=some x)\/(i=l.length/\x=a):=by
 rcases Nat.lt_trichotomy i l.length with g|g|g
 .grind
 .grind
 grind
theorem Zx(w:qf)(o b)(g:b<w.heap.size):(w.alloc o).heap[b]?=w.heap[b]?:=Below.heap_alloc w o b g
theorem Vw(w:qf)(o):(w.alloc o).heap[w.heap.size]?=some o:=by
 show (w.heap.push o)[w.heap.size]?=some o;simp
theorem Wq(s:Sim G mu w.heap)(o):Ext G w.heap (w.alloc o).heap:=
 ⟨zSp,fun b g=>Zx w o b (s.imm b g)⟩
theorem sB(s:Sim G mu w.heap)(o) :
  Stp G mu w ⟨fun b=>G.imm b\/b=w.heap.size,G.blk⟩ mu (w.alloc o):=by
 have p:G.le ⟨fun b=>G.imm b\/b=w.heap.size,G.blk⟩:=⟨fun b h => .inl h,fun _ _ h=>h⟩;have P:=Wq s o;have key:∀ b,Live G mu b->(w.alloc o).heap[b]?=w.heap[b]?:=fun b l=>Zx w o b (s.livesize l)
 refine⟨p,⟨s.len,?_,?_,?_,s.inj,s.tab.mono p.imm P.keep⟩,fun b l _=>Zx w o b l,zSp,fun b h => .inl h,fun b h=>h.elim .inl (fun e => .inr (.inr zOm)),rfl,rfl,rfl,qk _⟩
 .intro b l
  rcases l with l|l
  .have:=s.imm b l;simp;omega
  .simp;omega
 .intro i c j g t C I
  obtain⟨R,T,U⟩:=s.obj i c j g t C I;exact⟨R,by rw[key j ⟨i,_,g,t,C,I⟩];exact T,U.mono p P⟩
 .intro i c j g t C I J
  rcases J with J|J
  .exact s.live i c j g t C I J
  .have:=s.livesize ⟨i,c,g,t,C,I⟩;omega
theorem sR(s:Sim G mu w.heap)(o c C)
  (ha:c ≠ .dead->uj G w.heap C o c) :
  Stp G mu w ⟨G.imm,G.blk++[(w.heap.size,C)]⟩ (mu++[c]) (w.alloc o):=by
 have I:G.le ⟨G.imm,G.blk++[(w.heap.size,C)]⟩:=⟨fun b h=>h,fun i x h=>by
  grind⟩
 have he:=Wq s o;have key:∀ b,Live G mu b->(w.alloc o).heap[b]?=w.heap[b]?:=fun b P=>Zx w o b (s.livesize P)
 have a8:=s.len;refine⟨I,⟨by simp[s.len],?_,?_,?_,?_,s.tab.mono I.imm he.keep⟩,fun b P _=>Zx w o b P,zSp,?_,fun b h => .inl h,rfl,rfl,rfl,qk _⟩
 .intro b P
  have:=s.imm b P;simp;omega
 .intro i c' t g hc R T
  rcases yq hc with ⟨U,p⟩|⟨U,p⟩
  .have l:G.blk[i]?=some (t,g):=by
    grind
   obtain⟨o',h1,h2⟩:=s.obj i c' t g p R l;exact⟨o',by rw[key t ⟨i,_,g,p,R,l⟩];exact h1,h2.mono I he⟩
  .have l:(t,g)=(w.heap.size,C):=by
    rcases yq T with ⟨h,_⟩|⟨_,h⟩
    .omega
    .exact h
   obtain⟨rfl,rfl⟩:=Prod.mk.inj l;subst p;exact⟨o,Vw w _,(ha R).mono I he⟩
 .intro i c' t g hc R T J
  rcases yq hc with ⟨U,p⟩|⟨U,p⟩
  .have l:G.blk[i]?=some (t,g):=by
    rcases yq T with ⟨_,h⟩|⟨h,_⟩
    .exact h
    .omega
   exact s.live i c' t g p R l J
  .have l:(t,g)=(w.heap.size,C):=by
    rcases yq T with ⟨h,_⟩|⟨_,h⟩
    .omega
    .exact h
   have:=s.imm t J;obtain⟨rfl,_⟩:=Prod.mk.inj l;omega
 .intro i j ci cj b ti tj U hj a4 a5 a0 a1
  rcases yq U with ⟨a6,a2⟩|⟨a6,a2⟩<;>rcases yq hj with ⟨a7,a3⟩|⟨a7,a3⟩
  .have a:G.blk[i]?=some (b,ti):=by
    rcases yq a0 with ⟨_,h⟩|⟨h,_⟩
    .exact h
    .omega
   have c:G.blk[j]?=some (b,tj):=by
    rcases yq a1 with ⟨_,h⟩|⟨h,_⟩
    .exact h
    .omega
   exact s.inj i j ci cj b ti tj a2 a3 a4 a5 a c
  .have a:G.blk[i]?=some (b,ti):=by
    rcases yq a0 with ⟨_,h⟩|⟨h,_⟩
    .exact h
    .omega
   have c:(b,tj)=(w.heap.size,C):=by
    rcases yq a1 with ⟨h,_⟩|⟨_,h⟩
    .omega
    .exact h
   have:=s.livesize ⟨i,ci,ti,a2,a4,a⟩;have:=(Prod.mk.inj c).1;omega
  .have a:G.blk[j]?=some (b,tj):=by
    rcases yq a1 with ⟨_,h⟩|⟨h,_⟩
    .exact h
    .omega
   have c:(b,ti)=(w.heap.size,C):=by
    rcases yq a0 with ⟨h,_⟩|⟨_,h⟩
    .omega
    .exact h
   have:=s.livesize ⟨j,cj,tj,a3,a5,a⟩;have:=(Prod.mk.inj c).1;omega
  .omega
 .intro b P
  obtain⟨i,c',t',hc,R,T⟩:=P;rcases yq hc with ⟨U,p⟩|⟨U,p⟩
  .have l:G.blk[i]?=some (b,t'):=by
    rcases yq T with ⟨_,h⟩|⟨h,_⟩
    .exact h
    .omega
   exact .inl ⟨i,c',t',p,R,l⟩
  .have l:(b,t')=(w.heap.size,C):=by
    rcases yq T with ⟨h,_⟩|⟨_,h⟩
    .omega
    .exact h
   exact .inr (zW1 ((Prod.mk.inj l).1))
theorem vP{C:Type}{l:List C}{a x i j}(h:(l.set i a)[j]?=some x):(j=i/\x=a)\/(j≠i/\l[j]?=some x):=by
 rw[List.getElem?_set]at h;by_cases g:i=j
 .grind
 .rw [if_neg g]at h;grind
theorem sW{w'}(s:Sim G mu w.heap)(i c c' J P o)
  (U:mu[i]?=some c) (hd:c ≠ .dead) (a9:c' ≠ .dead) (hk:G.blk[i]?=some (J,P))
  (hw:w'.heap.size=w.heap.size) (ho:w'.heap[J]?=some o) (C:∀ b,b≠J->w'.heap[b]?=w.heap[b]?)
  (ht:w'.tape=w.tape) (a5:w'.os=w.os) (a2:w'.output=w.output)
  (ha:uj G w.heap P o c') (hdr:w.drawn<=w'.drawn:=by exact qk _) :
  Stp G mu w G (mu.set i c') w':=by
 have a6:Live G mu J:=⟨i,c,P,U,hd,hk⟩;have he:Ext G w.heap w'.heap:=⟨zOm,fun b hb=>C b (fun e=>by subst e;exact s.live i c b P U hd hk hb)⟩;have aa:∀(j:Nat)(T:Cell) b t,j≠i->mu[j]?=some T->T ≠ .dead->G.blk[j]?=some (b,t)->b≠J:=by
  intro j T b t hj l p g e;subst e;exact hj (s.inj j i T c b t P l U p hd g hk)
 refine⟨.refl G,⟨by simpa using s.len,?_,?_,?_,?_,s.tab.mono (fun _ h=>h) he.keep⟩,?_,zOm,?_,fun b h => .inl h,ht,a5,a2,hdr⟩
 .intro b hb;have:=s.imm b hb;omega
 .intro j T b t l p g
  rcases vP l with ⟨rfl,I⟩|⟨hj,I⟩
  .rw [hk]at g
   obtain⟨rfl,rfl⟩:=Prod.mk.inj (Option.some.inj g);subst I;exact⟨o,ho,ha.mono (.refl G) he⟩
  .obtain ⟨o',h1,h2⟩:=s.obj j T b t I p g
   exact⟨o',by grind,h2.mono (.refl G) he⟩
 .intro j T b t l p g
  rcases vP l with ⟨rfl,I⟩|⟨hj,I⟩
  .rw [hk]at g
   obtain⟨rfl,rfl⟩:=Prod.mk.inj (Option.some.inj g);exact s.live j c _ _ U hd hk
  .exact s.live j T b t I p g
 .intro a b ca cb R ta tb a7 a8 a3 a4 a0 a1
  rcases vP a7 with ⟨rfl,I⟩|⟨hj,I⟩<;>rcases vP a8 with ⟨rfl,hy⟩|⟨ab,hy⟩
  .rfl
  .exact s.inj a b c cb R ta tb U hy hd a4 a0 a1
  .exact s.inj a b ca c R ta tb I U a3 hd a0 a1
  .exact s.inj a b ca cb R ta tb I hy a3 a4 a0 a1
 .intro b hb hl
  exact C b (fun e=>hl (e ▸ a6))
 .intro b hb
  obtain⟨j,T,t,l,p,g⟩:=hb;rcases vP l with ⟨rfl,I⟩|⟨hj,I⟩
  .exact .inl ⟨j,c,t,U,hd,g⟩
  .exact .inl ⟨j,T,t,I,p,g⟩
theorem sX(s:Sim G mu w.heap)(i):Stp G mu w G (mu.set i .dead) w:=by
 refine⟨.refl G,⟨by simpa using s.len,s.imm,?_,?_,?_,s.tab⟩,fun _ _ _=>rfl,qk _,?_,fun b h => .inl h,rfl,rfl,rfl,qk _⟩
 .intro j C b t o g p
  rcases vP o with ⟨rfl,l⟩|⟨R,l⟩
  .exact absurd l g
  .exact s.obj j C b t l g p
 .intro j C b t o g p hi
  rcases vP o with ⟨rfl,l⟩|⟨R,l⟩
  .exact g l
  .exact s.live j C b t l g p hi
 .intro a b ca cb I ta tb T U J P a0 a1
  rcases vP T with ⟨rfl,l⟩|⟨R,l⟩
  .exact absurd l J
  .rcases vP U with ⟨rfl,hy⟩|⟨a2,hy⟩
   .exact absurd hy P
   .exact s.inj a b ca cb I ta tb l hy J P a0 a1
 .intro b hb
  obtain⟨j,C,t,o,g,p⟩:=hb;rcases vP o with ⟨rfl,l⟩|⟨R,l⟩
  .exact absurd l g
  .exact .inl ⟨j,C,t,l,g,p⟩
end
end Go.Ev
namespace Go.Ev
open Go Go.RowKit
section
variable {cs:Array yc}{mu:Mu}{P:qc}{t:qe}{w:qf}
def szOf(P:qc)(t:qe):Option Nat:=(P.info? t).map (·.size)
def zb(P:qc)(t:qe):Option Bool:=(P.underlying t).map fun | .struct _ | .array .. => true|_=>false
def qA(P:qc)(t:qe):Option AV:=((P.info? t).bind (·.zero)).map ofV
def qD(P:qc)(t:qe):Option (qe×Nat×Nat):=
 match P.underlying t with
 |some (.slice e)=>(P.info? e).map fun i=>(e,i.size,i.bytes)
 |_=>none
def qG(P:qc)(s f:Nat):Option (Nat×qe×Nat):=
 match P.underlying s with
 |some (.struct i)=>(i[f]?).bind fun g=>match szOf P g.type with|some (n+1)=>some (g.offset,g.type,n+1)|_=>none
 |_=>none
def Zy(P:qc)(t:qe):Option (Nat×qe×Nat):=
 match P.underlying t with
 |some (.array n e)=>(szOf P e).map fun k=>(n,e,k)
 |_=>none
theorem Vx{b}(h:zb P t=some b)(w):(isAgg t).run P w = .ok b w:=by
 unfold zb at h;cases g:P.underlying t with
 |none=>simp[g]at h
 |some d =>
  simp only[g,zg,qp]at h;subst h;simp only[isAgg,qO,run_underlying g,Result.andThen];cases d<;>rfl
theorem jr{n}(h:szOf P t=some n)(w):(sizeOf t).run P w = .ok n w:=by
 unfold szOf at h;cases g:P.info? t with
 |none=>simp[g]at h
 |some d =>
  simp_all[zg,qp,sizeOf,typeInfo]
theorem Zz{x}(h:qA P t=some x)(w):∃ v,(zeroValue t).run P w = .ok v w/\x=ofV v:=by
 unfold qA at h;cases g:P.info? t with
 |none=>simp[g]at h
 |some d =>
  simp only[g,Option.bind_some,vL]at h;obtain⟨v,i,rfl⟩:=h;exact⟨v,by simp[zeroValue,typeInfo,g,i],rfl⟩
theorem ZA{a:Addr}{e g}(i:w.heap[a.block]?=some (.cells cs e g))(j:a.spot=none)(k) :
  w.cell? (a.add k)=cs[a.off+k]?:=by
 grind [Addr.add,World.cell?]
@[go_sem] def vQ(mu:Mu):AV->Nat->Option (List AV)
 | .ip g,n=>if n<=g.length then some (g.take n) else none
 | .ptr b off,n=>match mu[b]? with
  |some (.arr cells)=>if off+n<=cells.length then some ((cells.drop off).take n) else none
  |_=>none
 |_,_=>none
theorem pg{G}(s:Sim G mu w.heap){p v}(r:VRel G w.heap p v){n cs}(h:vQ mu p n=some cs) :
  ∃(a:Addr) (rd:Nat->yc),v = .pointer (some a)/\cs.length=n/\∀(k) x,cs[k]?=some x->w.cell? (a.add k)=some (rd k)/\VRel G w.heap x (rd k):=by
 cases r with
 |ip o a arr e T rd l U hi hr hv =>
  simp only[vQ]at h;split at h
  .rename_i t
   simp only[qp]at h;subst h;refine⟨a,rd,rfl,zSo,fun k x C=>?_⟩
   grind [absurd,ZA]
  grind
 |ptr b off g j l =>
  simp only[vQ]at h;split at h
  .rename_i cells I
   obtain⟨arr,e,J,h2,h3,P⟩:=s.arr b cells g j I l;split at h
   .rename_i t
    simp only[qp]at h;subst h;refine⟨⟨g,off,none⟩,fun k=>arr.getD (off+k) uk,rfl,zSo,fun k x C=>?_⟩;have i:cells[off+k]?=some x:=by
     grind
    refine⟨?_,(P _ _ i).2⟩;rw[ZA (a:=⟨g,off,none⟩) J rfl];have R:off+k<cells.length:=(qj.1 i).1;have:off+k<arr.size:=zOm;simp[qT,this]
   grind
  grind
 |_=>grind [absurd,vQ]
@[go_sem] def wS(P:qc)(mu:Mu)(t:qe)(p:AV):Option AV:=
 match zb P t,szOf P t with
 |some true,some n=>(vQ mu p n).map .agg
 |some false,some _=>(vQ mu p 1).bind fun | [x]=>some x|_=>none
 |_,_=>none
theorem ph{G}(s:Sim G mu w.heap){t p v}(r:VRel G w.heap p v){x}(h:wS P mu t p=some x) :
  ∃ a u,v = .pointer (some a)/\(loadVar t a).run P w = .ok u w/\VRel G w.heap x u:=by
 unfold wS at h;split at h
 .rename_i n J T
  cases g:vQ mu p n with
  |none=>simp[g]at h
  |some i =>
   simp only[g,zg,qp]at h;subst h;obtain⟨a,rd,rfl,l,o⟩:=pg s r g;have R:=run_loadCells (P:=P) w a n rd (fun j U=>(o j i[j] (by simp[l,U])).1);refine⟨a,.agg ((qr n).map rd).toArray,rfl,?_,?_⟩
   .simp_all [loadVar,Vx,jr]
   .refine .agg _ _ (zP1 l) (fun k x hx=>?_)
    have C:k<n:=by grind
    have:(((qr n).map rd).toArray).getD k uk=rd k:=by simp[qT,C]
    grind
 .rename_i n J T
  cases g:vQ mu p 1 with
  |none=>simp[g]at h
  |some i =>
   simp only[g,Option.bind_some]at h
   match i,g,h with
   | [y],g,h =>
    simp only[qp]at h;subst h;obtain⟨a,rd,rfl,l,o⟩:=pg s r g;have I:=o 0 y rfl;rw[show a.add 0=a by simp[Addr.add]]at I;exact⟨a,rd 0,rfl,by simp[loadVar,Vx J,I.1],I.2⟩
 grind
def putCells(cells:List AV)(off:Nat)(xs:List AV):List AV:=
 match xs with
 | [x]=>cells.set off x
 |xs=>cells.take off++xs++cells.drop (off+xs.length)
@[go_sem] theorem qsJ(z o x):putCells z o [x]=z.set o x:=rfl
@[go_sem] theorem qsK(z o x y l):putCells z o (x :: y :: l)=z.take o++(x :: y :: l)++z.drop (o+(x :: y :: l).length):=rfl
@[go_sem] theorem qsL(z o):putCells z o []=z.take o++[]++z.drop (o+0):=rfl
theorem y9(cells off xs)(h:off+xs.length<=cells.length):putCells cells off xs=cells.take off++xs++cells.drop (off+xs.length):=by
 unfold putCells;split
 .rename_i x
  simp at h;rw[List.set_eq_take_append_cons_drop,if_pos zOm];simp
 .rfl
@[go_sem] def Vy(P:qc)(mu:Mu)(t:qe)(p x:AV):Option Mu:=
 match p,szOf P t with
 | .ptr b off,some n=>match mu[b]? with
  |some (.arr cells)=>if x.cells.length=n/\off+n<=cells.length/\x.cells.all AV.one=true then some (mu.set b (.arr (putCells cells off x.cells))) else none
  |_=>none
 |_,_=>none
theorem qfA{k v}(h:cs[k]?=some v):cs.getD k uk=v:=by simp[qT,h]
theorem qfB{G mu'}(s:Sim G mu w.heap){t p x v u}(r:VRel G w.heap p v)(rx:VRel G w.heap x u)(h:Vy P mu t p x=some mu') :
  ∃ a w',v = .pointer (some a)/\(storeVar t a u).run P w = .ok () w'/\Stp G mu w G mu' w':=by
 unfold Vy at h;split at h
 .rename_i b off n hn
  split at h
  .rename_i cells hc
   split at h
   .rename_i o
    obtain⟨J,a2,a3⟩:=o;simp only[qp]at h;subst h;cases r with
    |ptr _ _ g R hb =>
     obtain⟨arr,e,h1,h2,h3,h4⟩:=s.arr b cells g R hc hb;obtain⟨C,i,I⟩:=rx.cells (fun c a4=>by grind);have T:=run_storeCells_at P g off e u.cells.toList 0 arr w h1 (by simp[C];omega) I;simp only[Nat.add_zero]at T;refine⟨⟨g,off,none⟩,w.setRow g (arr.toList.take off++u.cells.toList++arr.toList.drop (off+u.cells.toList.length)).toArray,rfl,?_,?_⟩
     .simp_all [storeVar,qO,jr,qR,if_neg]
     .refine sW s b (.arr cells) _ g R (.cells (arr.toList.take off++u.cells.toList++arr.toList.drop (off+u.cells.toList.length)).toArray e (0,0)) hc zSp zSp hb zSp (setRow_heap w g arr _ e _ h1)
       (fun k hk=>setRow_other w g k _ hk) rfl rfl rfl ?_
      have a5:u.cells.toList.length=n:=by simp[C,J]
      refine⟨_,e,rfl,by simp[C];omega,by grind [y9],?_⟩;intro j y l;rw[y9 _ _ _ zOm]at l;rw[zE]at l;by_cases U:j<off
      .rw [qI zSo,j6,if_pos U]at l
       have:=h4 j y l;refine⟨this.1,?_⟩;have e1:(((arr.toList.take off++u.cells.toList++arr.toList.drop (off+u.cells.toList.length)).toArray).getD j uk)=arr.getD j uk:=by
        simp only[qT,wR,zE];rw[qI zSo,j6,if_pos U,Jp]
       rw[e1];exact this.2
      .rw [zN zSo]at l
       have a0:(cells.take off).length=off:=zSo;rw[a0]at l;by_cases a6:j-off<n
       .rw [zGa]at l
        refine⟨by grind,?_⟩;have:=i (j-off) y l;have e1:(((arr.toList.take off++u.cells.toList++arr.toList.drop (off+u.cells.toList.length)).toArray).getD j uk)=u.cells.getD (j-off) uk:=by
         simp only[qT,wR,zE]
         grind
        rw[e1];exact this
       .rw [zN zOm,uB,J]at l
        have a1:cells[j]?=some y:=by grind
        have:=h4 j y a1;refine⟨this.1,?_⟩;have e1:(((arr.toList.take off++u.cells.toList++arr.toList.drop (off+u.cells.toList.length)).toArray).getD j uk)=arr.getD j uk:=by
         simp only[qT,wR,zE]
         grind
        rw[e1];exact this.2
   grind
  grind
 grind
end
end Go.Ev
namespace Go.Ev
open Go Go.RowKit
section
variable {x z:AV}{h:Array Obj}{G:Gh}{xs:List (List AV)}{P:qc}{t:qe}{u:yc}{w:qf}
def Good(P:qc)(G:Gh)(mu:Mu)(w:qf)(s:Sem yc)(x:AV)(mu':Mu):Prop:=
 ∃ v g i,s.run P w = .ok v g/\Stp G mu w i mu' g/\VRel i g.heap x v
theorem sY{mu}(s:Sim G mu w.heap){c x v}(h:c.run P w = .ok v w)(r:VRel G w.heap x v):Good P G mu w c x mu:=
 ⟨v,w,G,h,.refl s,r⟩
theorem Wr{sz}:(∀ r,r∈xs->r.length=sz)->∀{i k r x},xs[i]?=some r->r[k]?=some x->xs.flatten[i*sz+k]?=some x:=by
 induction xs with
 |nil=>intro _ i k r x h;simp at h
 |cons y j l =>
  intro g i k r x h o;have p:=g y zSp;cases i with
  |zero =>
   grind
  |succ i =>
   grind
theorem yy{sz}(h:∀ r,r∈xs->r.length=sz):xs.flatten.length=xs.length*sz:=by
 induction xs with
 |nil=>simp
 |cons y j g =>
  grind
@[go_sem] def aInt(op:BinOp)(k:IntKind)(a b:Int):Option AV:=
 match op with
 | .add=>some (.sc (.int k (k.wrap (a+b))))
 | .sub=>some (.sc (.int k (k.wrap (a-b))))
 | .mul=>some (.sc (.int k (k.wrap (a*b))))
 | .quo=>if b=0 then none else some (.sc (.int k (k.wrap (a.tdiv b))))
 | .rem=>if b=0 then none else some (.sc (.int k (a.tmod b)))
 | .eql=>some (.sc (.bool (a == b)))
 | .neq=>some (.sc (.bool (a != b)))
 | .lss=>some (.sc (.bool (decide (a<b))))
 | .leq=>some (.sc (.bool (decide (a<=b))))
 | .gtr=>some (.sc (.bool (decide (a > b))))
 | .geq=>some (.sc (.bool (decide (a>=b))))
 |_=>none
@[go_sem] def aStr(op:BinOp)(x y:dA):Option AV:=
 match op with
 | .eql=>some (.sc (.bool (x.toList == y.toList)))
 | .neq=>some (.sc (.bool (!(x.toList == y.toList))))
 | .lss=>some (.sc (.bool (Op.bytesLess x.toList y.toList)))
 | .add=>if x.size+y.size<=9223372036854775807 then some (.sc (.string (x++y))) else none
 |_=>none
@[go_sem] def aEqs:List AV->List AV->Option Bool
 | [],[]=>some true
 | .sc (.int k a) :: p,.sc (.int g b) :: j=>if k=g then (if a == b then aEqs p j else some false) else none
 |_,_=>none
def Ws(P:qc)(t:qe):Bool:=match P.underlying t with|some .bool=>true|_=>false
def pi(P:qc)(t:qe):Bool:=match P.underlying t with|some (.int _)=>true|_=>false
def Z4(P:qc):List Field->Nat->Bool
  | [],_=>true
  | f :: g, i => f.offset == i && f.name != "_" && pi P f.type && Z4 P g (i + 1)
def Wt(P:qc)(t:qe):Option Nat:=
 match P.underlying t with
 |some (.struct g)=>if Z4 P g.toList 0=true/\P.stoodInHeld t=false/\P.eqGuardType P.depth t=false then some g.size else none
 |some (.array n e)=>match P.underlying e,szOf P e with
  |some (.int _),some 1=>if P.eqGuardType P.depth t=false then some n else none
  |_,_=>none
 |_=>none
def Wu(P:qc)(t:qe):Bool:=match P.underlying t with|some (.interface _)=>true|_=>false
def Wv(P:qc)(t:qe):Bool:=match P.underlying t with|some (.interface g)=>g.isEmpty|_=>false
def ZB(P:qc)(t:qe):Bool:=match P.underlying t with|some (.pointer _)=>true|_=>false
@[go_sem] def pj(op:BinOp)(k:IntKind)(a b:Int):Option AV:=
 if b<0 then none else match op with
  | .shl=>some (.sc (.int k (k.wrap (a*2 ^ (min b.toNat k.bits)))))
  | .shr=>some (.sc (.int k (a.fdiv (2 ^ (min b.toNat k.bits)))))
  |_=>none
@[go_sem] def aBin(P:qc)(op:BinOp)(t:qe)(x y:AV):Option AV:=
 match x,y with
 | .sc (.int k a),.sc (.int g b)=>if op = .shl\/op = .shr then pj op k a b else if k=g then aInt op k a b else none
 | .sc (.bool a),.sc (.bool b)=>if Ws P t=true then (match op with | .eql=>some (.sc (.bool (a == b))) | .neq=>some (.sc (.bool (!(a == b))))|_=>none) else none
 | .sc (.string a),.sc (.string b)=>aStr op a b
 | .ifc _ _,.sc .nilIface=>if Wu P t=true then (match op with | .eql=>some (.sc (.bool false)) | .neq=>some (.sc (.bool true))|_=>none) else none
 | .sc .nilIface,.sc .nilIface=>if Wv P t=true then (match op with | .eql=>some (.sc (.bool true)) | .neq=>some (.sc (.bool false))|_=>none) else none
 | .sc (.pointer none),.sc (.pointer none)=>if ZB P t=true then (match op with | .eql=>some (.sc (.bool true)) | .neq=>some (.sc (.bool false))|_=>none) else none
 | .ip _,.sc (.pointer none)=>if ZB P t=true then (match op with | .eql=>some (.sc (.bool false)) | .neq=>some (.sc (.bool true))|_=>none) else none
 | .ptr _ _,.sc (.pointer none)=>if ZB P t=true then (match op with | .eql=>some (.sc (.bool false)) | .neq=>some (.sc (.bool true))|_=>none) else none
 |_,_=>none
theorem qfC{k a b}(g:¬b=0):(Op.intDiv .quo k a b).run P w=(Pure.pure (.int k (k.wrap (a.tdiv b))):Sem yc).run P w:=by
 unfold Op.intDiv;rw[if_neg g]
theorem qfD{k a b}(g:¬b=0):(Op.intDiv .rem k a b).run P w=(Pure.pure (.int k (a.tmod b)):Sem yc).run P w:=by
 unfold Op.intDiv;rw[if_neg g]
theorem qfE(d){t u x g}(i:P.underlying t=some (.interface g)) :
  (Op.equalIn (d+1) t (.iface u x) .nilIface).run P w = .ok false w:=by
 simp[Op.equalIn,run_underlying i]
theorem qfF(d){t g}(i:P.underlying t=some (.interface g)) :
  (Op.equalIn (d+1) t .nilIface .nilIface).run P w = .ok true w:=by
 simp[Op.equalIn,run_underlying i]
theorem qfG(d){t g}(i:P.underlying t=some (.interface g))(j:g.isEmpty=true) :
  (Op.eqGuardIn (d+1) t .nilIface .nilIface).run P w = .ok false w:=by
 simp[Op.eqGuardIn,run_underlying i,j]
theorem qfH(d){t e a}(g:P.underlying t=some (.pointer e)) :
  (Op.equalIn (d+1) t (.pointer a) (.pointer none)).run P w = .ok a.isNone w:=by
 cases a<;>simp[Op.equalIn,run_underlying g]
theorem qfI(h:ZB P t=true):∃ e,P.underlying t=some (.pointer e):=by
 grind [ZB,absurd]
theorem Ww{op ox oy a b c}(g:ZB P t=true)(i:a.isNone=b)(j:(!b)=c){z G}
  (h:(match op with | .eql=>some (AV.sc (.bool b)) | .neq=>some (AV.sc (.bool c))|_=>none)=some z):∃ r,(do eqGuard op t ox oy (.pointer a) (.pointer none);binOp op t (.pointer a) (.pointer none):Sem yc).run P w = .ok r w/\VRel G w.heap z r:=by
 obtain⟨e,l⟩:=qfI g;have o:(eqGuard op t ox oy (.pointer a) (.pointer none)).run P w = .ok () w:=by
  unfold eqGuard;cases op<;>rfl
 simp only[qO,o,qR];have p:(Op.equal t (.pointer a) (.pointer none)).run P w = .ok a.isNone w:=qfH 9999 l;subst i;subst j;cases op<;>simp only[qp]at h<;>first
  | (simp at h;done)
  | (subst h;refine⟨_,?_,.sc _ rfl⟩;simp[binOp,p];done)
theorem qfJ{op y ox oy v}(l:VRel G w.heap x u)(o:VRel G w.heap y v)(h:aBin P op t x y=some z) :
    ∃ r,(do eqGuard op t ox oy u v;binOp op t u v:Sem yc).run P w = .ok r w/\VRel G w.heap z r:=by
  unfold aBin at h;split at h
  ·
    rename_i k a U b;cases l;cases o;split at h
    · unfold pj at h
      split at h
      · cases h
      · rename_i g
        have i:(eqGuard op t ox oy (.int k a) (.int U b)).run P w = .ok () w:=by
          unfold eqGuard;cases op<;>rfl
        simp only[qO,i,qR];cases op<;>simp only[qp]at h<;>first
          | (cases h;done)
          | (subst h;refine⟨_,?_,.sc _ rfl⟩;simp[binOp,Op.shift,g];done)
    · rename_i hs
      split at h
      · rename_i hk;subst hk
        have i:(eqGuard op t ox oy (.int k a) (.int k b)).run P w = .ok () w:=by
          unfold eqGuard;cases op<;>rfl
        simp only[qO,i,qR];unfold aInt at h;cases op<;>simp only[qp]at h<;>first
          | (simp at h;done)
          | (subst h;refine⟨_,?_,.sc _ rfl⟩;simp[binOp,Op.intArith,Op.intCmp];done)
          | (split at h
             · exact absurd h zSp
             · rename_i g
               simp only[qp]at h;subst h;refine⟨_,?_,.sc _ rfl⟩;simp[binOp,qfC g,qfD g];done)
          | (exfalso;simp at hs)
      grind
  · rename_i a b
    cases l;cases o;split at h
    · rename_i g
      have j:P.underlying t=some .bool:=by
        grind [Ws,absurd]
      have i:(eqGuard op t ox oy (.bool a) (.bool b)).run P w = .ok () w:=by
        unfold eqGuard;cases op<;>rfl
      simp only[qO,i,qR];cases op<;>simp only[qp]at h<;>first
        | (simp at h;done)
        | (subst h;refine⟨_,?_,.sc _ rfl⟩;simp[binOp,Op.equal,Op.maxDepth,run_equalIn_bool' w 9999 t a b j];done)
    grind
  · rename_i a b
    cases l;cases o;have i:(eqGuard op t ox oy (.string a) (.string b)).run P w = .ok () w:=by
      unfold eqGuard;cases op<;>rfl
    simp only[qO,i,qR];unfold aStr at h;cases op<;>simp only[qp]at h<;>first
      | (simp at h;done)
      | (subst h;refine⟨_,?_,.sc _ rfl⟩;simp[binOp,Op.stringOp];done)
      | (split at h
         · rename_i g
           simp only[qp]at h;subst h;refine⟨_,?_,.sc _ rfl⟩;have:¬(((a.size+b.size:Nat):Int) > qm.max):=by simp[IntKind.max,IntKind.signed,IntKind.bits];omega
           simp only[binOp,Op.stringOp,if_neg this,zD]
         · exact absurd h zSp)
  · rename_i R vv
    cases o;cases l with
    |ifc _ _ T hv =>
    split at h
    · rename_i g
      have j:∃ p,P.underlying t=some (.interface p):=by
        unfold Wu at g;split at g
        · exact⟨_,by assumption⟩
        · exact absurd g zSp
      obtain⟨p,j⟩:=j;have i:(eqGuard op t ox oy (.iface R T) .nilIface).run P w = .ok () w:=by
        unfold eqGuard;cases op<;>rfl
      simp only[qO,i,qR];have C:(Op.equal t (.iface R T) .nilIface).run P w = .ok false w:=qfE 9999 j;cases op<;>simp only[qp]at h<;>first
        | (simp at h;done)
        | (subst h;refine⟨_,?_,.sc _ rfl⟩;simp[binOp,C];done)
    · exact absurd h zSp
  · cases l
    cases o;split at h
    · rename_i g
      have j:∃ p,P.underlying t=some (.interface p)/\p.isEmpty=true:=by
        unfold Wv at g;split at g
        · exact⟨_,by assumption,g⟩
        · exact absurd g zSp
      obtain⟨p,j,I⟩:=j;have i:(eqGuard op t ox oy .nilIface .nilIface).run P w = .ok () w:=by
        have J:(Op.eqGuardIn Op.maxDepth t .nilIface .nilIface).run P w = .ok false w:=qfG 9999 j I;unfold eqGuard;cases op<;>first|rfl | (simp only[qO,Sem.run_ite,J,qR];simp)
      simp only[qO,i,qR];have C:(Op.equal t .nilIface .nilIface).run P w = .ok true w:=qfF 9999 j;cases op<;>simp only[qp]at h<;>first
        | (simp at h;done)
        | (subst h;refine⟨_,?_,.sc _ rfl⟩;simp[binOp,C];done)
    · exact absurd h zSp
  · cases l
    cases o;split at h
    · rename_i g;exact Ww g rfl rfl h
    · exact absurd h zSp
  · cases o
    cases l;split at h
    · rename_i g;exact Ww g rfl rfl h
    · exact absurd h zSp
  · cases o
    cases l;split at h
    · rename_i g;exact Ww g rfl rfl h
    · exact absurd h zSp
  grind
@[go_sem] def aUn(op:UnOp):AV->Option AV
 | .sc (.bool b)=>match op with | .not=>some (.sc (.bool !b))|_=>none
 | .sc (.int k n)=>match op with | .neg=>some (.sc (.int k (k.wrap (0-n))))|_=>none
 |_=>none
theorem qfK{op}(g:VRel G w.heap x u)(h:aUn op x=some z) :
  ∃ r,(Op.unary op u).run P w = .ok r w/\VRel G w.heap z r:=by
 unfold aUn at h;split at h
 .cases g
  split at h
  .simp only[qp]at h;subst h
   exact⟨_,rfl,.sc _ rfl⟩
  grind
 .cases g
  split at h
  .simp only[qp]at h;subst h
   exact⟨_,rfl,.sc _ rfl⟩
  grind
 grind
@[go_sem] def Vz(P:qc)(src g:qe):AV->Option AV
 | .sc (.int _ n)=>match P.underlying g with|some (.int k)=>some (.sc (.int k (k.wrap n)))|_=>none
 | .lst _ [[.sc (.int .u8 n)]]=>match P.underlying src with
  |some (.slice e)=>match P.underlying e,P.underlying g with
   |some (.int .u8),some .string=>some (.sc (.string (ByteArray.empty.push (UInt8.ofNat n.toNat))))
   |_,_=>none
  |_=>none
 |_=>none
theorem qfL{src g}(I:VRel G w.heap x u)(o:∃ d,P.underlying src=some d)(h:Vz P src g x=some z) :
  ∃ r,(convert src g u).run P w = .ok r w/\VRel G w.heap z r:=by
 unfold Vz at h;obtain⟨d,o⟩:=o;split at h
 .cases I
  split at h
  .rename_i k T
   simp only[qp]at h;subst h;refine⟨_,?_,.sc _ rfl⟩;simp only[convert,qO,run_underlying o,run_underlying T,qR];simp[Conv.intToInt]
  grind
 .rename_i f n
  split at h
  .rename_i e i
   split at h
   .rename_i U p
    simp only[qp]at h;subst h;cases I with
    |lst _ _ sz a cap cs e' fr rd hb t hl hc hi hz hr hv =>
     have J:VRel G w.heap (.sc (.int .u8 n)) (rd 0):=hv 0 _ rfl;have R:cs[a.off+0]?=some (rd 0):=hr 0 _ rfl;generalize rd 0=q at J R;cases J;refine⟨_,?_,.sc _ rfl⟩;rw[run_convert_bytes_string w src g e (some a) _ cap i U p];have C:=run_loadCells_list (P:=P) w a [.int .u8 n] (fun j v l=>by
      match j,l with
      | 0,l =>
       simp only[Z1,qp]at l;subst l;rw[ZA hb t];exact R)
     exact run_bytesToString (P:=P) w a 1 cap [n] C
   grind
  grind
 grind
theorem sH{cs a}(r:VRel G h (.ip cs) (.pointer (some a)))(n):VRel G h (.ip (cs.drop n)) (.pointer (some (a.add n))):=by
 cases r with
 |ip _ _ arr e i rd j l o t C =>
  have g:(a.add n).block=a.block:=by unfold Addr.add;split<;>rfl
  have p:(a.add n).spot=none:=by unfold Addr.add;split<;>simp[l]
  have I:(a.add n).off=a.off+n:=by unfold Addr.add;split<;>simp_all
  refine .ip _ _ arr e i (fun k=>rd (n+k)) (by rw[g];exact j) p (by rw[g];exact o) ?_ ?_
  .grind
  grind
theorem sU{b o a}(r:VRel G h (.ptr b o) (.pointer (some a)))(n):VRel G h (.ptr b (o+n)) (.pointer (some (a.add n))):=by
 cases r with
 |ptr _ _ g i j =>
  have:(⟨g,o,none⟩:Addr).add n=⟨g,o+n,none⟩:=by unfold Addr.add;split<;>simp_all
  rw[this];exact .ptr b (o+n) g i j
@[go_sem] def addA(p:AV)(n:Nat):Option AV:=
 match p with
 | .ip g=>some (.ip (g.drop n))
 | .ptr b o=>some (.ptr b (o+n))
 |_=>none
theorem pm{p v n}(r:VRel G h p v)(e:addA p n=some z):∃ a,v = .pointer (some a)/\VRel G h z (.pointer (some (a.add n))):=by
 unfold addA at e;split at e
 .simp only[qp]at e;subst e
  cases r with
  |ip _ a arr el l rd g o t C I=>exact⟨a,rfl,sH (.ip _ a arr el l rd g o t C I) n⟩
 .simp only[qp]at e;subst e
  cases r with
  |ptr _ _ i j g=>exact⟨_,rfl,sU (.ptr _ _ i j g) n⟩
 grind
@[go_sem] def VA(P:qc)(s f:Nat)(p:AV):Option AV:=(qG P s f).bind fun (off,_,_)=>addA p off
theorem pn{s f off n}(h:qG P s f=some (off,t,n)) :
  ∃(fs:Array Field) (g:Field),P.underlying s=some (.struct fs)/\fs[f]?=some g/\g.offset=off/\g.type=t/\szOf P t=some n/\n≠0:=by
 unfold qG at h;split at h
 .grind
 grind
theorem qfM{s f p v}(r:VRel G w.heap p v)(e:VA P s f p=some z) :
  ∃ u,(Instr.fieldAt s v f).run P w = .ok u w/\VRel G w.heap z u:=by
 unfold VA at e;cases hf:qG P s f with
 |none=>simp[hf]at e
 |some x =>
  obtain⟨off,t,n⟩:=x;simp only[hf,Option.bind_some]at e;obtain⟨a,rfl,j⟩:=pm r e;obtain⟨C,I,l,g,rfl,rfl,i,o⟩:=pn hf;refine⟨_,?_,j⟩;simp[Instr.fieldAt,run_underlying l,g,Instr.sureAddr,fieldPlace,jr i,o]
@[go_sem] def VB(P:qc)(t:qe)(x l:AV):Option AV:=
 match l with
 | .sc (.int _ i) =>
  match x,qD P t,Zy P t with
  | .lst _ j,some (_,sz,_),_=>if 0<=i/\i<j.length then (match j[i.toNat]? with|some r=>if r.length=sz/\sz≠0 then some (.ip r) else none|none=>none) else none
  | .sl b g off len,some (_,sz,_),_=>if 0<=i/\i<len/\(g=sz\/g=0) then some (.ptr b (off+i.toNat*sz)) else none
  |p,none,some (n,_,sz)=>if 0<=i/\i<n then addA p (i.toNat*sz) else none
  |_,_,_=>none
 |_=>none
theorem ul{e sz bt}(h:qD P t=some (e,sz,bt)):∃ i,P.underlying t=some (.slice e)/\P.info? e=some i/\i.size=sz/\i.bytes=bt:=by
 unfold qD at h;split at h
 .rename_i g l
  cases j:P.info? g with
  |none=>simp[j]at h
  |some i =>
   grind
 grind
theorem pp{e n sz}(h:Zy P t=some (n,e,sz)):P.underlying t=some (.array n e)/\szOf P e=some sz:=by
 unfold Zy at h;split at h
 .rename_i l g o
  cases j:szOf P g with
  |none=>simp[j]at h
  |some i =>
   grind
 grind
theorem qfN{ix v}(r:VRel G w.heap x v)(ri:VRel G w.heap ix u)(e:VB P t x ix=some z) :
  ∃ y,(Instr.indexAt t v u).run P w = .ok y w/\VRel G w.heap z y:=by
 unfold VB at e;split at e
 .rename_i k i
  cases ri;split at e
  .rename_i full p e' sz bt hs
   split at e
   .rename_i I
    split at e
    .rename_i row j
     split at e
     .rename_i hz
      simp only[qp]at e;subst e;obtain⟨a0,J,l,C,a1⟩:=ul hs;have o:szOf P e'=some sz:=by simp[szOf,l,C]
      cases r with
      |nil=>simp at j
      |emp=>simp at j
      |lst _ _ g a cap cs el fr rd hb a2 hl hc R a3 hr hv =>
       have T:g=sz:=by grind
       subst T;refine⟨.pointer (some (a.add (i.toNat*g))),?_,?_⟩
       .simp [Instr.indexAt,asIntOf,run_underlying J,I,jr o]
       .have h1:(a.add (i.toNat*g)).block=a.block:=by unfold Addr.add;split<;>rfl
        have h2:(a.add (i.toNat*g)).spot=none:=by unfold Addr.add;split<;>simp[a2]
        have h3:(a.add (i.toNat*g)).off=a.off+i.toNat*g:=by unfold Addr.add;split<;>simp_all
        refine .ip _ _ cs el fr (fun k=>rd (i.toNat*g+k)) (by rw[h1];exact hb) h2 (by rw[h1];exact R) ?_ ?_
        .intro k x hx
         rw[h3,Nat.add_assoc];exact hr _ x (Wr a3 j hx)
        grind [Wr]
     grind
    grind
   grind
  .rename_i b g off len e' sz bt hs
   split at e
   .rename_i I
    obtain⟨a4,a5,_⟩:=I;simp only[qp]at e;subst e;obtain⟨a0,J,l,C,a1⟩:=ul hs;have o:szOf P e'=some sz:=by simp[szOf,l,C]
    cases r with
    |sl _ _ _ _ U a6 cap hb ht hl =>
     refine⟨.pointer (some ((⟨U,off,none⟩:Addr).add (i.toNat*sz))),?_,sU (.ptr b off U a6 hb) _⟩;simp[Instr.indexAt,asIntOf,run_underlying J,a4,a5,jr o]
   grind
  .rename_i n e' sz ha
   split at e
   .rename_i I
    obtain⟨J,o⟩:=pp ha;obtain⟨a,rfl,hz⟩:=pm r e;refine⟨_,?_,hz⟩;simp[Instr.indexAt,asIntOf,run_underlying J,Instr.sureAddr,I,jr o]
   .exact absurd e zSp
  grind
 grind
end
end Go.Ev
namespace Go.Ev
open Go Go.RowKit
section
variable {z:AV}{h:Array Obj}{G:Gh}{xs:List (List AV)}{g:Option Int}{vhi vlo vmx:Option yc}{P:qc}{t:qe}{w:qf}
@[go_sem] def VC(P:qc)(t:qe)(cs:List AV)(off:Nat):Option AV:=
 match zb P t,szOf P t with
 |some true,some n=>if off+n<=cs.length then some (.agg ((cs.drop off).take n)) else none
 |some false,_=>cs[off]?
 |_,_=>none
theorem pq{cs g off}
  (I:g.size=cs.length) (j:∀(k) x,cs[k]?=some x->VRel G w.heap x (g.getD k uk)) (h:VC P t cs off=some z) :
  ∃ u,(part t g off).run P w = .ok u w/\VRel G w.heap z u:=by
 unfold VC at h;split at h
 .rename_i n l o
  split at h
  .rename_i p
   simp only[qp]at h;subst h;refine⟨.agg (g.extract off (off+n)),by simp[part,Vx l,jr o],.agg _ _ zSo ?_⟩;intro k x i;rw[j6]at i;split at i
   .rename_i J
    rw[uB]at i;have:=j _ x i;have e:(g.extract off (off+n)).getD k uk=g.getD (off+k) uk:=by
     simp only[qT]
     grind
    rw[e];exact this
   grind
  grind
 .rename_i l
  have:=j off z h;have C:off<cs.length:=(qj.1 h).1;simp_all[uk,part,Vx,qT]
 grind
@[go_sem] def VD(P:qc)(s f:Nat)(x:AV):Option AV:=
 match x with
 | .agg g=>(qG P s f).bind fun (off,t,_)=>VC P t g off
 |_=>none
theorem qfO{s f x v}(r:VRel G w.heap x v)(e:VD P s f x=some z) :
  ∃ u,(Instr.field s v f).run P w = .ok u w/\VRel G w.heap z u:=by
 unfold VD at e;split at e
 .rename_i p
  cases r with
  |agg _ C g i =>
  cases hf:qG P s f with
  |none=>simp[hf]at e
  |some y =>
   obtain⟨off,t,n⟩:=y;simp only[hf,Option.bind_some]at e;obtain⟨I,J,R,j,rfl,rfl,l,o⟩:=pn hf;obtain⟨u,T,U⟩:=pq g i e;simp_all[Instr.field,run_underlying,asAgg]
 grind
@[go_sem] def VE(P:qc)(t:qe)(x g:AV):Option AV:=
 match g with
 | .sc (.int _ i) =>
  match x with
  | .agg j=>match Zy P t with
   |some (n,e,sz)=>if 0<=i/\i<n then VC P e j (i.toNat*sz) else none
   |none=>none
  | .sc (.string s)=>match P.underlying t with
   |some .string=>if 0<=i then (match s.data[i.toNat]? with|some b=>some (.sc (.int .u8 b.toNat))|none=>none) else none
   |_=>none
  |_=>none
 |_=>none
theorem qfP{x o v u}(r:VRel G w.heap x v)(R:VRel G w.heap o u)(e:VE P t x o=some z) :
  ∃ y,(Instr.index t v u).run P w = .ok y w/\VRel G w.heap z y:=by
 unfold VE at e;split at e
 .rename_i k i
  cases R;split at e
  .rename_i cs
   cases r with
   |agg _ vs T U =>
   split at e
   .rename_i n el sz ha
    split at e
    .rename_i p
     obtain⟨C,a0⟩:=pp ha;obtain⟨y,h1,I⟩:=pq T U e;simp_all[Instr.index,asIntOf,run_underlying,jr]
    grind
   grind
  .rename_i s
   cases r;split at e
   .rename_i C
    split at e
    .rename_i p
     split at e
     .rename_i b J
      simp only[qp]at e;subst e;refine⟨.int .u8 b.toNat,?_,.sc _ rfl⟩;have j:i.toNat<s.data.size:=(yC.1 J).1;have l:s[i.toNat]?=some b:=by
       have I:s.data[i.toNat]=b:=(yC.1 J).2;have g:i.toNat<s.size:=j;rw[getElem?_pos s i.toNat g];exact congrArg some I
      simp[Instr.index,asIntOf,run_underlying C,p,l]
     grind
    grind
   grind
  grind
 grind
@[go_sem] def optI:Option AV->Option (Option Int)
 |none=>some none
 |some (.sc (.int _ n))=>some (some n)
 |_=>none
@[go_sem] def VF(P:qc)(t:qe)(x:AV)(lo g mx:Option AV):Option AV:=
 match optI lo,optI g,optI mx with
 |some lo,some g,some mx =>
  match x,P.underlying t with
  | .lst full p,some (.slice _) =>
   let n:Int:=p.length
   let h:=g.getD n
   let l:=lo.getD 0
   match mx with
   |none=>if 0<=l/\l<=h/\h<=n then some (.lst (full&&decide (h=n)) ((p.take h.toNat).drop l.toNat)) else none
   |some m=>if 0<=l/\l<=h/\h<=m/\m<=n/\g.isSome then some (.lst (decide (m=h)) ((p.take h.toNat).drop l.toNat)) else none
  | .sl b sz off len,some (.slice e) =>
   let h:=g.getD len
   let l:=lo.getD 0
   match mx with
   |none=>if 0<=l/\l<=h/\h<=len/\(l=0\/l<len)/\szOf P e=some sz then some (.sl b sz (off+l.toNat*sz) (h-l).toNat) else none
   |some _=>none
  | .ip i,some (.array n e) =>
   let h:=g.getD n
   let l:=lo.getD 0
   match mx with
   |none=>if 0<=l/\l<=h/\h<=n/\(l=0\/l<n)/\szOf P e=some 1/\i.length=n then some (.lst (decide (h=n)) (((i.take h.toNat).drop l.toNat).map fun c=>[c])) else none
   |some _=>none
  | .ptr b off,some (.array n e) =>
   match mx with
   |none=>if off=0/\lo.getD 0=0/\0<=g.getD n/\g.getD n<=n/\(szOf P e).isSome=true then some (.sl b 0 0 (g.getD n).toNat) else none
   |some _=>none
  | .sc (.string s),some .string =>
   let n:Int:=s.size
   let h:=g.getD n
   let l:=lo.getD 0
   match mx with
   |none=>if 0<=l/\l<=h/\h<=n then some (.sc (.string (s.extract l.toNat h.toNat))) else none
   |some _=>none
  |_,_=>none
 |_,_,_=>none
theorem wT{k}{i:Int}{y:Nat}{c}(g:0<=i)(j:i<=y):(Instr.sliceBound (.int k i) y c).run P w = .ok i.toNat w:=by
 simp[Instr.sliceBound,asIntOf,g,j]
theorem Wx{o}(e:optI o=some g) :
  ∀{v},(∀ x,o=some x->∃ u,v=some u/\VRel G h x u)->(o=none->v=none)->(g=none/\v=none)\/∃ k n,g=some n/\v=some (.int k n):=by
 intro v i j;unfold optI at e;split at e
 .grind
 .rename_i k n
  simp only[qp]at e;obtain⟨u,l,r⟩:=i _ rfl;cases r
  grind
 grind
theorem Z5{isSlice}{len cap:Nat}{lo mx}
  (j:(lo=none/\vlo=none)\/∃ k n,lo=some n/\vlo=some (.int k n)) (o:(g=none/\vhi=none)\/∃ k n,g=some n/\vhi=some (.int k n))
  (p:(mx=none/\vmx=none)\/∃ k n,mx=some n/\vmx=some (.int k n)) (t:mx.isSome=true->g.isSome=true)
  (h0:0<=lo.getD 0) (h1:lo.getD 0<=g.getD len) (h2:g.getD len<=mx.getD cap) (h3:mx.getD cap<=cap) (U:len<=cap) :
  (Instr.sliceBounds isSlice len cap vlo vhi vmx).run P w = .ok ((lo.getD 0).toNat,(g.getD len).toNat,(mx.getD cap).toNat) w:=by
 rcases j with ⟨rfl,rfl⟩|⟨T,l,rfl,rfl⟩<;>rcases o with ⟨rfl,rfl⟩|⟨C,h,rfl,rfl⟩<;>rcases p with ⟨rfl,rfl⟩|⟨I,m,rfl,rfl⟩<;>simp only[Option.getD_none,Option.getD_some]at * <;>
  simp only[Option.isSome_none,Option.isSome_some,reduceCtorEq,imp_false,not_true_eq_false]at t
 .simp [Instr.sliceBounds]
 .grind [Instr.sliceBound,wT,Instr.sliceBounds,qO,zD,qR]
 .have J:(Instr.sliceBound (.int I m) cap (if isSlice then .slice3Acap else .slice3Alen)).run P w = .ok m.toNat w:=wT zOm zOm
  have i:(Instr.sliceBound (.int C h) m.toNat .slice3B).run P w = .ok h.toNat w:=wT zOm zOm;simp only[Instr.sliceBounds,qO,zD,qR,i,J];simp
 .grind [Instr.sliceBound,wT,Instr.sliceBounds,qO,zD,qR]
 .have i:(Instr.sliceBound (.int C h) cap (if isSlice then .sliceAcap else .sliceAlen)).run P w = .ok h.toNat w:=wT zOm zOm
  have R:(Instr.sliceBound (.int T l) h.toNat (if (none:Option yc).isSome then .slice3C else .sliceB)).run P w = .ok l.toNat w:=wT zOm zOm;simp only[Instr.sliceBounds,qO,zD,qR,R,i];simp
 .have J:(Instr.sliceBound (.int I m) cap (if isSlice then .slice3Acap else .slice3Alen)).run P w = .ok m.toNat w:=wT zOm zOm
  have i:(Instr.sliceBound (.int C h) m.toNat .slice3B).run P w = .ok h.toNat w:=wT zOm zOm;have R:(Instr.sliceBound (.int T l) h.toNat (if (some (Value.int I m)).isSome then .slice3C else .sliceB)).run P w = .ok l.toNat w:=wT zOm zOm;simp only[Instr.sliceBounds,qO,zD,qR,R,i,J]
theorem pt{sz}:(∀ r,r∈xs->r.length=sz)->∀ l,(xs.drop l).flatten=xs.flatten.drop (l*sz):=by
 induction xs with
 |nil=>intro _ l;simp
 |cons y j g =>
  intro i l;cases l with
  |zero=>simp
  |succ l =>
   simp only[List.drop_succ_cons,u3];rw[g (fun r o=>i r (zP1 o)),Nat.succ_mul,Nat.add_comm,<-List.drop_drop]
   grind
theorem sV{full sz a cap l i m}
  (r:VRel G h (.lst full xs) (.slice a xs.length cap)) (J:∀ x,x∈xs->x.length=sz) (h1:l<=i) (P:i<=xs.length) (h3:i<=m) (hm:m<=cap) (j) (hf:j=true->m=i) :
  VRel G h (.lst j ((xs.take i).drop l)) (.slice (if m=l then a else a.map (·.add (l*sz))) (i-l) (m-l)):=by
 have a2:((xs.take i).drop l).length=i-l:=zSo;by_cases he:i=l
 .subst he
  have o:(xs.take i).drop i=[]:=uZ zOm;rw[o,Nat.sub_self];cases a with
  |none =>
   have:xs=[]/\cap=0:=by cases r;exact⟨rfl,rfl⟩
   have R:m=0:=zOm;subst R;simp;exact .nil j
  |some a =>
   have:(if m=i then some a else (some a).map (·.add (i*sz)))=some (if m=i then a else a.add (i*sz)):=by split<;>rfl
   rw[this];exact .emp j _ _ (fun h=>zW1 (hf h))
 .have T:m≠l:=by omega
  rw[if_neg T];generalize a3:xs.length=n at r;cases r with
  |nil=>simp at P;omega
  |emp=>simp at P;omega
  |lst _ _ g a cap cs e fr rd hb hs hl hc U hz C hv =>
   have a0:xs≠[]:=by intro e;subst e;simp at P;omega
   obtain⟨y,hy⟩:∃ y,y∈xs:=List.exists_mem_of_ne_nil xs a0;have p:g=sz:=by rw[<-hz y hy,J y hy]
   subst p;have t:(a.add (l*g)).block=a.block:=by unfold Addr.add;split<;>rfl
   have a1:(a.add (l*g)).spot=none:=by unfold Addr.add;split<;>simp[hs]
   have a4:(a.add (l*g)).off=a.off+l*g:=by unfold Addr.add;split<;>simp_all
   have key:∀(k:Nat) x,((xs.take i).drop l).flatten[k]?=some x->xs.flatten[l*g+k]?=some x:=by
    intro k x I;rw[pt (fun r C=>hz r (vM C)),uB]at I
    grind [List.flatten_append,uA,qI,qj]
   have:=VRel.lst (G:=G) (h:=h) j ((xs.take i).drop l) g (a.add (l*g)) (m-l) cs e fr (fun k=>rd (l*g+k)) (by rw[t];exact hb) a1 zOm (fun h=>zW1 (hf h)) (by rw[t];exact U)
    (fun r C=>hz r (vM (List.mem_of_mem_drop C))) (fun k x I=>by grind) (fun k x I=>hv _ x (key k x I))
   grind
theorem VRel.lst_inv{full v}(r:VRel G h (.lst full xs) v) :
  ∃ a cap,v = .slice a xs.length cap/\xs.length<=cap/\(full=true->cap=xs.length)/\(∃ sz,∀ x,x∈xs->x.length=sz):=by
 cases r with
 |nil=>exact⟨none,0,rfl,qk _,fun _=>rfl,0,zSp⟩
 |emp _ a cap g=>exact⟨some a,cap,rfl,Nat.zero_le _,g,0,zSp⟩
 |lst _ _ sz a cap l e o rd p t i g C j I J=>exact⟨some a,cap,rfl,i,g,sz,j⟩
def ja(sz:Nat)(xs:List (List AV)):Prop:=∀ r,r∈xs->r.length=sz
theorem qfQ{x lo hi mx v}(r:VRel G w.heap x v)
  (a6:∀ y,lo=some y->∃ u,vlo=some u/\VRel G w.heap y u) (a0:lo=none->vlo=none) (a7:∀ y,hi=some y->∃ u,vhi=some u/\VRel G w.heap y u) (a1:hi=none->vhi=none)
  (a8:∀ y,mx=some y->∃ u,vmx=some u/\VRel G w.heap y u) (a2:mx=none->vmx=none)
  (a9:∀ full xs,x = .lst full xs->∃ e sz bt,qD P t=some (e,sz,bt)/\ja sz xs)
  (e:VF P t x lo hi mx=some z):∃ y,(Instr.sliceAt t v vlo vhi vmx).run P w = .ok y w/\VRel G w.heap z y:=by
 unfold VF at e;split at e
 .rename_i g o ar aa ad ae
  have J:=Wx (G:=G) (h:=w.heap) aa a6 a0;have R:=Wx (G:=G) (h:=w.heap) ad a7 a1;have T:=Wx (G:=G) (h:=w.heap) ae a8 a2;clear aa ad ae a6 a0 a7 a1 a8 a2;split at e
  .rename_i full xs el U
   obtain⟨a,cap,rfl,af,ak,_⟩:=r.lst_inv;obtain⟨e',sz,bt,hs,ag⟩:=a9 full xs rfl;obtain⟨au,ah,ai,al,av⟩:=ul hs;have an:e'=el:=by rw[U]at ah;simpa using ah.symm
   subst an;have C:szOf P e'=some sz:=by simp[szOf,ai,al]
   simp only at e;split at e
   .split at e
    .rename_i hc
     obtain⟨c1,c2,c3⟩:=hc;simp only[qp]at e;subst e;have i:=Z5 (P:=P) (w:=w) (isSlice:=true) (len:=xs.length) (cap:=cap) J R T zSp c1 c2 zSo zSp af;refine⟨_,by simp only[Instr.sliceAt,Instr.slice,qO,run_underlying U,qR,i,jr C,zD];rfl,?_⟩;have hl:(g.getD 0).toNat<=(o.getD xs.length).toNat:=zOm;simp only[Option.getD_none,Int.toNat_natCast];exact sV r ag hl zOm zOm (qk _) _ (fun hf=>by
      simp only[qB,decide_eq_true_eq]at hf;have:=ak hf.1;omega)
    .exact absurd e zSp
   .rename_i m
    split at e
    .rename_i hc
     obtain⟨c1,c2,c3,c4,c5⟩:=hc;simp only[qp]at e;subst e;have i:=Z5 (P:=P) (w:=w) (isSlice:=true) (len:=xs.length) (cap:=cap) J R T (fun _=>c5) c1 c2 (by simpa using c3) zSo af;refine⟨_,by simp only[Instr.sliceAt,Instr.slice,qO,run_underlying U,qR,i,jr C,zD];rfl,?_⟩;have hl:(g.getD 0).toNat<=(o.getD xs.length).toNat:=zOm;simp only[Option.getD_some];exact sV r ag hl zOm zOm zOm _ (fun hf=>by
      simp only[decide_eq_true_eq]at hf;omega)
    .exact absurd e zSp
  .rename_i b sz off len el U
   simp only at e;split at e
   .split at e
    .rename_i hc
     obtain⟨c1,c2,c3,c4,C⟩:=hc;simp only[qp]at e;subst e;cases r with
     |sl _ _ _ _ p a4 cap hb ht hl =>
     have i:=Z5 (P:=P) (w:=w) (isSlice:=true) (len:=len) (cap:=cap) J R T zSp c1 c2 zSo zSp hl;refine⟨_,by simp only[Instr.sliceAt,Instr.slice,qO,run_underlying U,qR,i,jr C,zD];rfl,?_⟩;simp only[Option.getD_none,Int.toNat_natCast];have e1:(if cap=(g.getD 0).toNat then some (⟨p,off,none⟩:Addr) else (some (⟨p,off,none⟩:Addr)).map (·.add ((g.getD 0).toNat*sz)))=some ⟨p,off+(g.getD 0).toNat*sz,none⟩:=by
      split
      .rename_i aj
       have:(g.getD 0).toNat=0:=zOm;simp[this]
      .simp only[zg,Addr.add]
       split<;>simp_all
     rw[e1,show (o.getD (len:Int)).toNat-(g.getD 0).toNat=(o.getD (len:Int)-g.getD 0).toNat by omega];refine .sl b sz _ _ p a4 _ hb ?_ zOm;have aw:(g.getD 0).toNat<=cap:=zOm;refine zH (Nat.le_of_eq ?_) ht;rw[Nat.add_assoc,<-Nat.add_mul];congr 2;omega
    .exact absurd e zSp
   .exact absurd e zSp
  .rename_i cs n el U
   simp only at e;split at e
   .split at e
    .rename_i hc
     obtain⟨c1,c2,c3,c4,C,ax⟩:=hc;simp only[qp]at e;subst e;cases r with
     |ip _ a arr e' fr rd hb hs hi hr hv =>
     obtain⟨ab,ao,ay⟩:=a;simp only at hb hs hi hr;subst hs;have i:=Z5 (P:=P) (w:=w) (isSlice:=false) (len:=n) (cap:=n) J R T zSp c1 c2 zSo zSp (qk n);refine⟨_,by simp only[Instr.sliceAt,Instr.sureAddr,qO,run_underlying U,qR,i,jr C,zD];rfl,?_⟩;simp only[Option.getD_none,Int.toNat_natCast,Nat.mul_one];have e1:(some (if n=(g.getD 0).toNat then (⟨ab,ao,none⟩:Addr) else (⟨ab,ao,none⟩:Addr).add (g.getD 0).toNat))=some ⟨ab,ao+(g.getD 0).toNat,none⟩:=by
      split
      .rename_i aj
       have:(g.getD 0).toNat=0:=zOm;simp[this]
      .simp only[Addr.add]
       split<;>simp_all
     rw[e1];have I:(((cs.take (o.getD (n:Int)).toNat).drop (g.getD 0).toNat).map fun c=>[c]).length=(o.getD (n:Int)).toNat-(g.getD 0).toNat:=by
      simp only[zX,List.length_drop,vO];omega
     have a5:∀ l:List AV,(l.map fun c=>[c]).flatten=l:=by
      intro l;induction l with
      |nil=>rfl
      |cons x l ih=>simp[ih]
     by_cases h0:(o.getD (n:Int)).toNat-(g.getD 0).toNat=0
     .rw [h0]
      have:(((cs.take (o.getD (n:Int)).toNat).drop (g.getD 0).toNat).map fun c=>[c])=[]:=uZ (by rw[I,h0]);rw[this];exact .emp _ _ _ (fun h=>by rw[decide_eq_true_eq]at h;omega)
     .rw [<-I]
      have a3:∀(k:Nat) x,(((cs.take (o.getD (n:Int)).toNat).drop (g.getD 0).toNat).map fun c=>[c]).flatten[k]?=some x->cs[(g.getD 0).toNat+k]?=some x:=by
       intro k x hx;rw[a5,uB,j6]at hx;split at hx
       .exact hx
       .exact absurd hx zSp
      refine .lst _ _ 1 ⟨ab,ao+(g.getD 0).toNat,none⟩ _ arr e' fr (fun k=>rd ((g.getD 0).toNat+k)) hb rfl (by rw[I];omega) (fun h=>by rw[decide_eq_true_eq]at h;rw[I];omega) hi ?_ ?_ ?_
      .intro r aq
       obtain⟨c,_,rfl⟩:=qn.1 aq;rfl
      .intro k x hx
       have:=hr _ x (a3 k x hx);simpa[Nat.add_assoc] using this
      .intro k x hx
       exact hv _ x (a3 k x hx)
    .exact absurd e zSp
   .exact absurd e zSp
  .rename_i b off n el U
   split at e
   .split at e
    .rename_i hc
     obtain⟨rfl,c1,c2,c3,c4⟩:=hc;obtain⟨sz,C⟩:=Option.isSome_iff_exists.1 c4;simp only[qp]at e;subst e;cases r with
     |ptr _ _ p a4 hb =>
     have i:=Z5 (P:=P) (w:=w) (isSlice:=false) (len:=n) (cap:=n) J R T zSp zOm zOm zSo zSp (qk n);refine⟨_,by simp only[Instr.sliceAt,Instr.sureAddr,qO,run_underlying U,qR,i,jr C,zD];rfl,?_⟩;simp only[Option.getD_none,Int.toNat_natCast,c1,Int.toNat_zero,Nat.zero_mul,Nat.sub_zero];have e1:(some (if n=0 then (⟨p,0,none⟩:Addr) else (⟨p,0,none⟩:Addr).add 0))=some ⟨p,0,none⟩:=by
      split
      .rfl
      .simp only[Addr.add]
       split<;>simp_all
     rw[e1];exact .sl b 0 0 _ p a4 n hb zSp zOm
    .exact absurd e zSp
   .exact absurd e zSp
  .rename_i s U
   cases r;simp only at e;split at e
   .split at e
    .rename_i hc
     obtain⟨c1,c2,c3⟩:=hc;simp only[qp]at e;subst e;rcases T with ⟨_,rfl⟩|⟨_,_,h,_⟩
     .have i:=Z5 (P:=P) (w:=w) (isSlice:=false) (len:=s.size) (cap:=s.size) J R (mx:=none) (vmx:=none) (.inl ⟨rfl,rfl⟩) zSp c1 c2 (by simp<;>omega) zSp (qk _)
      exact⟨_,by simp only[Instr.sliceAt,Instr.slice,qO,run_underlying U,qR,i,zD,Option.isSome_none,Bool.false_eq_true,if_false],.sc _ rfl⟩
     .exact absurd h zSp
    .exact absurd e zSp
   .exact absurd e zSp
  .exact absurd e zSp
 .exact absurd e zSp
end
end Go.Ev
namespace Go.Ev
open Go Go.RowKit
theorem qfR(off):∀(l:List yc)(s cs),((l.zipIdx s).foldl (fun (cs:Array yc) (x:yc×Nat)=>cs.setIfInBounds (off+x.2) x.1) cs).size=cs.size:=by
 intro l;induction l with
 |nil=>intro s cs;rfl
 |cons y j g=>simp_all
theorem qfS(off):∀(l:List yc)(s cs k),off+s+l.length<=cs.size ->
  ((l.zipIdx s).foldl (fun (cs:Array yc) (x:yc×Nat)=>cs.setIfInBounds (off+x.2) x.1) cs).getD k uk =
   if off+s<=k/\k<off+s+l.length then l.getD (k-(off+s)) uk else cs.getD k uk:=by
 intro l;induction l with
 |nil=>simp_all[if_neg,List.length_nil]
 |cons y j i =>
  intro s cs k h;simp only[yp]at h;simp only[List.zipIdx_cons,List.foldl_cons];rw[i (s+1) _ k zSo];by_cases g:off+(s+1)<=k/\k<off+(s+1)+j.length
  .rw [if_pos g,if_pos (by grind)]
   rw[show k-(off+s)=(k-(off+(s+1)))+1 by omega];simp
  .rw [if_neg g]
   by_cases o:k=off+s
   .subst o
    rw[if_pos zSp];simp[qT,show off+s<cs.size by omega]
   .rw [if_neg (by grind)]
    simp only[qT]
    grind
@[go_sem] def Qn(place:Nat->Option (Nat×Nat))(cells:List AV):List (Nat×AV)->Option (List AV)
 | []=>some cells
 | (i,v) :: g =>
  match place i with
  |none=>none
  |some (off,size)=>if v.cells.length=size/\off+size<=cells.length/\v.cells.all AV.one=true then Qn place (putCells cells off v.cells) g else none
theorem pu(cells off xs)(h:off+xs.length<=cells.length):(putCells cells off xs).length=cells.length:=by
 grind [y9]
theorem qfT(cells off xs)(h:off+xs.length<=cells.length)(k) :
  (putCells cells off xs)[k]?=if off<=k/\k<off+xs.length then xs[k-off]? else cells[k]?:=by
 rw[y9 _ _ _ h,zE];by_cases g:k<off
 .rw [zIn,qI zSo,j6,if_pos g]
 .have i:(cells.take off).length=off:=by simp;omega
  rw[zN zOm,i];by_cases j:k<off+xs.length
  .rw [if_pos zOm,zGa]
  .rw [zIn,zN zOm,uB]
   congr 1;omega
def Jr(G:Gh)(h:Array Obj):List (Nat×AV)->List (Nat×yc)->Prop
 | [],[]=>True
 | (i,x) :: p,(j,v) :: g=>i=j/\VRel G h x v/\Jr G h p g
 |_,_=>False
theorem pv{G h place}:∀ ps g cells arr z,Jr G h ps g ->
  arr.size=cells.length->(∀(k) x,cells[k]?=some x->VRel G h x (arr.getD k uk))->Qn place cells ps=some z ->
  ∃ r,Instr.fill place arr g=some r/\r.size=z.length/\z.length=cells.length/\∀(k) x,z[k]?=some x->VRel G h x (r.getD k uk):=by
 intro ps;induction ps with
 |nil =>
  intro g cells arr z o C J h;cases g with
  |nil =>
   simp only[Qn,qp]at h;subst h;exact⟨arr,rfl,C,rfl,J⟩
  |cons=>exact o.elim
 |cons p ps P =>
  intro g cells arr z o C J h;obtain⟨i,x⟩:=p;cases g with
  |nil=>exact o.elim
  |cons q g =>
   obtain⟨j,v⟩:=q;obtain⟨rfl,R,o⟩:=o;simp only[Qn]at h;split at h
   .grind
   .rename_i off size T
    split at h
    .rename_i l
     obtain⟨c1,c2,c3⟩:=l;obtain⟨U,t,I⟩:=R.cells (fun c a0=>by grind);have hl:v.cells.toList.length=size:=zSo;obtain⟨r,h1,h2,h3,h4⟩:=P g (putCells cells off x.cells) (v.cells.zipIdx.foldl (fun cs (x:yc×Nat)=>cs.setIfInBounds (off+x.2) x.1) arr) z o
      (by rw[pu _ _ _ zOm,<-Array.foldl_toList,Array.toList_zipIdx,qfR,C])
      (by
       intro k y hk;rw[qfT _ _ _ zOm]at hk;rw[<-Array.foldl_toList,Array.toList_zipIdx,qfS off _ 0 arr k zOm];by_cases a1:off<=k/\k<off+x.cells.length
       .simp_all
       grind) h
     simp_all[pu,Instr.fill,if_neg]
    grind
def ym(P:qc)(t:qe):Option (Nat->Option (Nat×Nat)):=
 match P.underlying t with
 |some (.array _ e)=>(szOf P e).map fun s=>fun i=>some (i*s,s)
 |some (.struct j)=>(j.toList.mapM (fun f=>(P.info? f.type).map fun i=>(f.offset,i.size))).map fun g=>fun i=>g.toArray[i]?
 |_=>none
@[go_sem] def VG(P:qc)(t:qe)(ps:List (Nat×AV)):Option AV:=
 match qA P t,ym P t with
 |some z,some place=>(Qn place z.cells ps).map .agg
 |_,_=>none
theorem Js{G h}(v)(g:∀ c,c∈(ofV v).cells->c.one=true) :
  v.cells.size=(ofV v).cells.length/\∀(k) x,(ofV v).cells[k]?=some x->VRel G h x (v.cells.getD k uk):=
 let ⟨i,j,_⟩:=(VRel.ofV (G:=G) (h:=h) v).cells g
 ⟨i,j⟩
theorem qfU{P G w t ps o z}(J:Jr G w.heap ps o.toList)
  (R:∀ y,qA P t=some y->y.cells.all AV.one=true) (e:VG P t ps=some z):∃ u,(Instr.build t o).run P w = .ok u w/\VRel G w.heap z u:=by
 unfold VG at e;split at e
 .rename_i C place g j
  cases hf:Qn place C.cells ps with
  |none=>simp[hf]at e
  |some r =>
   simp only[hf,zg,qp]at e;subst e;have T:=R C g;unfold qA at g;cases l:P.info? t with
   |none=>simp[l]at g
   |some it =>
    simp only[l,Option.bind_some,vL]at g;obtain⟨v,hv,rfl⟩:=g;obtain⟨g1,U⟩:=Js (G:=G) (h:=w.heap) v (fun c hc=>by grind);obtain⟨I,h1,h2,h3,h4⟩:=pv ps o.toList _ v.cells r J g1 U hf;refine⟨.agg I,?_,.agg _ _ h2 h4⟩;refine run_build w t o I ?_;unfold ym at j;unfold Program.built;split at j
    .rename_i n el hu
     cases a0:P.info? el with
     |none=>grind [szOf]
     |some ie =>
      grind [szOf,qp]
    .rename_i fs hu
     cases hm:fs.toList.mapM (fun f=>(P.info? f.type).map fun i=>(f.offset,i.size)) with
     |none=>simp[hm]at j
     |some p =>
      grind
    grind
 grind
end Go.Ev
namespace Go.Ev
open Go Go.RowKit
section
variable {G:Gh}{xs:List (List AV)}{mu:Mu}{P:qc}{w:qf}
def qS(sz:Nat)(xs:List (List AV)):Prop:=∀ r,r∈xs->r.length=sz/\r.all AV.one=true
theorem qS.ok{sz}(h:qS sz xs):ja sz xs:=fun r g=>(h r g).1
theorem qS.one{sz}(h:qS sz xs):∀ c,c∈xs.flatten->c.one=true:=by
 intro c i;obtain⟨r,j,g⟩:=k9.1 i;exact by simpa using qY.1 (h r j).2 c g
theorem Wy(l:List yc)(k):l.toArray.getD k uk=l.getD k uk:=by
 simp[qT,zr]
theorem pw(s:Sim G mu w.heap){x v}(t)(r:VRel G w.heap x v)(o:x.cells.all AV.one=true) :
  ∃ G',(newVar t v).run P w = .ok ⟨w.heap.size,0,none⟩ (w.alloc (.cells v.cells t))/\Stp G mu w G' (mu++[.arr x.cells]) (w.alloc (.cells v.cells t)) /\
   VRel G' (w.alloc (.cells v.cells t)).heap (.ptr mu.length 0) (.pointer (some ⟨w.heap.size,0,none⟩)):=by
 obtain⟨i,g,_⟩:=r.cells (fun c p=>by grind);refine⟨_,rfl,sR s (.cells v.cells t) (.arr x.cells) v.cells.size ?_,.ptr _ 0 w.heap.size v.cells.size ?_⟩
 .intro _
  refine⟨v.cells,t,rfl,rfl,zOm,fun j y l=>⟨by grind,g j y l⟩⟩
 .show (G.blk++[_])[mu.length]?=_
  rw[<-s.len];simp
theorem qfV(s:Sim G mu w.heap){x v}(t)(r:VRel G w.heap x v)(l:x.cells.all AV.one=true) :
  ∃ G',(newVar t v).run P w = .ok ⟨w.heap.size,0,none⟩ (w.alloc (.cells v.cells t))/\Stp G mu w G' mu (w.alloc (.cells v.cells t)) /\
   VRel G' (w.alloc (.cells v.cells t)).heap (.ip x.cells) (.pointer (some ⟨w.heap.size,0,none⟩)):=by
 obtain⟨i,g,_⟩:=r.cells (fun c o=>by grind);have U:=sB s (.cells v.cells t);refine⟨_,rfl,U,.ip _ _ v.cells t (0,0) (fun k=>v.cells.getD k uk) (Vw w _) rfl (.inr rfl) ?_ ?_⟩
 .simp_all [qj,qT]
 .intro k y j
  exact U.vrel s (g k y j)
theorem px(z n){k}{x:AV}(h:((qM n z).flatten)[k]?=some x):z[k % z.length]?=some x:=by
 induction n generalizing k with
 |zero=>simp at h
 |succ n g =>
  grind [u3,qI,Nat.mod_eq_of_lt,zN,Nat.mod_eq_sub_mod]
theorem py(z:List AV)(n):((qM n z).flatten).length=n*z.length:=by simp
@[go_sem] def Z6(sz:Nat):List (List AV)->List (Nat×AV)->Option (List (List AV))
 |rows,[]=>some rows
 |rows,(i,v) :: g=>if v.cells.length=sz/\i<rows.length/\v.cells.all AV.one=true then Z6 sz (rows.set i v.cells) g else none
theorem VH{sz}:∀ rows i r,ja sz rows->r.length=sz->i<rows.length->(rows.set i r).flatten=putCells rows.flatten (i*sz) r:=by
 intro rows;induction rows with
 |nil=>grind
 |cons y j I =>
  intro i r l t J;have P:y.length=sz:=l y zSp;have R:(y :: j).flatten.length=(j.length+1)*sz:=yy (xs:=y :: j) l;cases i with
  |zero =>
   grind [y9,Nat.succ_mul]
  |succ i =>
   simp only[List.set_cons_succ,u3];have o:i<j.length:=zUs J;have g:ja sz j:=fun r t=>l r (zP1 t)
   rw[I i r g t o];have C:i*sz+r.length<=j.flatten.length:=by
    rw[yy g,t];have:(i+1)*sz<=j.length*sz:=Nat.mul_le_mul_right _ o;rw[Nat.succ_mul]at this;exact this
   rw[y9 _ _ _ C,y9 _ _ _ (by simp only[zf,P,Nat.succ_mul];omega)];simp_all[Nat.succ_mul,Nat.add_comm,List.take_append,List.drop_append,List.take,List.take_of_length_le,List.drop]
theorem qfW{sz}:∀ ps rows g,ja sz rows->Z6 sz rows ps=some g ->
  Qn (fun i=>some (i*sz,sz)) rows.flatten ps=some g.flatten/\ja sz g/\g.length=rows.length:=by
 intro ps;induction ps with
 |nil =>
  intro rows g j h;simp only[Z6,qp]at h;subst h;exact⟨rfl,j,rfl⟩
 |cons p ps t =>
  intro rows g j h;obtain⟨i,v⟩:=p;simp only[Z6]at h;split at h
  .rename_i C
   obtain⟨c1,c2,c3⟩:=C;have l:ja sz (rows.set i v.cells):=by
    intro r I;rcases List.mem_or_eq_of_mem_set I with h|h
    .exact j r h
    grind
   obtain⟨J,P,R⟩:=t _ g l h;refine⟨?_,P,by rw[R];simp⟩;simp only[Qn];have o:i*sz+sz<=rows.flatten.length:=by
    rw[yy j];have:(i+1)*sz<=rows.length*sz:=Nat.mul_le_mul_right _ c2
    grind
   rw[if_pos ⟨c1,o,c3⟩,<-VH rows i v.cells j c1 c2];exact J
  grind
@[go_sem] def VI(P:qc)(t:qe)(len:Nat)(ps:List (Nat×AV)):Option AV:=
 match qD P t with
 |some (e,sz,_) =>
  match qA P e with
  |some z=>if len*sz<=16777216/\z.cells.length=sz/\z.cells.all AV.one=true then (Z6 sz (qM len z.cells) ps).map (.lst true) else none
  |none=>none
 |none=>none
theorem VJ{t z}(h:qA P t=some z):∃ i v,P.info? t=some i/\i.zero=some v/\z=ofV v:=by
 unfold qA at h;cases g:P.info? t with
 |none=>simp[g]at h
 |some it =>
  simp only[g,Option.bind_some,vL]at h;obtain⟨v,j,rfl⟩:=h
  grind
theorem sJ{h sz b cap cs e g}(full)(i:h[b]?=some (.cells cs e g))(j:xs.length<=cap)(l:full=true->cap=xs.length)
  (o:G.imm b) (p:ja sz xs) (C:xs.flatten.length<=cs.size) (t:∀(k) x,xs.flatten[k]?=some x->VRel G h x (cs.getD k uk)):VRel G h (.lst full xs) (.slice (some ⟨b,0,none⟩) xs.length cap):=by
 refine .lst full xs sz ⟨b,0,none⟩ cap cs e g (fun k=>cs.getD k uk) i rfl j l o p ?_ t;intro k x I;have:k<cs.size:=by grind
 simp[qT,this]
theorem pz{z:Array yc}{n k}(g:k<n)(i:0<z.size):(((Array.range n).map (z[· % z.size]!)).getD k uk)=z.getD (k % z.size) uk:=by
 simp_all[Nat.mod_lt,qT,getElem!_pos]
theorem qfX(s:Sim G mu w.heap){t len ps J x}(hp:Jr G w.heap ps J.toList)
  (e:VI P t len ps=some x):Good P G mu w (Instr.buildSlice t len J) x mu:=by
 unfold VI at e;split at e
 .rename_i el sz bt hs
  split at e
  .rename_i z hz
   split at e
   .rename_i hc
    obtain⟨c1,c2,c3⟩:=hc;cases o:Z6 sz (qM len z.cells) ps with
    |none=>simp[o]at e
    |some rows =>
     simp only[o,zg,qp]at e;subst e;obtain⟨a5,hu,a4,a6,a7⟩:=ul hs;have R:szOf P el=some sz:=by grind [szOf]
     obtain⟨it,j,T,a0,rfl⟩:=VJ hz;have C:ja sz (qM len (ofV j).cells):=by
      intro r o;rw[List.eq_of_mem_replicate o];exact c2
     obtain⟨f1,f2,f3⟩:=qfW ps _ rows C o;have g:=Js (G:=G) (h:=w.heap) j (fun c hc=>by grind);have l:((qM len (ofV j).cells).flatten).length=len*sz:=by rw[py,c2]
     obtain⟨arr,k1,k2,k3,k4⟩:=pv (G:=G) (h:=w.heap) ps J.toList _ ((Array.range (len*sz)).map ((if len*sz=0 then #[] else j.cells)[· % (if len*sz=0 then #[] else j.cells).size]!)) _ hp (by simp[l])
      (by
       intro k y hk;have a1:k<len*sz:=by grind
       have a2:¬len*sz=0:=zOm;have:=px _ _ hk;rw[c2]at this;simp only[if_neg a2];have I:j.cells.size=sz:=by rw[g.1,c2]
       rw[pz a1 (by grind),I]
       grind) f1
     have U:=sB s (.cells arr el);have i:rows.length=len:=by rw[f3];simp
     refine⟨.slice (some ⟨w.heap.size,0,none⟩) len len,_,_,?_,U,?_⟩
     .have a8:(zeroValue el).run P w = .ok j w:=by simp[zeroValue,typeInfo,T,a0]
      have a3:¬(len*sz > 2 ^ 24):=zOm;simp only[Instr.buildSlice,qO,run_underlying hu,qR,jr R,if_neg a3];by_cases h0:len*sz=0
      .simp_all [if_pos,qO,qR,zD,newRow,run_newObj]
      simp_all[if_neg,qO,qR,zD,newRow,run_newObj]
     .have:=sJ (G:=⟨fun b=>G.imm b\/b=w.heap.size,G.blk⟩) (h:=(w.alloc (.cells arr el)).heap) (xs:=rows) (sz:=sz) (b:=w.heap.size) (cap:=len) true (Vw w _) zOm (fun _=>i.symm) (.inr rfl) f2 zOm
       (fun k y hk=>U.vrel s (k4 k y hk))
      rw[i]at this;exact this
   grind
  grind
 grind
end
end Go.Ev
namespace Go.Ev
open Go Go.RowKit
theorem Stp.move{G mu w}(s:Sim G mu w.heap)(i c p o)(hc:mu[i]?=some c)(hd:c ≠ .dead)(hk:G.blk[i]?=some (p,o)) :
  Stp G mu w ⟨G.imm,G.blk++[(p,o)]⟩ (mu.set i .dead++[c]) w:=by
 have R:G.le ⟨G.imm,G.blk++[(p,o)]⟩:=⟨fun b h=>h,fun j x h=>by
  grind⟩
 have a4:=s.len;have a1:(mu.set i Cell.dead).length=mu.length:=zSp
 have C:∀(j:Nat)(l:Cell) b t,(mu.set i Cell.dead++[c])[j]?=some l->l ≠ .dead->(G.blk++[(p,o)])[j]?=some (b,t) ->
   (j<mu.length/\j≠i/\mu[j]?=some l/\G.blk[j]?=some (b,t))\/(j=mu.length/\l=c/\b=p/\t=o):=by
  intro j l b t P g T;rcases yq P with ⟨J,I⟩|⟨J,I⟩
  .grind
  .rcases yq T with ⟨h',_⟩|⟨_,h'⟩
   .omega
   .obtain ⟨rfl,rfl⟩:=Prod.mk.inj h'
    exact .inr ⟨zOm,I,rfl,rfl⟩
 refine⟨R,⟨by simp[s.len],s.imm,?_,?_,?_,s.tab⟩,fun _ _ _=>rfl,qk _,?_,fun b h => .inl h,rfl,rfl,rfl,qk _⟩
 .intro j l b t P g T
  rcases C j _ b t P g T with ⟨_,_,J,I⟩|⟨_,rfl,rfl,rfl⟩
  .obtain ⟨o',g1,g2⟩:=s.obj j l b t J g I
   exact⟨o',g1,g2.le R⟩
  .obtain ⟨o',g1,g2⟩:=s.obj i l b t hc hd hk
   exact⟨o',g1,g2.le R⟩
 .intro j l b t P g T
  rcases C j _ b t P g T with ⟨_,_,J,I⟩|⟨_,rfl,rfl,rfl⟩
  .exact s.live j l b t J g I
  .exact s.live i l b t hc hd hk
 .intro j k l ck b t t' P a2 g U a0 a3
  rcases C j _ b t P g a0 with ⟨l1,n1,J,I⟩|⟨l1,e1,e2,e3⟩<;>rcases C k _ b t' a2 U a3 with ⟨l2,n2,h3,h4⟩|⟨l2,e4,e5,e6⟩
  .exact s.inj j k l ck b t t' J h3 g U I h4
  .subst e5
   exact absurd (s.inj j i l c b t o J hc g hd I hk) n1
  .subst e2
   exact absurd (s.inj k i ck c b t' o h3 hc U hd h4 hk) n2
  .omega
 .intro b T
  obtain⟨j,l,t,P,g,a0⟩:=T;rcases C j _ b t P g a0 with ⟨_,_,J,I⟩|⟨_,rfl,rfl,rfl⟩
  .exact .inl ⟨j,l,t,J,g,I⟩
  .exact .inl ⟨i,l,t,hc,hd,hk⟩
@[go_sem] def Jt(n:Nat)(z:List AV):List AV:=
 match z with
 | [x]=>qM n x
 |z=>(qM n z).flatten
theorem pA(n z):Jt n z=(qM n z).flatten:=by
 unfold Jt;split
 .simp
 .rfl
@[go_sem] def Ju(P:qc)(mu:Mu)(t:qe)(len cap:AV):Option (AV×Mu):=
 match len,cap,qD P t with
 | .sc (.int .i64 l),.sc (.int .i64 c),some (e,sz,g) =>
  match qA P e with
  |some z=>if 0<=l/\l<=c/\c<=4294967296/\g<=16384/\z.cells.length=sz/\z.cells.all AV.one=true/\sz≠0 then
    some (.sl mu.length sz 0 l.toNat,mu++[.arr (Jt l.toNat z.cells)]) else none
  |none=>none
 |_,_,_=>none
theorem yn{n}(g : -9223372036854775808<=n)(i:n<=9223372036854775807):qm.wrap n=n:=IntWalk.i64_in n ⟨g,i⟩
theorem zWr{x}(g:-9223372036854775808<=x:=by omega)(i:x<=9223372036854775807:=by omega):qm.wrap x=x:=yn g i
theorem zWk(k:Nat)(g:-9223372036854775808<=(k:Int)+1:=by omega)(i:(k:Int)+1<=9223372036854775807:=by omega):qm.wrap ((k:Int)+1)=(k:Int)+1:=yn g i
theorem qfY{P G mu mu' w}(s:Sim G mu w.heap){t len cap x vl vc}(rl:VRel G w.heap len vl)(rc:VRel G w.heap cap vc)
  (e:Ju P mu t len cap=some (x,mu')):Good P G mu w (Instr.makeSlice t vl vc) x mu':=by
 unfold Ju at e;split at e
 .rename_i l c el sz bt hs
  cases rl;cases rc;split at e
  .rename_i z hz
   split at e
   .rename_i hc
    obtain⟨c1,c2,c3,c4,c5,c6,c7⟩:=hc;simp only[qp,u4]at e;obtain⟨rfl,rfl⟩:=e;obtain⟨i,hu,C,a8,T⟩:=ul hs;have a0:szOf P el=some sz:=by grind [szOf]
    obtain⟨it,o,a1,a2,rfl⟩:=VJ hz;have g:=Js (G:=G) (h:=w.heap) o (fun c hc=>by grind);have a3:(zeroValue el).run P w = .ok o w:=by simp[zeroValue,typeInfo,a1,a2]
    have a4:qm.wrap l=l:=zWr;have a5:qm.wrap c=c:=zWr;have a9:((i.bytes:Nat):Int)*c<=2 ^ 48:=by
     rw[T];have h1:(bt:Int)*c<=16384*4294967296:=Int.mul_le_mul zOm zOm zOm zOm;omega
    have I:o.cells.size=sz:=by rw[g.1,c5]
    let arr:Array yc:=(Array.range (c.toNat*sz)).map ((if c.toNat*sz=0 then #[] else o.cells)[· % (if c.toNat*sz=0 then #[] else o.cells).size]!)
    have J:arr.size=c.toNat*sz:=by simp[arr]
    have aa:l.toNat*sz<=c.toNat*sz:=Nat.mul_le_mul_right _ zOm;have ab:(Jt l.toNat (ofV o).cells).length=l.toNat*sz:=by rw[pA,py,c5]
    have U:=sR s (.cells arr el) (.arr (Jt l.toNat (ofV o).cells)) (c.toNat*sz) (by
     intro _;refine⟨arr,el,rfl,J,zOm,fun j y hj=>?_⟩;have ad:j<l.toNat*sz:=by grind
     have a6:¬c.toNat*sz=0:=zOm;rw[pA]at hj;have hy:=px _ _ hj;refine⟨by grind,?_⟩;have:=g.2 _ y hy;simp only[arr,if_neg a6];rw[pz zOm zOm,I,<-c5];exact this)
    refine⟨.slice (some ⟨w.heap.size,0,none⟩) l.toNat c.toNat,_,_,?_,U,?_⟩
    .have a7:(typeInfo el).run P w = .ok i w:=by simp[typeInfo,C]
     have n1:¬(((i.bytes:Nat):Int)*c > 2 ^ 48):=zOm;have p:((decide (c<0)||decide (((i.bytes:Nat):Int)*c > 2 ^ 48))||decide (l<0)||decide (l > c))=false:=by
      grind
     simp only[Instr.makeSlice,qO,run_underlying hu,qR,asInt,asIntOf,zD,a7,a4,a5,p,Bool.false_eq_true,if_false,run_askRoom,jr a0];by_cases R:c.toNat*sz=0
     .simp only[if_pos R,qO,zD,qR,newRow,run_newObj]
      simp only[arr,if_pos R];rfl
     .simp only[if_neg R,qO,a3,zD,qR,newRow,run_newObj]
      simp only[arr,if_neg R];rfl
    .refine .sl _ sz 0 _ w.heap.size (c.toNat*sz) c.toNat ?_ zOm zOm
     show (G.blk++[_])[mu.length]?=_;rw[<-s.len];simp
   grind
  grind
 grind
end Go.Ev
namespace Go.Ev
open Go Go.RowKit
section
variable {P:qc}{w:qf}
def qy(mu:Mu):AV->Option (List (List AV))
 | .lst _ p=>some p
 | .sl b sz off len=>match mu[b]? with
  |some (.arr cells)=>if off+len*sz<=cells.length then some ((qr len).map fun i=>(cells.drop (off+i*sz)).take sz) else none
  |_=>none
 |_=>none
theorem Wz(sz):∀(len)(cells:List AV),len*sz<=cells.length->((qr len).map fun i=>(cells.drop (i*sz)).take sz).flatten=cells.take (len*sz):=by
 intro len;induction len with
 |zero=>intro cells _;simp
 |succ n g =>
  intro cells h;rw[List.range_succ,zh,List.flatten_append,g cells (by rw[Nat.succ_mul]at h;omega)];simp only[List.map_cons,List.map_nil,u3,List.flatten_nil,List.append_nil,Nat.succ_mul];rw[List.take_add]
theorem VK{G mu}(s:Sim G mu w.heap){x v ys sz}(r:VRel G w.heap x v)(h:qy mu x=some ys)(R:qS sz ys) :
  ∃(a:Option Addr) (cap:Nat) (news:List yc),v = .slice a ys.length cap/\news.length=ys.length*sz/\(∀ u∈news,u.oneCell'=true) /\
   (∀(k) y,ys.flatten[k]?=some y->VRel G w.heap y (news.getD k uk))/\(Builtin.firstCells sz ys.length v).run P w = .ok news.toArray w/\(Builtin.firstCells sz ys.length v).run P w.drew = .ok news.toArray w.drew:=by
 have fin:∀(a:Addr)(cap:Nat)(rd:Nat->yc),(∀(k:Nat) y,ys.flatten[k]?=some y->w.cell? (a.add k)=some (rd k)/\VRel G w.heap y (rd k))->v = .slice (some a) ys.length cap ->
   ∃(a:Option Addr) (cap:Nat) (news:List yc),v = .slice a ys.length cap/\news.length=ys.length*sz/\(∀ u∈news,u.oneCell'=true) /\
   (∀(k:Nat) y,ys.flatten[k]?=some y->VRel G w.heap y (news.getD k uk))/\(Builtin.firstCells sz ys.length v).run P w = .ok news.toArray w/\(Builtin.firstCells sz ys.length v).run P w.drew = .ok news.toArray w.drew:=by
  intro a cap rd T U;subst U;have l:=yy R.ok;have t:∀ k,k<ys.length*sz->∃ y,ys.flatten[k]?=some y:=fun k hk=>⟨ys.flatten[k]' zOm,by simp[l,hk]⟩
  refine⟨some a,cap,(qr (ys.length*sz)).map rd,rfl,zSp,?_,?_,?_,?_⟩
  .intro u hu
   obtain⟨k,hk,rfl⟩:=qn.1 hu;obtain⟨y,i⟩:=t k (zUs hk);exact(T k y i).2.one (R.one y (qX i))
  .grind
  .grind [Builtin.firstCells,run_loadCells]
  .simp only[Builtin.firstCells]
   exact run_loadCells w.drew a _ rd (fun j hj=>by simp_all)
 unfold qy at h;split at h
 .rename_i full p
  simp only[qp]at h;subst h;cases r with
  |nil=>exact⟨none,0,[],rfl,zSp,zSp,zSp,by simp[Builtin.firstCells],by simp[Builtin.firstCells]⟩
  |emp _ a cap hc=>simp_all
  |lst _ _ g a cap cs e fr rd hb hs hl hc hi a2 hr U =>
   exact fin a cap rd (fun k y i=>⟨by rw[ZA hb hs];exact hr k y i,U k y i⟩) rfl
 .rename_i b g off len
  split at h
  .rename_i cells hc
   split at h
   .rename_i a3
    simp only[qp]at h;cases r with
    |sl _ _ _ _ o a0 cap hb ht hl =>
    obtain⟨arr,e,h1,h2,h3,h4⟩:=s.arr b cells o a0 hc hb;have C:ys.length=len:=by rw[<-h];simp
    subst C;by_cases h0:ys.length=0
    .simp_all
    .have I:g=sz:=by
      have J:0<ys.length:=zOm;have hm:(cells.drop (off+0*g)).take g∈ys:=by
       rw[<-h];exact qn.2 ⟨0,zUs J,rfl⟩
      have:=(R _ hm).1;have a1:g<=ys.length*g:=Nat.le_mul_of_pos_left _ J;simp at this;omega
     subst I;have l:ys.flatten=(cells.drop off).take (ys.length*g):=by
      rw[<-h];have:=Wz g ys.length (cells.drop off) zSo;simp only[List.drop_drop]at this;simpa using this
     refine fin ⟨o,off,none⟩ cap (fun k=>arr.getD (off+k) uk) (fun k y i=>?_) rfl;rw[l,j6]at i;split at i
     .rw [uB]at i
      refine⟨?_,(h4 _ y i).2⟩;rw[ZA (a:=⟨o,off,none⟩) h1 rfl];have a4:off+k<cells.length:=(qj.1 i).1;have:off+k<arr.size:=zOm;simp[qT,this]
     grind
   grind
  grind
 grind
def jN(P:qc)(mu:Mu)(g:Array qe)(s x:AV)(K:AV->Mu->Prop):Prop:=
  ∃ t l e sz o j,g=#[t,l]/\qD P t=some (e,sz,o)/\(qD P l).isSome=true/\(∃ i,qA P e=some i/\i.cells.length=sz/\i.cells.all AV.one=true)/\sz≠0/\o<=16384/\qy mu x=some j/\qS sz j /\
    ((∃ p,s = .lst true p/\qS sz p/\p.length+j.length<=4294967296/\(j=[]->K s mu)/\(j≠[]->K (.sl mu.length sz 0 (p.length+j.length)) (mu++[.arr (p++j).flatten]))) \/
     (∃ b len cells,s = .sl b sz 0 len/\mu[b]?=some (.arr cells)/\len*sz<=cells.length/\len+j.length<=4294967296 /\
        K (.sl mu.length sz 0 (len+j.length)) (mu.set b .dead++[.arr (cells.take (len*sz)++j.flatten)])))
theorem pB{t I ty e i d}(J:P.underlying t=some (.slice e))(o:P.underlying I=some (.slice d))(R:P.info? e=some i)
  {base} {g j n cap} {a} {news} {w'}
  (hf:(Builtin.firstCells i.size n (.slice a n cap)).run P w = .ok news.toArray w) (l:g+n<=j)
  (p:∀ b,base=some b->(storeCells (b.add (g*i.size)) news).run P w = .ok () w') (C:base=none->w'=w) :
  (Builtin.append_ #[t,I] ty #[.slice base g j,.slice a n cap]).run P w = .ok (.slice base (g+n) j) w':=by
 cases base with
 |none =>
  have:=C rfl;subst this;simp[Builtin.append_,run_underlying J,run_underlying o,sizeOf,typeInfo,R,Builtin.lenOf,l,hf]
 |some b =>
  have:=p b rfl;simp[Builtin.append_,run_underlying J,run_underlying o,sizeOf,typeInfo,R,Builtin.lenOf,l,hf,this]
theorem qfZ{t J ty e i z d}(T:P.underlying t=some (.slice e))(C:P.underlying J=some (.slice d))(U:P.info? e=some i)(hz:i.zero=some z)
  {base a} {g j n cap} {l news}
  (I:(Builtin.firstCells i.size g (.slice base g j)).run P w.drew = .ok l.toArray w.drew) (hf:(Builtin.firstCells i.size n (.slice a n cap)).run P w.drew = .ok news.toArray w.drew)
  (hg:j<g+n) (a0:((g+n:Nat):Int)<=9223372036854775807) (R:Builtin.nextslicecap (g+n) j*i.bytes<=281474976710656) :
  (Builtin.append_ #[t,J] ty #[.slice base g j,.slice a n cap]).run P w =
   .ok (.slice (some ⟨w.heap.size,0,none⟩) (g+n) (grownCap w (g+n) j e))
    (w.drew.alloc (.cells (l++(news++(yW z.cells (grownCap w (g+n) j e-(g+n))).toList)).toArray e)):=by
 have hn:¬(g+n<=j):=zOm;have o:¬(9223372036854775807<((g:Int)+(n:Int))):=zOm;have p:¬(281474976710656<Builtin.nextslicecap (g+n) j*i.bytes):=zOm;simp[Builtin.append_,run_underlying T,run_underlying C,sizeOf,typeInfo,zeroValue,U,hz,Builtin.lenOf,hn,o,p,Question.forced,hf,I,newRow,grownCap];congr 2;apply Array.ext';simp
theorem pC(w g i e):g<=grownCap w g i e:=by
 simp only[grownCap,Question.cut];omega
theorem pD{g cap bt}(h:cap<g)(i:g<=4294967296)(j:bt<=16384):Builtin.nextslicecap g cap*bt<=281474976710656:=by
 refine growslice_fits h ?_;have:g*bt<=4294967296*16384:=Nat.mul_le_mul i j;omega
theorem pE{G mu}(s:Sim G mu w.heap){I ty sv xv vs vx}(rs:VRel G w.heap sv vs)(rx:VRel G w.heap xv vx){K}
  (h:jN P mu I sv xv K):∃ z mu',K z mu'/\Good P G mu w (Builtin.append_ I ty #[vs,vx]) z mu':=by
 obtain⟨t,t',e,sz,bt,ys,rfl,av,bk,⟨zv,aw,ax,ay⟩,bl,az,b0,a9,h⟩:=h;obtain⟨i,hu,hi,rfl,rfl⟩:=ul av;obtain⟨d,ag⟩:∃ d,P.underlying t'=some (.slice d):=by
  grind [qD,ul]
 obtain⟨i',z,b1,hz,rfl⟩:=VJ aw;obtain rfl:i=i':=Option.some.inj (hi.symm.trans b1);have ak:z.cells.size=i.size:=by rw[(Js (G:=G) (h:=w.heap) z (fun c hc=>by simpa using qY.1 ay c hc)).1,ax]
 obtain⟨a,cap,l,rfl,ah,al,a5,hf,b2⟩:=VK (P:=P) s rx b0 a9;have b3:=yy a9.ok
 have grow:∀(base:Option Addr)(g J:Nat)(o:List yc)(oc:List AV)(b4:Mu)(G1:Gh),g*i.size=oc.length->o.length=oc.length->(∀(k:Nat) y,oc[k]?=some y->y.one=true/\VRel G w.heap y (o.getD k uk)) ->
   (Builtin.firstCells i.size g (.slice base g J)).run P w.drew = .ok o.toArray w.drew->J<g+ys.length->g+ys.length<=4294967296 ->
   Good P G mu w (Builtin.append_ #[t,t'] ty #[.slice base g J,.slice a ys.length cap]) (.sl mu.length i.size 0 (g+ys.length)) (mu++[.arr (oc++ys.flatten)]):=by
  intro base g J o oc b4 G1 b5 a2 R aa hg a6;have T:=qfZ (ty:=ty) hu ag hi hz aa b2 hg zOm (pD hg a6 az);have b6:=pC w (g+ys.length) J e;generalize grownCap w (g+ys.length) J e=gc at T b6;have b7:(yW z.cells (gc-(g+ys.length))).toList.length=(gc-(g+ys.length))*z.cells.size:=by simp[size_zeroCells]
  have sd:Sim G mu w.drew.heap:=s;have U:=sR sd (.cells (o++(l++(yW z.cells (gc-(g+ys.length))).toList)).toArray e) (.arr (oc++ys.flatten)) ((o++(l++(yW z.cells (gc-(g+ys.length))).toList)).length) (by
   intro _;refine⟨_,e,rfl,zSp,by simp only[zf];omega,fun j y hj=>?_⟩;rw[Wy,zr];by_cases ab:j<oc.length
   .rw [qI ab]at hj
    rw[zGa,<-zr];exact R j y hj
   .rw [zN zOm]at hj
    rw[zN zOm,a2];have:j-oc.length<ys.flatten.length:=(qj.1 hj).1;rw[zGa,<-zr];exact⟨a9.one y (qX hj),a5 _ y hj⟩)
  have an:(o++(l++(yW z.cells (gc-(g+ys.length))).toList)).length=gc*i.size:=by
   simp only[zf,b7,ak,a2,<-b5,ah,<-Nat.add_mul];congr 1;omega
  rw[an]at U;refine⟨_,_,_,T,(Stp.drew s).trans s U,?_⟩;refine .sl _ i.size 0 _ w.heap.size (gc*i.size) gc ?_ zOm zOm;show (G.blk++[_])[mu.length]?=_;rw[<-s.len];simp
 rcases h with ⟨p,rfl,ai,a6,b8,b9⟩|⟨b,len,cells,rfl,hc,ao,a6,hk⟩
 .obtain ⟨a0,ae,o,rfl,a2,_,R,aa,a4⟩:=VK (P:=P) s rs (ys:=p) rfl ai
  have aq:ae=p.length:=by
   obtain⟨a1,c1,h1,_,h2,_⟩:=rs.lst_inv;cases h1;exact h2 rfl
  subst aq;by_cases hy:ys=[]
  .subst hy
   refine⟨_,_,b8 rfl,_,_,_,?_,Stp.refl s,rs⟩;have hn:l=[]:=uZ (zUs ah);subst hn;exact pB (ty:=ty) hu ag hi hf zSp (fun b hb=>rfl) (fun _=>rfl)
  .have bm:0<ys.length:=List.length_pos_iff.2 hy
   have ar:=yy ai.ok;have:=grow a0 p.length p.length o p.flatten mu G ar.symm (by rw[a2,ar]) (fun k y hk=>⟨ai.one y (qX hk),R k y hk⟩) a4 zOm a6;rw[<-List.flatten_append]at this;exact⟨_,_,b9 hy,this⟩
 .refine ⟨_,_,hk,?_⟩
  have aj:qy mu (.sl b i.size 0 len)=some ((qr len).map fun j=>(cells.drop (j*i.size)).take i.size):=by
   simp only[qy,hc,Nat.zero_add];rw[if_pos ao]
  have bb:=rs;cases rs with
  |sl _ _ _ _ C ad a7 hb ht hl =>
  obtain⟨arr,e',h1,h2,h3,h4⟩:=s.arr b cells C ad hc hb;have au:qS i.size ((qr len).map fun j=>(cells.drop (j*i.size)).take i.size):=by
   intro r hr;obtain⟨j,hj,rfl⟩:=qn.1 hr;have bc:j<len:=zUs hj;have:(j+1)*i.size<=len*i.size:=Nat.mul_le_mul_right _ bc;rw[Nat.succ_mul]at this;refine⟨zSo,?_⟩;rw[qY];intro c be;obtain⟨k,hk⟩:=List.mem_iff_getElem?.1 (List.mem_of_mem_drop (vM be));exact(h4 k c hk).1
  have bg:=Wz i.size len cells ao;obtain⟨a0,ae,o,hv,a2,_,R,aa,a4⟩:=VK (P:=P) s bb aj au;rw[bg]at R;simp only[zX,List.length_range]at hv a2 aa a4;by_cases a3:len+ys.length<=a7
  ·
   have bn:len*i.size+l.length<=arr.size:=by
    have h5:=Nat.mul_le_mul_right i.size a3;rw[Nat.add_mul]at h5;rw[ah,h2];omega
   have T:=run_storeCells_at P C (len*i.size) e' l 0 arr w h1 zOm al;simp only[Nat.add_zero]at T;have bh:=pB (ty:=ty) (w':=w.setRow C (arr.toList.take (len*i.size)++l++arr.toList.drop (len*i.size+l.length)).toArray) hu ag hi hf a3 (base:=some ⟨C,0,none⟩)
    (fun b' bi=>by
     cases bi;have:(⟨C,0,none⟩:Addr).add (len*i.size)=⟨C,len*i.size,none⟩:=by unfold Addr.add;split<;>simp_all
     rw[this];exact T) zSp
   have st1:=sW (w':=w.setRow C (arr.toList.take (len*i.size)++l++arr.toList.drop (len*i.size+l.length)).toArray) s b (.arr cells) (.arr (cells.take (len*i.size)++ys.flatten)) C ad
    (.cells (arr.toList.take (len*i.size)++l++arr.toList.drop (len*i.size+l.length)).toArray e' (0,0)) hc zSp zSp hb zSp (setRow_heap w C arr _ e' _ h1) (fun k hk=>setRow_other w C k _ hk) rfl rfl rfl
    (by
     have af:(cells.take (len*i.size)).length=len*i.size:=zSo;have bj:(arr.toList.take (len*i.size)).length=len*i.size:=zSo;refine⟨_,e',rfl,zSo,by simp only[zf,af,b3];omega,fun j y hj=>?_⟩;rw[Wy,zr,zE];by_cases ab:j<len*i.size
     .rw [zGa,j6,if_pos ab]at hj
      rw[zGa,j6,if_pos ab,Jp,<-qT];exact h4 j y hj
     .rw [zN zOm,af]at hj
      rw[zN zOm,bj];have:j-len*i.size<ys.flatten.length:=(qj.1 hj).1;rw[zGa,<-zr];exact⟨a9.one y (qX hj),a5 _ y hj⟩)
   have a8:b<mu.length:=(qj.1 hc).1;have st2:=Stp.move st1.sim b (.arr (cells.take (len*i.size)++ys.flatten)) C ad (zP1 a8) zSp hb;rw[List.set_set]at st2;refine⟨_,_,_,bh,st1.trans s st2,?_⟩;refine .sl _ i.size 0 _ C ad a7 ?_ ht a3;show (G.blk++[_])[mu.length]?=_;rw[<-s.len];simp
  .obtain ⟨v,w',G',k1,k2,k3⟩:=grow (some ⟨C,0,none⟩) len a7 o (cells.take (len*i.size)) mu G zSo (by rw[a2];simp;omega) (fun k y hk=>by
    refine⟨?_,R k y hk⟩;rw[j6]at hk;split at hk
    .exact (h4 k y hk).1
    .exact absurd hk zSp) a4 zOm a6
   have st2:=sX k2.sim b;have a8:b<mu.length:=(qj.1 hc).1;rw[List.set_append_left _ _ a8]at st2;exact⟨v,w',G',k1,k2.trans s st2,k3⟩
end
end Go.Ev
namespace Go.Ev
open Go Go.RowKit
section
variable {es:List (AV×AV)}{xs:List (List AV)}{cs:List AV}
structure St where
 tm:Nat->AV
 mu:Mu
def St.put(st:St)(d:Option Tmp)(v:AV)(m:Mu):St:=
 ⟨match d with|some d=>fun i=>if i=d then v else st.tm i|none=>st.tm,m⟩
def St.ev(st:St):yj->AV
 | .tmp t=>st.tm t
 | .const v=>ofV v
 | .global _ => .any
 | .func f => .fn (.func f) [] []
structure Pol where
 mt:List Nat:=[]
inductive AEnd where
 |ret (v:AV)
 |pan (v:AV)
def zO(G:Gh)(h:Array Obj)(args:List AV)(g:Array yc):Prop:=
 g.size=args.length/\∀(k:Nat) x,args[k]?=some x->VRel G h x (g.getD k uk)
def yN(P:qc)(f:j1):Prop:=∀(args:Array yc)(w:qf),(callFunc f args).run P w = .ok (.enter f args) w
def qz(P:qc)(f:j1)(args:List AV)(mu:Mu)(R:AEnd->Mu->Prop):Prop:=yN P f /\
 ∀(G:Gh)(w:qf)(o:Array yc),Sim G mu w.heap->zO G w.heap args o ->
  Calls P f o w fun e j=>∃ l g,Stp G mu w l g j /\
   ((∃ r v,R (.ret r) g/\e = .returned v/\VRel l j.heap r v)\/(∃ r v,R (.pan r) g/\e = .panicked [{ v,recovered:=false }]/\VRel l j.heap r v))
structure Z7 (B:Nat) (w w':qf):Prop extends Below B w w' where
 drawn:w.drawn<=w'.drawn
def qh(P:qc)(f:j1)(args:List AV)(r:AV):Prop:=yN P f /\
 ∀(i:Nat->Prop)(w:qf)(l:Array yc),Sim ⟨i,[]⟩ [] w.heap->zO ⟨i,[]⟩ w.heap args l ->
  Calls P f l w fun e j=>∃ g v,e = .returned v/\(∀ b,i b->g b)/\(∀ b,g b->b<j.heap.size/\(i b\/w.heap.size<=b))/\Z7 w.heap.size w j/\VRel ⟨g,[]⟩ j.heap r v
def u6(P:qc)(f:j1)(args:List AV)(r:AV):Prop:=yN P f /\
 ∀(g:Nat->Prop)(w:qf)(j:Array yc),Sim ⟨g,[]⟩ [] w.heap->zO ⟨g,[]⟩ w.heap args j ->
  Calls P f j w fun e i=>∃ l v,e = .returned v/\(∀ b,l b->w.heap.size<=b/\b<i.heap.size)/\Z7 w.heap.size w i/\VRel ⟨l,[]⟩ i.heap r v
def HF(x:AV):Prop:=∀(G:Gh)(h:Array Obj)(v:yc),VRel G h x v->VRel ⟨G.imm,[]⟩ h x v
def FL(x:AV):Prop:=∀(G g:Gh)(h i:Array Obj)(v:yc),VRel G h x v->VRel g i x v
theorem HF.sc(v):HF (.sc v):=fun _ _ u r=>by cases r with|sc _ g=>exact .sc _ g
theorem HF.agg(h:∀ c,c∈cs->HF c):HF (.agg cs):=fun G i u r=>by
 cases r with
 |agg _ o j l=>exact .agg _ _ j (fun k x g=>h x (qX g) G i _ (l k x g))
theorem HF.tup(h:∀ c,c∈cs->HF c):HF (.tup cs):=fun G i u r=>by
 cases r with
 |tup _ o j l=>exact .tup _ _ j (fun k x g=>h x (qX g) G i _ (l k x g))
theorem HF.ip(h:∀ c,c∈cs->HF c):HF (.ip cs):=fun G i u r=>by
 cases r with
 |ip _ a arr e j rd l o p t C=>exact .ip _ a arr e j rd l o p t (fun k x g=>h x (qX g) G i _ (C k x g))
theorem HF.ifc{t x}(h:HF x):HF (.ifc t x):=fun G g u r=>by
 cases r with
 |ifc _ _ v i=>exact .ifc _ _ _ (h G g v i)
theorem HF.lst{full}(h:∀ r,r∈xs->∀ c,c∈r->HF c):HF (.lst full xs):=fun G j u r=>by
 cases r with
 |nil=>exact .nil _
 |emp _ a cap g=>exact .emp _ a cap g
 |lst _ _ sz a cap l e o rd p t C g I J P R =>
  refine .lst _ _ sz a cap l e o rd p t C g I J P (fun k x i=>?_);obtain⟨row,T,U⟩:=k9.1 (qX i);exact h row T x U G j _ (R k x i)
theorem HF.fn{f first caps}(j:∀ c,c∈first->HF c)(l:∀ c,c∈caps->HF c):HF (.fn f first caps):=fun G i u r=>by
 cases r with
 |fn _ _ _ o p t C I J=>exact .fn _ _ _ o p t C (fun k x g=>j x (qX g) G i _ (I k x g)) (fun k x g=>l x (qX g) G i _ (J k x g))
theorem HF.im(h:∀ p,p∈es->HF p.1/\HF p.2):HF (.im es):=fun G j u r=>by
 cases r with
 |im _ i ce clock l o t C I J=>exact .im _ i ce clock l o t (fun k x g=>(h x (qX g)).1 G j _ (C k x g)) (fun k x g=>(h x (qX g)).2 G j _ (I k x g)) J
theorem HF.ims(h:∀ p,p∈es->HF p.1/\HF p.2):HF (.ims es):=fun G C u r=>by
 cases r with
 |ims _ i I J _ g P r =>
  refine .ims _ i I J _ g P (HF.im (fun p l=>?_) G C _ r);obtain⟨j,o⟩:=List.mem_iff_getElem?.1 l;have t:j<es.length:=by rw[<-g.1];exact(qj.1 o).1
  rw[g.back t]at o;exact h p (qX o)
theorem FL.sc(v):FL (.sc v):=fun _ _ _ _ u r=>by cases r with|sc _ g=>exact .sc _ g
theorem FL.agg(h:∀ c,c∈cs->FL c):FL (.agg cs):=fun G j l g u r=>by
 cases r with
 |agg _ t o p=>exact .agg _ _ o (fun k x i=>h x (qX i) G j l g _ (p k x i))
theorem FL.tup(h:∀ c,c∈cs->FL c):FL (.tup cs):=fun G j l g u r=>by
 cases r with
 |tup _ t o p=>exact .tup _ _ o (fun k x i=>h x (qX i) G j l g _ (p k x i))
theorem FL.ifc{t x}(h:FL x):FL (.ifc t x):=fun G i j g u r=>by
 cases r with
 |ifc _ _ v l=>exact .ifc _ _ _ (h G i j g v l)
inductive Rd (mu:Mu):AV->AV->Prop
 |hf (x:AV) (h:HF x):Rd mu x x
 |sl (b sz off len:Nat) (cells:List AV) (ys:List (List AV)) (hc:mu[b]?=some (.arr cells)) (hl:off+len*sz<=cells.length) (hn:ys.length=len) (hz:ja sz ys)
   (h:∀(k:Nat) x y,cells[off+k]?=some x->ys.flatten[k]?=some y->Rd mu x y):Rd mu (.sl b sz off len) (.lst false ys)
 |ptr (b off:Nat) (cells ys:List AV) (hc:mu[b]?=some (.arr cells)) (hn:off+ys.length<=cells.length) (h:∀(k:Nat) x y,cells[off+k]?=some x->ys[k]?=some y->Rd mu x y):Rd mu (.ptr b off) (.ip ys)
 |mp (b:Nat) (es fs:List (AV×AV)) (hc:mu[b]?=some (.mp es)) (hn:fs.length=es.length) (hk:∀(k:Nat) x y,es[k]?=some x->fs[k]?=some y->Rd mu x.1 y.1) (hv:∀(k:Nat) x y,es[k]?=some x->fs[k]?=some y->Rd mu x.2 y.2):Rd mu (.mp b) (.im fs)
 |md (b:Nat) (es fs:List (AV×AV)) (hc:mu[b]?=some (.md es)) (hn:fs.length=es.length) (hk:∀(k:Nat) x y,es[k]?=some x->fs[k]?=some y->Rd mu x.1 y.1) (hv:∀(k:Nat) x y,es[k]?=some x->fs[k]?=some y->Rd mu x.2 y.2):Rd mu (.mp b) (.im fs)
 |agg (xs ys:List AV) (hn:ys.length=xs.length) (h:∀(k:Nat) x y,xs[k]?=some x->ys[k]?=some y->Rd mu x y):Rd mu (.agg xs) (.agg ys)
 |tup (xs ys:List AV) (hn:ys.length=xs.length) (h:∀(k:Nat) x y,xs[k]?=some x->ys[k]?=some y->Rd mu x y):Rd mu (.tup xs) (.tup ys)
 |lst (full:Bool) (xs ys:List (List AV)) (hn:ys.length=xs.length) (hz:∀(k:Nat) x y,xs[k]?=some x->ys[k]?=some y->x.length=y.length) (h:∀(k:Nat) x y,xs.flatten[k]?=some x->ys.flatten[k]?=some y->Rd mu x y):Rd mu (.lst full xs) (.lst full ys)
 |fn (f:Fn) (first first' caps caps':List AV) (hn:first'.length=first.length) (hm:caps'.length=caps.length) (h:∀(k:Nat) x y,first[k]?=some x->first'[k]?=some y->Rd mu x y) (h':∀(k:Nat) x y,caps[k]?=some x->caps'[k]?=some y->Rd mu x y) :
   Rd mu (.fn f first caps) (.fn f first' caps')
 |ifc (t:qe) (x y:AV) (h:Rd mu x y):Rd mu (.ifc t x) (.ifc t y)
 |wk (x:AV) (full:Bool) (ys:List (List AV)) (h:Rd mu x (.lst full ys)):Rd mu x (.lst false ys)
 |ims (x:AV) (es es':List (AV×AV)) (σ τ:Nat->Nat) (hp:PIx σ τ es es') (hd:(es.map Prod.fst).Nodup) (h:Rd mu x (.im es')):Rd mu x (.ims es)
theorem Rd.zsc{mu}(v):Rd mu (.sc v) (.sc v):=.hf _ (HF.sc _)
theorem pF{ys:List (List AV)}(g:ys.length=xs.length)(i:∀(k:Nat) x y,xs[k]?=some x->ys[k]?=some y->x.length=y.length):xs.flatten.length=ys.flatten.length:=by
 induction xs generalizing ys with
 |nil=>grind
 |cons x xs j =>
  cases ys with
  |nil=>simp at g
  |cons y ys =>
   have p:=i 0 x y rfl rfl;have:=j (ys:=ys) (zUs g) (fun k a b l o=>i (k+1) a b (zUs l) (zUs o))
   grind
theorem Rd.sound{G mu h}(s:Sim G mu h){x y}(r:Rd mu x y):∀{v},VRel G h x v->VRel ⟨fun b=>G.imm b\/Live G mu b,[]⟩ h y v:=by
 have a4:Gh.le ⟨G.imm,[]⟩ ⟨fun b=>G.imm b\/Live G mu b,[]⟩:=⟨fun b h => .inl h,fun _ _ h=>h⟩;induction r with
 |hf x P=>intro v r;exact(P G h v r).le a4
 |sl b sz off len cells j C hl T hz g U =>
  intro v r;subst T;cases r with
  |sl _ _ _ _ i l cap I ht a3 =>
  obtain⟨arr,e,h1,h2,h3,h4⟩:=s.arr b cells i l C I;by_cases h0:j=[]
  .subst h0;exact .emp false _ cap zSp
  .have a5:=yy hz
   have o:∀(k:Nat) y,j.flatten[k]?=some y->∃ x,cells[off+k]?=some x:=by
    grind
   refine .lst false j sz ⟨i,off,none⟩ cap arr e (0,0) (fun k=>arr.getD (off+k) uk) h1 rfl a3 zSp (.inr ⟨b,_,l,C,zSp,I⟩) hz ?_ ?_
   .intro k y R
    obtain⟨x,P⟩:=o k y R;have:off+k<arr.size:=by grind
    simp[qT,this]
   grind
 |ptr b off cells j C T g U =>
  intro v r;cases r with
  |ptr _ _ i l I =>
  obtain⟨arr,e,h1,h2,h3,h4⟩:=s.arr b cells i l C I;have o:∀(k:Nat) y,j[k]?=some y->∃ x,cells[off+k]?=some x:=by
   grind
  refine .ip j ⟨i,off,none⟩ arr e (0,0) (fun k=>arr.getD (off+k) uk) h1 rfl (.inr ⟨b,_,l,C,zSp,I⟩) ?_ ?_
  .intro k y R
   obtain⟨x,P⟩:=o k y R;have:off+k<arr.size:=by grind
   simp[qT,this]
  grind
 |mp b J fs C T hk hv a6 a7 =>
  intro v r;cases r with
  |mp _ i l I =>
  obtain⟨ce,cl,h1,h2,h3,h4,h5,h6⟩:=s.mp b J i l C I;have o:∀(k:Nat) y,fs[k]?=some y->∃ x,J[k]?=some x:=by
   grind
  refine .im fs i ce cl h1 (.inr ⟨b,_,l,C,zSp,I⟩) zOm ?_ ?_ (.of h5 h6)
  .grind
  grind
 |md b J fs C T hk hv a6 a7 =>
  intro v r;cases r with
  |mp _ i l I =>
  obtain⟨ce,cl,h1,h2,h3,h4,h5⟩:=s.md b J i l C I;have o:∀(k:Nat) y,fs[k]?=some y->∃ x,J[k]?=some x:=by
   grind
  refine .im fs i ce cl h1 (.inr ⟨b,_,l,C,zSp,I⟩) zOm ?_ ?_ h5
  .grind
  grind
 |agg p j T g U =>
  intro v r;cases r with
  |agg _ vs hm hv =>
  refine .agg _ _ zOm (fun k y R=>?_);have hk:k<j.length:=(qj.1 R).1;have P:p[k]?=some (p[k]' zOm):=by grind
  grind
 |tup p j T g U =>
  intro v r;cases r with
  |tup _ vs hm hv =>
  refine .tup _ _ zOm (fun k y R=>?_);have hk:k<j.length:=(qj.1 R).1;have P:p[k]?=some (p[k]' zOm):=by grind
  grind
 |lst full p j T hz g U =>
  intro v r;have a5:=pF T hz;cases r with
  |nil=>cases j with
   |nil=>exact .nil _
   |cons=>simp at T
  |emp _ a cap C=>cases j with
   |nil=>exact .emp _ a cap C
   |cons=>simp at T
  |lst _ _ sz a cap cs e fr rd I hs hl C hi a8 hr hv =>
   rw[<-T];have o:∀(k:Nat) y,j.flatten[k]?=some y->∃ x,p.flatten[k]?=some x:=by
    grind
   refine .lst full j sz a cap cs e fr rd I hs zOm (by rw[T];exact C) (.inl hi) ?_ ?_ ?_
   .intro r a9
    obtain⟨k,hk⟩:=List.mem_iff_getElem?.1 a9;have ae:k<j.length:=(qj.1 hk).1;have P:p[k]?=some (p[k]' zOm):=by simp[show k<p.length by omega]
    rw[<-hz k _ r P hk];exact a8 _ (qX P)
   .intro k y R
    obtain⟨x,P⟩:=o k y R;exact hr k x P
   grind
 |fn f first a1 a0 a2 T hm g aa U ab =>
  intro v r;cases r with
  |fn _ _ _ vs ws af ag hv hw =>
  refine .fn f _ _ vs ws zOm zOm (fun k y R=>?_) (fun k y R=>?_)
  .have hk:k<a1.length:=(qj.1 R).1
   have P:first[k]?=some (first[k]' zOm):=by simp[show k<first.length by omega]
   grind
  .have hk:k<a2.length:=(qj.1 R).1
   have P:a0[k]?=some (a0[k]' zOm):=by simp[show k<a0.length by omega]
   exact ab k _ y P R (hw k _ P)
 |ifc t x y g U =>
  intro v r;cases r with
  |ifc _ _ v hv=>exact .ifc t y v (U hv)
 |wk x full j g U =>
  intro v r;have:=U r;cases this with
  |nil=>exact .nil _
  |emp _ a cap C=>exact .emp _ a cap zSp
  |lst _ _ sz a cap cs e fr rd I hs hl C hi hz hr hv=>exact .lst _ _ sz a cap cs e fr rd I hs hl zSp hi hz hr hv
 |ims x J ad σ τ hp hd g U =>
  intro v r;exact .ims J ad σ τ v hp hd (U r)
end
end Go.Ev
namespace Go.Ev
open Go Go.RowKit
section
variable {s x:AV}{K:AV->Mu->Prop}{h:Array Obj}{g:Array qe}{G:Gh}{mu:Mu}{P:qc}{w:qf}
def cutM(keep:Nat->Bool):Mu->Nat->Mu
 | [],_=>[]
 |c :: l,i=>(if keep i=true then c else .dead) :: cutM keep l (i+1)
theorem jy(keep):∀ mu i k,(cutM keep mu k)[i]?=(mu[i]?).map fun c=>if keep (k+i)=true then c else .dead
 | [],i,k=>by simp[cutM]
 |c :: l,0,k=>by simp[cutM]
 |c :: l,i+1,k=>by
  rw[cutM,vK,vK,jy keep l i (k+1)];have:k+1+i=k+(i+1):=zOm;rw[this]
theorem uE(keep):∀ mu k,(cutM keep mu k).length=mu.length
 | [],_=>rfl
 |c :: l,k=>by simp[cutM,uE keep l (k+1)]
theorem j9{keep i c}(h:(cutM keep mu 0)[i]?=some c)(j:c ≠ .dead):mu[i]?=some c/\keep i=true:=by
 rw[jy]at h;cases g:mu[i]? with
 |none=>grind
 |some l =>
  rw[g]at h;simp only[zg,Nat.zero_add,qp]at h;by_cases o:keep i=true
  .grind
  grind
theorem Live.cut{keep b}(h:Live G (cutM keep mu 0) b):Live G mu b:=by
 obtain⟨i,c,g,l,j,o⟩:=h;exact⟨i,c,g,(j9 l j).1,j,o⟩
theorem Sim.cut(s:Sim G mu h)(keep):Sim G (cutM keep mu 0) h:=by
 refine⟨by rw[uE];exact s.len,s.imm,fun i c g l t o p=>s.obj i c g l (j9 t o).1 o p,fun i c g l t o p=>s.live i c g l (j9 t o).1 o p,?_,s.tab⟩;intro i j ci I b J P t o p C R T;exact s.inj i j ci I b J P (j9 t p).1 (j9 o C).1 p C R T
def frz(G:Gh)(g:Nat->Bool)(mu:Mu):Gh:=⟨fun b=>G.imm b\/Live G (cutM g mu 0) b,G.blk⟩
theorem VL(s:Sim G mu h)(p):Sim (frz G p mu) (cutM (fun i=>!p i) mu 0) h:=by
 have R:G.le (frz G p mu):=⟨fun b J => .inl J,fun _ _ h=>h⟩;refine⟨by rw[uE];exact s.len,?_,?_,?_,?_,s.tab.mono (fun b h => .inl h) (fun _ _=>rfl)⟩
 .rintro b (J|⟨i,c,g,t,l,C⟩)
  .exact s.imm b J
  .obtain ⟨o,T,_⟩:=s.obj i c b g (j9 t l).1 l C
   exact(yC.1 T).1
 .intro i c I g t l C
  obtain⟨o,T,hr⟩:=s.obj i c I g (j9 t l).1 l C;exact⟨o,T,hr.mono R (Ext.refl _ _)⟩
 .rintro i c I g t l C (J|⟨j,c',P,g1,U,g3⟩)
  .exact s.live i c I g (j9 t l).1 l C J
  .have e:=s.inj i j c c' I g P (j9 t l).1 (j9 g1 U).1 l U C g3
   subst e;have a1:=(j9 t l).2;have a2:=(j9 g1 U).2
   grind
 .intro i j ci cj b ti tj t l C h4 h5 h6
  exact s.inj i j ci cj b ti tj (j9 t C).1 (j9 l h4).1 C h4 h5 h6
theorem Qo(s:Sim G mu w.heap)(g):Stp G mu w (frz G g mu) (cutM (fun i=>!g i) mu 0) w:=by
 refine⟨⟨fun b j => .inl j,fun _ _ h=>h⟩,VL s g,fun _ _ _=>rfl,qk _,?_,?_,rfl,rfl,rfl,qk _⟩
 .rintro b ⟨i,c,l,p,o,t⟩
  exact .inl ⟨i,c,l,(j9 p o).1,o,t⟩
 .rintro b (j|j)
  .exact .inl j
  .exact .inr (.inl j.cut)
theorem VM(s:Sim G mu h)(g){x y v}(r:Rd (cutM g mu 0) x y)(j:VRel G h x v):VRel (frz G g mu) h y v:=
 VRel.mono (G:=⟨fun b=>G.imm b\/Live G (cutM g mu 0) b,[]⟩) (G':=frz G g mu) ⟨fun _ l=>l,fun i x o=>by simp at o⟩ (Ext.refl _ _) (r.sound (s.cut g) j)
theorem jN.det(h:jN P mu g s x K):∃ v m,jN P mu g s x (fun a b=>a=v/\b=m)/\K v m:=by
 obtain⟨t,I,e,sz,J,j,R,T,U,a4,a5,a6,a7,a8,h⟩:=h;rcases h with ⟨p,i,l,o,b4,b5⟩|⟨b,len,cells,i,l,o,b4,b5⟩
 .by_cases C:j=[]
  .exact ⟨_,_,⟨t,I,e,sz,J,j,R,T,U,a4,a5,a6,a7,a8,.inl ⟨p,i,l,o,fun _=>⟨rfl,rfl⟩,fun h=>absurd C h⟩⟩,b4 C⟩
  .exact ⟨_,_,⟨t,I,e,sz,J,j,R,T,U,a4,a5,a6,a7,a8,.inl ⟨p,i,l,o,fun h=>absurd h C,fun _=>⟨rfl,rfl⟩⟩⟩,b5 C⟩
 .exact ⟨_,_,⟨t,I,e,sz,J,j,R,T,U,a4,a5,a6,a7,a8,.inr ⟨b,len,cells,i,l,o,b4,rfl,rfl⟩⟩,b5⟩
theorem jN.mono{i}(h:jN P mu g s x K)(l:∀ v m,K v m->i v m):jN P mu g s x i:=by
 obtain⟨t,T,e,sz,U,j,a1,a2,a3,a4,a5,a6,a7,a8,h⟩:=h;refine⟨t,T,e,sz,U,j,a1,a2,a3,a4,a5,a6,a7,a8,?_⟩;rcases h with ⟨p,o,C,I,J,R⟩|⟨b,len,cells,o,C,I,J,R⟩
 .exact .inl ⟨p,o,C,I,fun h=>l _ _ (J h),fun h=>l _ _ (R h)⟩
 grind
def pG(P:qc)(mu:Mu)(j:Array qe)(s x:AV)(K:AV->Mu->Prop):Prop:=
 ∃ t l e sz o g n p,j=#[t,l]/\qD P t=some (e,sz,o)/\P.underlying l=some (.int .i64)/\qA P e=some g/\g.cells.length=sz/\g.cells.all AV.one=true/\sz≠0/\o<=16384/\x = .sc (.int .i64 (Int.ofNat n))/\0<n/\s = .lst true p/\qS sz p/\p.length+n<=4294967296 /\
  K (.sl mu.length sz 0 (p.length+n)) (mu++[.arr (p.flatten++(qr (n*sz)).map fun i=>g.cells.getD (i % sz) .any)])
theorem qf0(s:Sim G mu w.heap){J ty sv xv vs vx}(rs:VRel G w.heap sv vs)(rx:VRel G w.heap xv vx){K}
  (h:pG P mu J sv xv K):∃ z mu',K z mu'/\Good P G mu w (Builtin.append_ J ty #[vs,vx]) z mu':=by
 obtain⟨t,tn,e,sz,bt,zv,n,p,rfl,ab,ad,ae,R,af,an,T,rfl,hn,rfl,I,ag,hk⟩:=h;obtain⟨i,hu,hi,rfl,rfl⟩:=ul ab;obtain⟨i',z,ah,hz,rfl⟩:=VJ ae;obtain rfl:i=i':=Option.some.inj (hi.symm.trans ah);obtain⟨g,ai⟩:=Js (G:=G) (h:=w.heap) z (fun c hc=>by grind);rw[R]at g;obtain⟨a0,a2,l,rfl,a3,_,a4,aq,a5⟩:=VK (P:=P) s rs (ys:=p) rfl I;have a6:a2=p.length:=by
  obtain⟨a1,c1,h1,_,h2,_⟩:=rs.lst_inv;cases h1;exact h2 rfl
 subst a6;cases rx with
 |sc _ _ =>
 have a7:n*i.bytes<=281474976710656:=zH (Nat.mul_le_mul (show n<=4294967296 by omega) T) zOm;have C:=Lib.run_append_grow_zeros w t tn ty e i z .i64 .i64 hu ad hi hz a0 p.length p.length l a5 n hn zOm zOm zOm a7 (pD zOm ag T);have aj:=pC w (p.length+n) p.length e;generalize grownCap w (p.length+n) p.length e=gc at C aj;have ak:=yy I.ok;have ar:(yW z.cells n).size=n*i.size:=by simp[yW,g]
 have au:(yW z.cells (gc-(p.length+n))).size=(gc-(p.length+n))*i.size:=by simp[yW,g]
 have a8:∀ j,j<n*i.size->(yW z.cells n).getD j uk=z.cells.getD (j % i.size) uk:=by
  intro j o;have a9:0<i.size:=zOm;simp_all[Nat.mod_lt,yW,qT,getElem!_pos,Zv]
 have sd:Sim G mu w.drew.heap:=s;have U:=sR sd (.cells (l.toArray++yW z.cells n++yW z.cells (gc-(p.length+n))) e) (.arr (p.flatten++(qr (n*i.size)).map fun j=>(ofV z).cells.getD (j % i.size) .any)) (gc*i.size) (by
  intro _;have ao:p.length*i.size+n*i.size+(gc-(p.length+n))*i.size=gc*i.size:=by
   rw[<-Nat.add_mul,<-Nat.add_mul];congr 1;omega
  refine⟨_,e,rfl,by grind,by grind,fun j y o=>?_⟩;by_cases al:j<p.flatten.length
  .rw [qI al]at o
   refine⟨I.one y (qX o),?_⟩;have:=a4 j y o;rw[qT,Array.append_assoc,Array.getElem?_append_left zSo];rw[zr]at this;show VRel G w.heap y _
   grind
  .rw [zN zOm,zw]at o
   have aa:j-p.flatten.length<n*i.size:=by
    cases hq:(qr (n*i.size))[j-p.flatten.length]? with
    |none=>rw[hq]at o;cases o
    |some q=>have:=(qj.1 hq).1;simpa using this
   rw[List.getElem?_range aa]at o;have a9:0<i.size:=zOm;have hm:(j-p.flatten.length) % i.size<(ofV z).cells.length:=by rw[R];exact Nat.mod_lt _ a9
   simp only[zg,qp]at o;rw[zr,qw hm]at o;subst o;refine⟨by simpa using qY.1 af _ (List.getElem_mem hm),?_⟩;have e1:(l.toArray++yW z.cells n++yW z.cells (gc-(p.length+n))).getD j uk=(yW z.cells n).getD (j-p.flatten.length) uk:=by
    rw[qT,qT,Array.append_assoc,Array.getElem?_append_right zSo,Array.getElem?_append_left (by simp[a3];omega)];simp[a3,ak]
   rw[e1,a8 _ aa];exact ai _ _ (qw hm))
 refine⟨_,_,hk,_,_,_,C,(Stp.drew s).trans s U,?_⟩;refine .sl _ i.size 0 _ w.heap.size (gc*i.size) gc ?_ zOm zOm;show (G.blk++[_])[mu.length]?=_;rw[<-s.len];simp
def qu(P:qc)(mu:Mu)(j:Array qe)(s x:AV)(K:AV->Mu->Prop):Prop:=
 jN P mu j s x K\/((∃ g l,Rd (cutM g mu 0) x l/\jN P (cutM (fun i=>!g i) mu 0) j s l K)\/pG P mu j s x K)
theorem qu.det{i}(h:qu P mu i s x K):∃ v m,qu P mu i s x (fun a b=>a=v/\b=m)/\K v m:=by
 rcases h with h|⟨j,l,o,C⟩|⟨t,I,e,sz,J,R,n,p,T,U,a3,a4,a5,a6,a7,a8,a9,b1,b2,b3,b4,k⟩
 .obtain ⟨v,m,g,k⟩:=h.det;exact⟨v,m,.inl g,k⟩
 .obtain ⟨v,m,g,k⟩:=C.det;exact⟨v,m,.inr (.inl ⟨j,l,o,g⟩),k⟩
 .exact ⟨_,_,.inr (.inr ⟨t,I,e,sz,J,R,n,p,T,U,a3,a4,a5,a6,a7,a8,a9,b1,b2,b3,b4,rfl,rfl⟩),k⟩
theorem qu.mono{l}(h:qu P mu g s x K)(j:∀ v m,K v m->l v m):qu P mu g s x l:=by
 rcases h with h|⟨i,o,C,I⟩|⟨t,J,e,sz,R,T,n,p,U,a2,a3,a4,a5,a6,a7,a8,a9,b1,b2,b3,b4,k⟩
 .exact .inl (h.mono j)
 .exact .inr (.inl ⟨i,o,C,I.mono j⟩)
 .exact .inr (.inr ⟨t,J,e,sz,R,T,n,p,U,a2,a3,a4,a5,a6,a7,a8,a9,b1,b2,b3,b4,j _ _ k⟩)
theorem qf1(s:Sim G mu w.heap){g ty o p t C}(j:VRel G w.heap o t)(l:VRel G w.heap p C){K}
  (h:qu P mu g o p K):∃ z mu',K z mu'/\Good P G mu w (Builtin.append_ g ty #[t,C]) z mu':=by
 rcases h with h|⟨i,x',I,J⟩|h
 .exact pE s j l h
 .obtain ⟨z,mu',R,v,T,U,g1,g2,g3⟩:=pE (ty:=ty) (VL s i) (j.mono (Qo s i).le (Ext.refl _ _)) (VM s i I l) J
  exact⟨z,mu',R,v,T,U,g1,(Qo s i).trans s g2,g3⟩
 .exact qf0 s j l h
inductive Gv (mu:Mu) (give:Nat->Bool):AV->AV->Prop where
 |same (x:AV):Gv mu give x x
 |rd (x y:AV) (h:Rd (cutM give mu 0) x y):Gv mu give x y
 |fn (f:Fn) (first first' caps caps':List AV) (hn:first'.length=first.length) (hm:caps'.length=caps.length) (h:∀(k:Nat) x y,first[k]?=some x->first'[k]?=some y->Gv mu give x y)
   (h':∀(k:Nat) x y,caps[k]?=some x->caps'[k]?=some y->Gv mu give x y):Gv mu give (.fn f first caps) (.fn f first' caps')
theorem Gv.sound(s:Sim G mu h){g x y}(r:Gv mu g x y):∀{v},VRel G h x v->VRel (frz G g mu) h y v:=by
 have p:G.le (frz G g mu):=⟨fun b C => .inl C,fun _ _ h=>h⟩;induction r with
 |same x=>intro v o;exact o.mono p (Ext.refl _ _)
 |rd x y r=>grind [VM]
 |fn f first i j l hn hm hr I ih J =>
  intro v o;cases o with
  |fn _ _ _ P R T U o hw =>
  refine .fn f _ _ P R zOm zOm (fun k y t=>?_) (fun k y t=>?_)
  .have hk:k<i.length:=(qj.1 t).1
   have hx:first[k]?=some (first[k]' zOm):=qw _
   grind
  .have hk:k<l.length:=(qj.1 t).1
   have hx:j[k]?=some (j[k]' zOm):=qw _
   grind
end
end Go.Ev
namespace Go.Ev
open Go Go.RowKit
section
variable {x:AV}{h:Array Obj}{G:Gh}{P:qc}{u:yc}{w:qf}
theorem Jv{e q cs i v}(g:P.underlying e=some (.int q))(h:cs[i]?=some v):(part e cs i).run P w = .ok v w:=by
 simp_all[isAgg,run_underlying,part]
theorem Jw{xs ys b}(h:aEqs (x :: xs) ys=some b):∃ k a g i,x = .sc (.int k a)/\ys = .sc (.int k g) :: i/\(((a == g)=true/\aEqs xs i=some b)\/((a == g)=false/\b=false)):=by
 cases x with
 |sc v =>
  cases v with
  |int k a =>
   cases ys with
   |nil=>simp[aEqs]at h
   |cons y ys =>
    cases y with
    |sc u =>
     cases u with
     |int l g =>
      by_cases o:k=l
      .subst o
       cases j:(a == g) with
       |true=>exact⟨k,a,g,ys,rfl,rfl,.inl ⟨j,by grind [aEqs]⟩⟩
       |false=>exact⟨k,a,g,ys,rfl,rfl,.inr ⟨j,by grind [aEqs]⟩⟩
      grind [aEqs]
     |_=>simp[aEqs]at h
    |_=>simp[aEqs]at h
  |_=>simp[aEqs]at h
 |_=>simp[aEqs]at h
theorem qf2(d){e q}(p:P.underlying e=some (.int q))(I J):∀ xs ys i b,aEqs xs ys=some b ->
  (∀(k) x,xs[k]?=some x->∃ v,I[i+k]?=some v/\VRel G w.heap x v)->(∀(k) x,ys[k]?=some x->∃ v,J[i+k]?=some v/\VRel G w.heap x v) ->
  (forIn (m:=Sem) (List.range' i xs.length) ((none:Option Bool),()) fun i U=>do
   let a <-part e I i
   let b <-part e J i
   let c <-Op.equalIn (d+1) e a b
   if (!c)=true then pure (ForInStep.done (some false,())) else pure (ForInStep.yield (none,()))).run P w = .ok (if b then (none,()) else (some false,())) w:=by
 intro xs;induction xs with
 |nil =>
  intro ys i b h _ _;cases ys with
  |nil=>simp_all[aEqs,qp]
  |cons=>simp[aEqs]at h
 |cons x xs ih =>
  intro ys i b h R T;have h':=Jw h;clear h;obtain⟨k,a,b',t,rfl,rfl,h⟩:=h';obtain⟨v,g,rv⟩:=R 0 _ rfl;obtain⟨u,l,ru⟩:=T 0 _ rfl;cases rv;cases ru;rw[Nat.add_zero]at g l;simp only[yp,List.range'_succ,List.forIn_cons,qO,Jv p g,Jv p l,qR,run_equalIn_int w d e k q a b' p];rcases h with ⟨o,h⟩|⟨o,rfl⟩
  .rw [o]
   simp only[Bool.not_true,Bool.false_eq_true,if_false,zD,qR];refine ih t (i+1) b h (fun j x C=>?_) (fun j x C=>?_)
   .have:=R (j+1) x (zUs C)
    grind
   .have:=T (j+1) x (zUs C)
    grind
  simp_all
theorem Z8{xs:List AV}{g:Array yc}(i:g.size=xs.length)(j:∀(k) x,xs[k]?=some x->VRel G h x (g.getD k uk)) :
  ∀(k) x,xs[k]?=some x->∃ v,g[0+k]?=some v/\VRel G h x v:=by
 simp_all[qj,uk,qT]
theorem pH(d){t e n q}(l:P.underlying t=some (.array n e))(o:P.underlying e=some (.int q))(p:szOf P e=some 1)
  {xs ys} {g i} (C:xs.length=n) (I:VRel G w.heap (.agg xs) (.agg g)) (J:VRel G w.heap (.agg ys) (.agg i)) {b} (h:aEqs xs ys=some b) :
  (Op.equalIn (d+2) t (.agg g) (.agg i)).run P w = .ok b w:=by
 cases I with
 |agg _ _ R T =>
 cases J with
 |agg _ _ U hw =>
 unfold Op.equalIn;simp only[qO,run_underlying l,qR,jr p,Nat.mul_one,Std.Legacy.Range.forIn_eq_forIn_range'];have j:(Std.Legacy.Range.size [:n])=xs.length:=by simp[Std.Legacy.Range.size,C]
 rw[j];have:=qf2 (G:=G) d o g i xs ys 0 b h (Z8 R T) (Z8 U hw);rw[this];cases b<;>simp
theorem qf3(d J R):∀ fs i xs ys b,Z4 P fs i=true->xs.length=fs.length->aEqs xs ys=some b ->
  (∀(k) x,xs[k]?=some x->∃ v,J[i+k]?=some v/\VRel G w.heap x v)->(∀(k) x,ys[k]?=some x->∃ v,R[i+k]?=some v/\VRel G w.heap x v) ->
  (Op.eqFields (d+1) J R fs).run P w = .ok b w:=by
 intro fs;induction fs with
 |nil =>
  intro i xs ys b _ p h _ _;have:xs=[]:=uZ (zUs p);subst this;cases ys with
  |nil=>simp only[aEqs,qp]at h;subst h;rfl
  |cons=>simp[aEqs]at h
 |cons f fs ih =>
  intro i xs ys b hf p h T U;cases xs with
  |nil=>simp at p
  |cons x xs =>
   simp only[Z4,qB,beq_iff_eq,bne_iff_ne,ne_eq]at hf;obtain⟨⟨⟨h1,h2⟩,h3⟩,h4⟩:=hf;have h':=Jw h;clear h;obtain⟨k,a,b',t,rfl,rfl,h⟩:=h';obtain⟨v,g,rv⟩:=T 0 _ rfl;obtain⟨u,l,ru⟩:=U 0 _ rfl;cases rv;cases ru;rw[Nat.add_zero]at g l;obtain⟨q,C⟩:∃ q,P.underlying f.type=some (.int q):=by
    grind [pi,absurd]
   rw[Op.eqFields,if_pos h2];simp only[h1,qO,Jv C g,Jv C l,qR,run_equalIn_int w d f.type k q a b' C];rcases h with ⟨o,h⟩|⟨o,rfl⟩
   .rw [o]
    simp only[Bool.not_true,Bool.false_eq_true,if_false];refine ih (i+1) xs t b h4 (zUs p) h (fun j x I=>?_) (fun j x I=>?_)
    .have:=T (j+1) x (zUs I)
     grind
    .have:=U (j+1) x (zUs I)
     grind
   simp_all
theorem qf4(d){t fs}(j:P.underlying t=some (.struct fs))(hf:Z4 P fs.toList 0=true)(o:P.stoodInHeld t=false)
  {xs ys} {g i} (p:xs.length=fs.size) (C:VRel G w.heap (.agg xs) (.agg g)) (I:VRel G w.heap (.agg ys) (.agg i)) {b} (h:aEqs xs ys=some b) :
  (Op.equalIn (d+2) t (.agg g) (.agg i)).run P w = .ok b w:=by
 have l:P.fieldsOf t=fs:=by simp[Program.fieldsOf,j]
 rw[run_equalIn_agg w (d+1) t g i (by rw[l];exact j) o,l];cases C with
 |agg _ _ J R =>
 cases I with
 |agg _ _ T U =>
 exact qf3 d g i fs.toList 0 xs ys b hf (zUs p) h (Z8 J R) (Z8 T U)
inductive KK where
 |now
 |arr (n:Nat)
def keyKind(P:qc)(g:qe):Option KK:=
 match P.underlying g with
 |some (.int _)|some .string|some .bool=>some .now
 |some (.array n e)=>match P.underlying e,szOf P e with
  |some (.int _),some 1=>some (.arr n)
  |_,_=>none
 |_=>none
@[go_sem] def jz(P:qc)(g:qe)(x y:AV):Option Bool:=
 match P.underlying g with
 |some (.int _)=>(match x,y with | .sc (.int k a),.sc (.int i b)=>if k=i then some (a == b) else none|_,_=>none)
 |some .string=>(match x,y with | .sc (.string a),.sc (.string b)=>some (a == b)|_,_=>none)
 |some .bool=>(match x,y with | .sc (.bool a),.sc (.bool b)=>some (a == b)|_,_=>none)
 |some (.array n e)=>(match P.underlying e,szOf P e with
  |some (.int _),some 1=>(match x,y with | .agg p,.agg j=>if p.length=n/\j.length=n then aEqs p j else none|_,_=>none)
  |_,_=>none)
 |_=>none
def zm(P:qc)(g:qe)(k:AV):List (AV×AV)->Nat->Option (Option Nat)
 | [],_=>some none
 |e :: J,i=>match jz P g k e.1 with
  |some true=>some (some i)
  |some false=>zm P g k J (i+1)
  |none=>none
@[go_sem] def Z9(q:IntKind):AV->Bool
 | .sc (.int k _)=>k == q
 |_=>false
@[go_sem] def jj(P:qc)(g:qe)(x:AV):Bool:=
 match P.underlying g with
 |some (.int q)=>Z9 q x
 |some .string=>(match x with | .sc (.string _)=>true|_=>false)
 |some .bool=>(match x with | .sc (.bool _)=>true|_=>false)
 |some (.array n e)=>(match P.underlying e,szOf P e with
  |some (.int q),some 1=>(match x with | .agg p=>p.length == n&&p.all (Z9 q)|_=>false)
  |_,_=>false)
 |_=>false
theorem qf5(m d){e q}(j:P.underlying e=some (.int q))(l:szOf P e=some 1)(g):∀ n i,i+n<=g.size ->
    (forIn (m := Sem) (List.range' i n) PUnit.unit fun i o => do
            let sz <-Go.sizeOf e
            let x <-part e g (i*sz)
            Instr.checkKey m (d+1) e x
            pure (ForInStep.yield PUnit.unit)).run P w = .ok PUnit.unit w:=by
  intro n;induction n with
  |zero=>intro i _;rfl
  |succ n C =>
    intro i h;have p:g[i]?=some (g[i]' zOm):=by grind
    have t:∀ v,(Instr.checkKey m (d+1) e v).run P w = .ok () w:=by
      simp_all[Instr.checkKey,run_underlying]
    simp only[List.range'_succ,List.forIn_cons,qO,jr l,qR,Nat.mul_one,Jv j p,t,zD]
    grind
theorem Jx{g v}(m)(r:VRel G w.heap x v)(h:jj P g x=true):(Instr.checkKey m 10000 g v).run P w = .ok () w:=by
 unfold jj at h;have now:∀ d,P.underlying g=some d->(∀ n e,d ≠ .array n e)->(∀ o,d ≠ .struct o)->(∀ t,d ≠ .interface t)->(Instr.checkKey m 10000 g v).run P w = .ok () w:=by
  intro d i C I J;show (Instr.checkKey m (9999+1) g v).run P w=_;unfold Instr.checkKey;simp only[qO,run_underlying i,qR];cases d<;>first|rfl | (exact absurd rfl (C _ _)) | (exact absurd rfl (I _)) | (exact absurd rfl (J _))
 split at h
 .grind
 .grind
 .grind
 .rename_i n e i
  split at h
  .rename_i R T
   split at h
   .rename_i p
    cases r with
    |agg _ l U hv =>
    have hl:p.length=n:=by
     grind
    show (Instr.checkKey m (9998+2) g (.agg l)).run P w=_;unfold Instr.checkKey;simp only[qO,run_underlying i,qR,Std.Legacy.Range.forIn_eq_forIn_range'];have j:(Std.Legacy.Range.size [:n])=n:=by simp[Std.Legacy.Range.size]
    rw[j,qf5 m 9998 R T l n 0 zOm];simp
   grind
  grind
 grind
def jb(G:Gh)(h:Array Obj)(es:List (AV×AV))(ce:List us):Prop:=ce.length=es.length/\∀(k:Nat) x,es[k]?=some x->∃ e,ce[k]?=some e/\VRel G h x.1 e.key/\VRel G h x.2 e.val
theorem pI{i y v b d}(j:P.underlying i=some d)(l:∀ n e,d ≠ .array n e)(o:VRel G h x u)(p:VRel G h y v)(g:jz P i x y=some b) :
  Instr.sameNow d u v=some b:=by
 unfold jz at g;rw[j]at g;cases d<;>simp only at g<;>first | (exact absurd g (by simp;done)) | (exact absurd rfl (l _ _))|skip
 all_goals
  split at g
  .cases o;cases p
   grind [Instr.sameNow,qp,absurd]
  grind
theorem qf6{t d}(C:P.underlying t=some d)(I:∀ n e,d ≠ .array n e)(J:VRel G h x u):∀ es ce i r,
  jb G h es ce->zm P t x es i=some r->Instr.findNow d u ce i=some (r.map fun j=>(j,(ce.getD (j-i) default).val))/\∀ j,r=some j->i<=j/\j<i+es.length:=by
 intro es;induction es with
 |nil =>
  intro ce i r g hf;have:ce=[]:=uZ g.1;subst this;simp only[zm,qp]at hf;subst hf;exact⟨rfl,zSp⟩
 |cons e es T =>
  intro ce i r g hf;cases ce with
  |nil=>have:=g.1;simp at this
  |cons c ce =>
   obtain⟨c',l,R,rv⟩:=g.2 0 e rfl;simp only[Z1,qp]at l;subst l;simp only[zm]at hf;split at hf
   .rename_i o
    simp only[qp]at hf;subst hf;have:=pI C I J R o
    grind [Instr.findNow]
   .rename_i o
    have:=pI C I J R o;have p:jb G h es ce:=⟨by have:=g.1;grind,fun k y U=>g.2 (k+1) y (zUs U)⟩;obtain⟨h1,h2⟩:=T ce (i+1) r p hf;refine⟨?_,fun j hj=>?_⟩
    .simp only[Instr.findNow,this,h1]
     cases r with
     |none=>rfl
     |some j =>
      have:=h2 j rfl;simp only[zg];rw[show j-i=(j-(i+1))+1 by omega];simp
    grind
   grind
theorem qf7{o e n q}(R:P.underlying o=some (.array n e))(T:P.underlying e=some (.int q))(U:szOf P e=some 1){x u}(rx:VRel G w.heap x u) :
  ∀ es ce i r,jb G w.heap es ce->zm P o x es i=some r ->
   (Instr.findAsking o u ce i).run P w = .ok (r.map fun j=>(j,(ce.getD (j-i) default).val)) w/\∀ j,r=some j->i<=j/\j<i+es.length:=by
 intro es;induction es with
 |nil =>
  intro ce i r g hf;have:ce=[]:=uZ g.1;subst this;simp only[zm,qp]at hf;subst hf;exact⟨rfl,zSp⟩
 |cons y es ih =>
  intro ce i r g hf;cases ce with
  |nil=>have:=g.1;simp at this
  |cons c ce =>
   obtain⟨c',t,C,rv⟩:=g.2 0 y rfl;simp only[Z1,qp]at t;subst t;simp only[zm]at hf;have heq:∀ b,jz P o x y.1=some b->(Op.equal o u c.key).run P w = .ok b w:=by
    intro b l;unfold jz at l;rw[R]at l;simp only[T,U]at l;split at l
    .rename_i p ys I
     split at l
     .rename_i hl
      rw[I]at C;generalize hq:c.key=ck at C;cases rx with
      |agg _ vs hn hv =>
      cases C with
      |agg _ ws hm hw =>
      exact pH (G:=G) 9998 R T U hl.1 (.agg _ _ hn hv) (.agg _ _ hm hw) l
     grind
    grind
   split at hf
   .rename_i hk
    simp only[qp]at hf;subst hf;simp_all[Instr.findAsking]
   .rename_i hk
    have J:jb G w.heap es ce:=⟨by have:=g.1;grind,fun k z hz=>g.2 (k+1) z (zUs hz)⟩;obtain⟨h1,h2⟩:=ih ce (i+1) r J hf;refine⟨?_,fun j hj=>?_⟩
    .simp only[Instr.findAsking,qO,heq _ hk,qR,Bool.false_eq_true,if_false,h1]
     cases r with
     |none=>rfl
     |some j =>
      have:=h2 j rfl;simp only[zg];rw[show j-i=(j-(i+1))+1 by omega];simp
    grind
   grind
theorem Qq{g}(p:VRel G w.heap x u)(l:jj P g x=true){es}{ce:Array us}{r}(o:jb G w.heap es ce.toList)(hf:zm P g x es 0=some r) :
  (Instr.findKey g u ce.toList).run P w = .ok (r.map fun j=>(j,(ce.getD j default).val)) w/\∀ j,r=some j->j<es.length:=by
 have C:∀ j,ce.toList.getD j default=ce.getD j default:=by
  simp
 unfold jj at l;have now:∀ d,P.underlying g=some d->(∀ n e,d ≠ .array n e)->(Instr.findKey g u ce.toList).run P w = .ok (r.map fun j=>(j,(ce.getD j default).val)) w/\∀ j,r=some j->j<es.length:=by
  intro d i I;obtain⟨t,J⟩:=qf6 i I p es ce.toList 0 r o hf;simp_all[Nat.sub_zero,Instr.findKey,run_underlying]
 split at l
 .grind
 .grind
 .grind
 .rename_i n e i
  split at l
  .rename_i R T
   obtain⟨t,J⟩:=qf7 i R T p es ce.toList 0 r o hf;simp only[Nat.sub_zero,C]at t;refine⟨?_,fun j hj=>by grind⟩;simp only[Instr.findKey,qO,run_underlying i,qR];cases U:ce.toList with
   |nil =>
    have:r=none:=by
     cases es with
     |nil=>grind [zm]
     |cons=>have:=o.1;rw[U]at this;simp at this
    subst this;simp[Instr.findNow]
   |cons c cs =>
    grind [Instr.findNow,Instr.sameNow]
  grind
 grind
end
end Go.Ev
namespace Go.Ev
open Go Go.RowKit
section
variable {k x y:AV}{h:Array Obj}{G:Gh}{es:List (AV×AV)}{mu:Mu}{P:qc}{g:qe}{w:qf}
def mapT(P:qc)(t:qe):Option (qe×qe):=match P.underlying t with|some (.map k e)=>some (k,e)|_=>none
theorem ZC{t k e}(h:mapT P t=some (k,e)):P.underlying t=some (.map k e):=by
 unfold mapT at h;split at h
 .grind
 grind
@[go_sem] def jO(mu:Mu):AV->Option (List (AV×AV))
 | .im J=>some J
 | .mp b=>match mu[b]? with|some (.mp J)=>some J|_=>none
 | .sc (.map none)=>some []
 |_=>none
theorem VN(ce:Array us)(k)(g:k<ce.size):ce.toList[k]?=some (ce.getD k default):=by
 simp[qT,g]
theorem qf8(s:Sim G mu w.heap){x v es}(r:VRel G w.heap x v)(h:jO mu x=some es) :
  (v = .map none/\es=[])\/∃ m ce i,v = .map (some m)/\w.heap[m]?=some (.map ce i)/\jb G w.heap es ce.toList:=by
 unfold jO at h;split at h
 .simp only[qp]at h;subst h
  cases r with
  |im _ g ce clock j P o R T U =>
   refine .inr ⟨g,ce,clock,rfl,j,⟨zUs o,fun k x p=>?_⟩⟩
   grind [qj,VN]
 .split at h
  .rename_i t C
   simp only[qp]at h;subst h;cases r with
   |mp _ g l j =>
    obtain⟨ce,i,I,J,h3,h4,h5,h6⟩:=s.mp _ _ g l C j;refine .inr ⟨g,ce,i,rfl,I,⟨zUs J,fun k x p=>?_⟩⟩
    grind [qj,VN]
  grind
 .simp only[qp]at h;subst h
  cases r;exact .inl ⟨rfl,rfl⟩
 grind
@[go_sem] def jk(P:qc)(mu:Mu)(t:qe)(m k:AV)(ok:Bool):Option AV:=
 match mapT P t,jO mu m with
 |some (g,j),some J =>
  if jj P g k=true then
   match zm P g k J 0 with
   |some (some i)=>(J[i]?).map fun e=>if ok then .tup [e.2,.sc (.bool true)] else e.2
   |some none=>(qA P j).map fun z=>if ok then .tup [z,.sc (.bool false)] else z
   |none=>none
  else none
 |_,_=>none
theorem tup2{z u v}(i:VRel G h y u)(j:VRel G h z v):VRel G h (.tup [y,z]) (.tuple #[u,v]):=by
 refine .tup _ _ rfl (fun k c g=>?_);cases k with
 |zero=>simp at g;subst g;exact i
 |succ k=>cases k with
  |zero=>simp at g;subst g;exact j
  |succ k=>simp at g
theorem u7{m ce g}(h:w.heap[m]?=some (.map ce g)):(getObj m).run P w = .ok (.map ce g) w:=by
 simp[getObj,Sem.run,h]
theorem pJ(s:Sim G mu w.heap){t m k z ok vm U}(rm:VRel G w.heap m vm)(R:VRel G w.heap k U)(h:jk P mu t m k ok=some z) :
  ∃ u,(Instr.lookup t vm U ok).run P w = .ok u w/\VRel G w.heap z u:=by
 unfold jk at h;split at h
 .rename_i kt et J ht a0
  have I:=ZC ht;split at h
  .rename_i o
   have j:∀ b,(Instr.checkKey b 10000 kt U).run P w = .ok () w:=fun b=>Jx b R o
   rcases qf8 s rm a0 with ⟨rfl,rfl⟩|⟨mb,ce,cl,rfl,hb,hr⟩
   .simp only[zm]at h
    cases C:qA P et with
    |none=>simp[C]at h
    |some z0 =>
     simp only[C,zg,qp]at h;subst h;obtain⟨p,l,rfl⟩:=Zz C w;have g:=(Qq (es:=[]) (ce:=#[]) R o ⟨rfl,zSp⟩ (r:=none) rfl).1;cases ok
     .exact ⟨p,by simp[Instr.lookup,run_underlying I,j,g,l],.ofV p⟩
     .exact ⟨.tuple #[p,.bool false],by simp[Instr.lookup,run_underlying I,j,g,l],tup2 (.ofV p) (.sc _ rfl)⟩
   .have T:=u7 (P:=P) hb
    split at h
    .rename_i i hf
     obtain⟨g,a1⟩:=Qq R o hr hf;have hi:=a1 i rfl;have hx:J[i]?=some J[i]:=zP1 hi;rw[hx]at h;simp only[zg,qp]at h;subst h;obtain⟨e,he,h1,h2⟩:=hr.2 i _ hx;have a2:ce.getD i default=e:=by
      simp_all
     simp only[zg,a2]at g;cases ok
     .exact ⟨e.val,by simp[Instr.lookup,run_underlying I,T,j,g],h2⟩
     .exact ⟨.tuple #[e.val,.bool true],by simp[Instr.lookup,run_underlying I,T,j,g],tup2 h2 (.sc _ rfl)⟩
    .rename_i hf
     obtain⟨g,_⟩:=Qq R o hr hf;simp only[Option.map_none]at g;cases C:qA P et with
     |none=>simp[C]at h
     |some z0 =>
      simp only[C,zg,qp]at h;subst h;obtain⟨p,l,rfl⟩:=Zz C w;cases ok
      .exact ⟨p,by simp[Instr.lookup,run_underlying I,T,j,g,l],.ofV p⟩
      .exact ⟨.tuple #[p,.bool false],by simp[Instr.lookup,run_underlying I,T,j,g,l],tup2 (.ofV p) (.sc _ rfl)⟩
    grind
  grind
 grind
theorem pK:∀ xs ys,aEqs xs ys=some true->xs=ys
 | [],[],_=>rfl
 | [],_ :: _,h=>by simp[aEqs]at h
 |x :: xs,[],h=>by cases x<;>simp[aEqs]at h
 |x :: xs,y :: ys,h=>by
  unfold aEqs at h;split at h
  .rename_i g i;cases g
  .rename_i k a l t b o g i
   simp only[List.cons.injEq]at g i;obtain⟨rfl,rfl⟩:=g;obtain⟨rfl,rfl⟩:=i;split at h
   .rename_i p
    subst p;split at h
    .rename_i j
     have:=beq_iff_eq.1 j;subst this;rw[pK xs ys h]
    grind
   grind
  grind
theorem pL(q):∀ xs ys,xs.length=ys.length->xs.all (Z9 q)=true->ys.all (Z9 q)=true->∃ b,aEqs xs ys=some b
 | [],[],_,_,_=>⟨true,rfl⟩
 | [],_ :: _,h,_,_=>by simp at h
 |_ :: _,[],h,_,_=>by simp at h
 |x :: xs,y :: ys,h,g,i=>by
  simp only[List.all_cons,qB]at g i;obtain⟨b,C⟩:=pL q xs ys (zUs h) g.2 i.2;have j:=g.1;have l:=i.1;unfold Z9 at j l;split at j
  .split at l
   .rename_i I a _ J c
    have o:=beq_iff_eq.1 j;have p:=beq_iff_eq.1 l;subst o;subst p;by_cases t:(a == c)=true
    .simp_all [aEqs]
    simp_all[aEqs]
   grind
  grind
theorem WA{a b:dA}(h:(a == b)=true):a=b:=by
 obtain⟨x⟩:=a;obtain⟨y⟩:=b;have g:(x == y)=true:=h;rw[beq_iff_eq.1 g]
theorem qf9(h:jz P g x y=some true):x=y:=by
 unfold jz at h;split at h
 .grind
 .grind [qp,WA,absurd]
 .grind
 .grind [pK,absurd]
 grind
theorem pM{l}(i:jj P l x=true)(g:jj P l y=true):∃ b,jz P l x y=some b:=by
 unfold jj at i g;unfold jz;split at i
 .rename_i q j
  simp only[j]at g⊢;unfold Z9 at i g;split at i
  .split at g
   .simp_all
   grind
  grind
 .rename_i j
  simp only[j]at g⊢;split at i
  .split at g
   .exact ⟨_,rfl⟩
   grind
  grind
 .rename_i j
  simp only[j]at g⊢;split at i
  .split at g
   .exact ⟨_,rfl⟩
   grind
  grind
 .rename_i n e j
  simp only[j]at g⊢;split at i
  .rename_i q o p
   simp only[o,p]at g⊢;split at i
   .split at g
    .rw [qB]at i g
     have t:=beq_iff_eq.1 i.1;have C:=beq_iff_eq.1 g.1;simp only;rw[if_pos ⟨t,C⟩]
     grind [pL]
    grind
   grind
  grind
 grind
theorem Jy:∀{es i j},zm P g k es i=some (some j)->i<=j/\∃ e,es[j-i]?=some e/\k=e.1
 | [],i,j,h=>by simp[zm]at h
 |e :: es,i,j,h=>by
  unfold zm at h;split at h
  .rename_i l
   simp only[qp]at h;subst h;exact⟨qk _,e,zSp,qf9 l⟩
  .obtain ⟨o,p,t,C⟩:=Jy h
   grind
  grind
theorem WB{j}:∀{es i},zm P j k es i=some none->∀ e,e∈es->jz P j k e.1=some false
 | [],_,_=>zSp
 |e :: es,i,h=>by
  unfold zm at h;split at h
  .exact absurd h zSp
  .rename_i l
   intro o g;rcases qx.1 g with rfl|g
   .exact l
   .exact WB h o g
  grind
theorem pN(l:jj P g k=true):∀ es i,(∀ e,e∈es->jj P g e.1=true)->∃ r,zm P g k es i=some r
 | [],i,_=>⟨none,rfl⟩
 |e :: es,i,h=>by
  obtain⟨b,p⟩:=pM l (h e zSp);obtain⟨r,t⟩:=pN l es (i+1) (fun o j=>h o (zP1 j))
  grind [zm]
theorem PIx.mem{C σ o es i}(p:PIx σ o es i){x:C}:x∈i↔x∈es:=by
 constructor
 .intro h
  obtain⟨j,l⟩:=List.mem_iff_getElem?.1 h;have g:j<es.length:=by rw[<-p.1];grind
  rw[p.back g]at l
  grind
 .intro h
  obtain⟨j,l⟩:=List.mem_iff_getElem?.1 h;have g:j<es.length:=(qj.1 l).1;rw[<-(p.2 j g).2.2.2.2]at l
  grind
theorem qgA(h:(es.map Prod.fst).Nodup){x y}(g:x∈es)(i:y∈es)(e:x.1=y.1):x=y:=by
 induction es with
 |nil=>simp at g
 |cons z es j =>
  grind
theorem pO(h:jz P g x y=some false):x≠y:=by
 rintro rfl;unfold jz at h;have agg:∀ p:List AV,aEqs p p≠some false:=by
  intro p;induction p with
  |nil=>simp[aEqs]
  |cons x p j =>
   intro h;obtain⟨k,a,o,i,rfl,t,h⟩:=Jw h
   grind
 have ba:∀ a:dA,(a == a)=true:=fun a=>by obtain⟨l⟩:=a;exact(beq_self_eq_true l)
 split at h
 .grind
 .grind
 .grind
 .grind
 grind
theorem qgB{t U et p z ok σ τ}(ht:mapT P t=some (U,et))(J:PIx σ τ es p)(hd:(es.map Prod.fst).Nodup)
  (ho:∀ e,e∈es->jj P U e.1=true) (h:jk P mu t (.im es) k ok=some z):jk P mu t (.im p) k ok=some z:=by
 unfold jk at *
 simp only[ht,jO]at h⊢;split at h
 .rename_i hk
  rw[if_pos hk];obtain⟨r',o⟩:=pN hk p 0 (fun e C=>ho e (J.mem.1 C));rw[o];split at h
  .rename_i i R
   obtain⟨_,e,C,I⟩:=Jy R;simp only[Nat.sub_zero]at C;rw[C]at h;cases r' with
   |none=>exact absurd I (pO (WB o e (J.mem.2 (qX C))))
   |some j =>
    obtain⟨_,T,g,l⟩:=Jy o;simp only[Nat.sub_zero]at g;have:T=e:=qgA hd (J.mem.1 (qX g)) (qX C) (by rw[<-I,<-l])
    grind
  .rename_i R
   cases r' with
   |none=>exact h
   |some j =>
    obtain⟨_,T,g,l⟩:=Jy o;simp only[Nat.sub_zero]at g;exact absurd l (pO (WB R T (J.mem.1 (qX g))))
  grind
 grind
def yz(P:qc)(mu:Mu)(t:qe)(m k:AV)(ok:Bool):Option AV:=
 match m with
 | .ims J=>(match mapT P t with
  |some (g,_)=>if (J.all fun e=>jj P g e.1)=true then jk P mu t (.im J) k ok else none
  |none=>none)
 |m=>jk P mu t m k ok
@[go_sem] theorem qsM(P mu t es k ok):yz P mu t (.ims es) k ok=(match mapT P t with
  |some (g,_)=>if (es.all fun e=>jj P g e.1)=true then jk P mu t (.im es) k ok else none
  |none=>none):=rfl
@[go_sem] theorem qsN(P mu t es k ok):yz P mu t (.im es) k ok=jk P mu t (.im es) k ok:=rfl
@[go_sem] theorem qsO(P mu t b k ok):yz P mu t (.mp b) k ok=jk P mu t (.mp b) k ok:=rfl
@[go_sem] theorem qsP(P mu t v k ok):yz P mu t (.sc v) k ok=jk P mu t (.sc v) k ok:=rfl
theorem qgC(s:Sim G mu w.heap){t m k z ok g i}(j:VRel G w.heap m g)(l:VRel G w.heap k i)(h:yz P mu t m k ok=some z) :
  ∃ u,(Instr.lookup t g i ok).run P w = .ok u w/\VRel G w.heap z u:=by
 unfold yz at h;split at h
 .rename_i J
  split at h
  .rename_i R T o
   split at h
   .rename_i U
    cases j with
    |ims _ p σ τ _ C I r =>
     exact pJ s r l (qgB o C I (fun e he=>by grind) h)
   grind
  grind
 .exact pJ s j l h
theorem qgD:∀(xs ys)(g i:List yc)(n),aEqs xs ys=some true->g.length=xs.length->i.length=ys.length->(∀(k:Nat) x,xs[k]?=some x->∃ v,g[k]?=some v/\VRel G h x v) ->
  (∀(k:Nat) x,ys[k]?=some x->∃ v,i[k]?=some v/\VRel G h x v)->g.length=i.length/\((g.zip i).all fun (x,y)=>Instr.sameBits n x y)=true:=by
 intro xs;induction xs with
 |nil =>
  intro ys g i n o p t _ _;cases ys with
  |nil=>simp_all
  |cons=>simp[aEqs]at o
 |cons x xs T =>
  intro ys g i n o p t J l;have U:=Jw o;clear o;obtain⟨k,a,b',C,rfl,rfl,h⟩:=U;rcases h with ⟨a0,h⟩|⟨_,h⟩
  .cases g with
   |nil=>simp at p
   |cons v g =>
    cases i with
    |nil=>simp at t
    |cons u i =>
     obtain⟨v',P,r1⟩:=J 0 _ rfl;obtain⟨u',R,r2⟩:=l 0 _ rfl;simp at P R;subst P;subst R;cases r1;cases r2;obtain⟨g1,g2⟩:=T C g i n h (zUs p) (zUs t) (fun j y I=>J (j+1) y (zUs I)) (fun j y I=>l (j+1) y (zUs I));refine⟨by simp[g1],?_⟩;simp_all[List.zip_cons_cons,List.all_cons,Instr.sameBits]
  grind
theorem WC{kt u v}(R:VRel G h x u)(T:VRel G h y v)(g:jz P kt x y=some true):Instr.sameBits 10000 v u=true:=by
 unfold jz at g;split at g
 .split at g
  .cases R;cases T
   split at g
   .simp_all [qp,beq_iff_eq,Instr.sameBits]
   grind
  grind
 .split at g
  .cases R;cases T
   simp_all[Option.some.inj,Instr.sameBits,beq_toListBytes,beq_iff_eq]
  grind
 .split at g
  .cases R;cases T
   have g:=Option.some.inj g;simp_all[Instr.sameBits,beq_iff_eq]
  grind
 .split at g
  .split at g
   .rename_i p j
    split at g
    .rename_i hl
     cases R with
     |agg _ o U hv =>
     cases T with
     |agg _ t hm hw =>
     have g1:=Z8 U hv;have g2:=Z8 hm hw;have:=qgD (G:=G) (h:=h) p j o.toList t.toList 9999 g (zUs U) (zUs hm) (fun k x hx=>by have:=g1 k x hx;simpa using this) (fun k x hx=>by have:=g2 k x hx;simpa using this);have C:∀(a b:List yc),a.length=b.length->((a.zip b).all fun (x,y)=>Instr.sameBits 9999 x y)=true->(∀ c,c∈a->∃ k n,c = .int k n)->(∀ c,c∈b->∃ k n,c = .int k n)->((b.zip a).all fun (x,y)=>Instr.sameBits 9999 x y)=true:=by
      intro a;induction a with
      |nil=>intro b _ _ _ _;simp
      |cons c a ih =>
       intro b hl h ha hb;cases b with
       |nil=>simp at hl
       |cons d b =>
        obtain⟨k1,n1,rfl⟩:=ha c zSp;obtain⟨k2,n2,rfl⟩:=hb d zSp;simp only[List.zip_cons_cons,List.all_cons,qB]at h⊢;refine⟨?_,ih b (zUs hl) h.2 (fun c i=>ha c (zP1 i)) (fun c i=>hb c (zP1 i))⟩;simp only[Instr.sameBits,qB,beq_iff_eq]at h⊢;exact⟨h.1.1.symm,h.1.2.symm⟩
     have ints:∀(p j:List AV),aEqs p j=some true->(∀ c,c∈p->∃ k n,c = .sc (.int k n))/\(∀ c,c∈j->∃ k n,c = .sc (.int k n)):=by
      intro p;induction p with
      |nil=>intro j h;cases j with
       |nil=>simp
       |cons=>simp[aEqs]at h
      |cons x p ih =>
       intro j h;have h':=Jw h;clear h;obtain⟨k,a,b',a0,rfl,rfl,h⟩:=h';rcases h with ⟨_,h⟩|⟨_,h⟩
       .obtain ⟨g1,g2⟩:=ih a0 h
        refine⟨fun c i=>?_,fun c i=>?_⟩
        .rcases qx.1 i with rfl|i
         .exact ⟨k,a,rfl⟩
         .exact g1 c i
        .rcases qx.1 i with rfl|i
         .exact ⟨k,b',rfl⟩
         .exact g2 c i
       .exact absurd h zSp
     obtain⟨i1,i2⟩:=ints p j g;have val:∀(l:List AV)(I:Array yc),I.size=l.length->(∀(k:Nat) x,l[k]?=some x->VRel G h x (I.getD k uk))->(∀ c,c∈l->∃ k n,c = .sc (.int k n))->∀ c,c∈I.toList->∃ k n,c = .int k n:=by
      intro l I U hv hi c i;obtain⟨k,g⟩:=List.mem_iff_getElem?.1 i;have J:I[k]?=some c:=zUs g;have a1:k<l.length:=by have:=(yC.1 J).1;omega
      obtain⟨q,n,e⟩:=hi l[k] zSp;have r:=hv k l[k] (zP1 a1);rw[e,qfA J]at r;cases r;exact⟨q,n,rfl⟩
     have hs:=C o.toList t.toList this.1 this.2 (val p o U hv i1) (val j t hm hw i2);show (t.size == o.size&&(t.toList.zip o.toList).all fun (x,y)=>Instr.sameBits 9999 x y)=true
     grind
    grind
   grind
  grind
 grind
theorem WD:∀ es i j,zm P g k es i=some (some j)->i<=j/\∃ e,es[j-i]?=some e/\jz P g k e.1=some true:=by
 intro es;induction es with
 |nil=>intro i j h;simp[zm]at h
 |cons e es l =>
  intro i j h;simp only[zm]at h;split at h
  .grind
  .grind
  grind
end
end Go.Ev
namespace Go.Ev
open Go Go.RowKit
section
variable {ce:Array us}{h:Array Obj}{G:Gh}{es:List (AV×AV)}{mu mu':Mu}{g:Nat}{P:qc}{w:qf}
@[go_sem] def VO(es:List (AV×AV))(i:Option Nat)(k v:AV):List (AV×AV):=
 match i with
 |some i=>es.set i (k,v)
 |none=>es++[(k,v)]
theorem wU{r}(h:w.heap[r]?=some (.map ce g))(o):(setObj r o).run P w = .ok () { w with heap:=w.heap.setIfInBounds r o }:=by
 simp[setObj,Sem.run,h]
theorem WE(w:qf)(r o)(h:r<w.heap.size):({ w with heap:=w.heap.setIfInBounds r o }:qf).heap[r]?=some o:=by
 simp[h]
theorem WG(w:qf)(r k o)(h:k≠r):({ w with heap:=w.heap.setIfInBounds r o }:qf).heap[k]?=w.heap[k]?:=by
 grind
theorem VP(s:Sim G mu w.heap){b v es}(r:VRel G w.heap (.mp b) v)(l:mu[b]?=some (.mp es)) :
  ∃ m g ce,v = .map (some m)/\G.blk[b]?=some (m,g)/\w.heap[m]?=some (.map ce ce.size)/\jb G w.heap es ce.toList/\(∀(k)(e:us),ce[k]?=some e->e.born=k):=by
 cases r with
 |mp _ i g j =>
  obtain⟨ce,I,o,p,J,P,t,C⟩:=s.mp _ _ i g l j;subst t;refine⟨i,g,ce,rfl,j,o,⟨zUs p,fun k x R=>?_⟩,C⟩
  grind [qj,VN]
theorem qgE(i:jb G h es ce.toList)(l:∀(k)(e:us),ce[k]?=some e->e.born=k):uj G h g (.map ce ce.size) (.mp es):=by
 refine⟨ce,ce.size,rfl,by simpa using i.1,fun k x j=>?_,fun k x j=>?_,rfl,l⟩
 .obtain ⟨e,o,p,t⟩:=i.2 k x j
  simp_all
 .obtain ⟨e,o,p,t⟩:=i.2 k x j
  simp_all
theorem pP(g:jb G h es ce.toList){i}(I:i<es.length){k v o p}(J:VRel G h k o)(P:VRel G h v p) :
  jb G h (es.set i (k,v)) (ce.modify i fun e=>{ e with key:=o,val:=p }).toList:=by
 refine⟨by simpa using g.1,fun j x l=>?_⟩;rcases vP l with ⟨rfl,rfl⟩|⟨t,l⟩
 .have C:j<ce.size:=by have:=g.1;simp at this;omega
  simp_all
 .obtain ⟨e,R,T,U⟩:=g.2 j x l
  grind
theorem WH(i:jb G h es ce.toList){k v l o}(C:VRel G h k l)(I:VRel G h v o)(n) :
  jb G h (es++[(k,v)]) (ce.push { key:=l,val:=o,born:=n }).toList:=by
 have t:ce.size=es.length:=by simpa using i.1
 refine⟨zP1 t,fun j x g=>?_⟩;rcases yq g with ⟨J,g⟩|⟨rfl,rfl⟩
 .obtain ⟨e,P,R,T⟩:=i.2 j x g
  grind
 simp_all
theorem WI(g:∀(k) (e:us),ce[k]?=some e->e.born=k)(i f)(hf:∀ e,(f e).born=e.born):∀(k)(e:us),(ce.modify i f)[k]?=some e->e.born=k:=by
 grind
theorem pQ(g:∀(k)(e:us),ce[k]?=some e->e.born=k)(x)(i:x.born=ce.size):∀(k)(e:us),(ce.push x)[k]?=some e->e.born=k:=by
 grind
theorem sL(s:Sim G mu w.heap){b m j es i ce g}(o:mu[b]?=some (.mp es))(p:G.blk[b]?=some (m,j))(t:w.heap[m]?=some (.map ce ce.size))
  (C:jb G w.heap i g.toList) (l:∀(k)(e:us),g[k]?=some e->e.born=k):Stp G mu w G (mu.set b (.mp i)) { w with heap:=w.heap.setIfInBounds m (.map g g.size) }:=by
 grind [yC,sW,WE,WG,qgE]
theorem qgF(s:Sim G mu w.heap){b v es}(r:VRel G w.heap (.mp b) v)(o:mu[b]?=some (.md es)) :
  ∃ m g ce j,v = .map (some m)/\G.blk[b]?=some (m,g)/\w.heap[m]?=some (.map ce j)/\jb G w.heap es ce.toList/\j8 ce j:=by
 cases r with
 |mp _ i g l =>
  obtain⟨ce,j,p,t,I,J,C⟩:=s.md _ _ i g o l;refine⟨i,g,ce,j,rfl,l,p,⟨zUs t,fun k x P=>?_⟩,C⟩
  grind [qj,VN]
theorem qgG{i}(j:jb G h es ce.toList)(o:j8 ce g):uj G h i (.map ce g) (.md es):=by
 refine⟨ce,g,rfl,by simpa using j.1,fun k x l=>?_,fun k x l=>?_,o⟩
 .obtain ⟨e,p,t,C⟩:=j.2 k x l
  simp_all
 .obtain ⟨e,p,t,C⟩:=j.2 k x l
  simp_all
theorem sQ(s:Sim G mu w.heap){b m j c i o g p}(t:mu[b]?=some c)(C:c ≠ .dead)(I:G.blk[b]?=some (m,j))(J:w.heap[m]?=some o)
  (P:jb G w.heap i g.toList) (l:j8 g p):Stp G mu w G (mu.set b (.md i)) { w with heap:=w.heap.setIfInBounds m (.map g p) }:=by
 grind [yC,sW,WE,WG,qgG]
theorem qgH{l}(o:j8 ce l)(i f)(hf:∀ e,(f e).born=e.born):j8 (ce.modify i f) l:=by
 have key:∀(k:Nat)(e:us),(ce.modify i f)[k]?=some e->∃ g,ce[k]?=some g/\g.born=e.born:=by
  grind
 refine⟨fun k e h=>?_,fun j k e p t C U=>?_⟩
 .obtain ⟨g,I,J⟩:=key k e h
  rw[<-J];exact o.1 k g I
 .obtain ⟨P,g1,g2⟩:=key j e t
  obtain⟨R,T,g4⟩:=key k p C;exact o.2 j k P R g1 T zOm
theorem qgI{i}(g:j8 ce i)(x)(J:x.born=i):j8 (ce.push x) (i+1):=by
 have key:∀(k:Nat)(e:us),(ce.push x)[k]?=some e->(k=ce.size/\e=x)\/ce[k]?=some e:=by
  grind
 refine⟨fun k e h=>?_,fun j k e l t C I=>?_⟩
 .rcases key k e h with ⟨_,rfl⟩|h
  .omega
  .have:=g.1 k e h;omega
 .rcases key j e t with ⟨o,rfl⟩|o<;>rcases key k l C with ⟨p,rfl⟩|p
  .omega
  .have:=g.1 k l p;omega
  .have:=g.1 j e o;omega
  .exact g.2 j k e l o p I
theorem qgJ{l}(o:j8 ce l)(i):j8 (ce.eraseIdxIfInBounds i) l:=by
 have key:∀ k:Nat,∃ j:Nat,(ce.eraseIdxIfInBounds i)[k]?=ce[j]?/\j=if k<i then k else if i<ce.size then k+1 else k:=by
  grind
 refine⟨fun k e h=>?_,fun j k e C p t I=>?_⟩
 .obtain ⟨j,g,_⟩:=key k
  rw[g]at h;exact o.1 j e h
 .obtain ⟨J,g,T⟩:=key j
  obtain⟨P,R,U⟩:=key k;rw[g]at p;rw[R]at t;have:=o.2 J P e C p t I
  grind
theorem qgK(j:jb G h es ce.toList){i}(C:i<es.length):jb G h (es.eraseIdx i) (ce.eraseIdxIfInBounds i).toList:=by
 have o:ce.size=es.length:=by simpa using j.1
 have e:(ce.eraseIdxIfInBounds i).toList=ce.toList.eraseIdx i:=by
  simp_all
 rw[e];refine⟨by simp[List.length_eraseIdx,o],fun k x g=>?_⟩;rw[List.getElem?_eraseIdx]at g;by_cases l:k<i
 .rw [if_pos l]at g
  obtain⟨c,p,t⟩:=j.2 k x g
  grind
 .rw [if_neg l]at g
  obtain⟨c,p,t⟩:=j.2 (k+1) x g
  grind
@[go_sem] def vR(P:qc)(mu:Mu)(t:qe)(m k v:AV):Option Mu:=
 match m,mapT P t with
 | .mp b,some (g,_)=>match mu[b]? with
  |some (.mp J)=>if jj P g k=true then (zm P g k J 0).map fun r=>mu.set b (.mp (VO J r k v)) else none
  |some (.md J)=>if jj P g k=true then (zm P g k J 0).map fun r=>mu.set b (.md (VO J r k v)) else none
  |_=>none
 |_,_=>none
theorem WJ{o n}(h:Instr.sameBits 10000 o n=true):(Instr.keyThatStays o n).run P w = .ok n w:=by
 simp[Instr.keyThatStays,h]
theorem pR(s:Sim G mu w.heap){t m k v vm vk vv}(rm:VRel G w.heap m vm)(rk:VRel G w.heap k vk)(rv:VRel G w.heap v vv)(h:vR P mu t m k v=some mu') :
  ∃ w',(Instr.mapUpdate t vm vk vv).run P w = .ok () w'/\Stp G mu w G mu' w':=by
 unfold vR at h;split at h
 .rename_i b kt et ht
  have hu:=ZC ht;split at h
  .rename_i J hm
   split at h
   .rename_i C
    obtain⟨mb,a4,ce,rfl,hb,I,R,g⟩:=VP s rm hm;have T:(Instr.checkKey false 10000 kt vk).run P w = .ok () w:=Jx false rk C;have hg:=u7 (P:=P) I;have a5:ce.size=J.length:=by simpa using R.1
    cases hf:zm P kt k J 0 with
    |none=>simp[hf]at h
    |some r =>
     simp only[hf,zg,qp]at h;subst h;obtain⟨j,a0⟩:=Qq rk C R hf;cases r with
     |none =>
      have l:=WH R rk rv ce.size;have o:=pQ g { key:=vk,val:=vv,born:=ce.size } rfl;refine⟨_,?_,sL s hm hb I l o⟩;simp only[Option.map_none]at j;simp[Instr.mapUpdate,run_underlying hu,hg,T,j,wU I]
     |some i =>
      obtain⟨_,e,he,U⟩:=WD J 0 i hf;rw[Nat.sub_zero]at he;obtain⟨c,hc,a1,a6⟩:=R.2 i e he;have a2:ce[i]?=some c:=zUs hc;have p:=WC rk a1 U;have l:=pP R (a0 i rfl) rk rv;have o:=WI g i (fun e=>{ e with key:=vk,val:=vv }) (fun _=>rfl);refine⟨_,?_,sL s hm hb I l o⟩;simp only[zg]at j;simp[Instr.mapUpdate,run_underlying hu,hg,T,j,a2,WJ p,wU I]
   grind
  .rename_i J hm
   split at h
   .rename_i C
    obtain⟨mb,a4,ce,cl,rfl,hb,I,R,g⟩:=qgF s rm hm;have T:(Instr.checkKey false 10000 kt vk).run P w = .ok () w:=Jx false rk C;have hg:=u7 (P:=P) I;have a5:ce.size=J.length:=by simpa using R.1
    cases hf:zm P kt k J 0 with
    |none=>simp[hf]at h
    |some r =>
     simp only[hf,zg,qp]at h;subst h;obtain⟨j,a0⟩:=Qq rk C R hf;cases r with
     |none =>
      have l:=WH R rk rv cl;have o:=qgI g { key:=vk,val:=vv,born:=cl } rfl;refine⟨_,?_,sQ s hm zSp hb I l o⟩;simp only[Option.map_none]at j;simp[Instr.mapUpdate,run_underlying hu,hg,T,j,wU I]
     |some i =>
      obtain⟨_,e,he,U⟩:=WD J 0 i hf;rw[Nat.sub_zero]at he;obtain⟨c,hc,a1,a6⟩:=R.2 i e he;have a2:ce[i]?=some c:=zUs hc;have p:=WC rk a1 U;have l:=pP R (a0 i rfl) rk rv;have o:=qgH g i (fun e=>{ e with key:=vk,val:=vv }) (fun _=>rfl);refine⟨_,?_,sQ s hm zSp hb I l o⟩;simp only[zg]at j;simp[Instr.mapUpdate,run_underlying hu,hg,T,j,a2,WJ p,wU I]
   grind
  grind
 grind
@[go_sem] def Ya(P:qc)(mu:Mu)(t:qe)(m k:AV):Option (AV×Mu):=
 match m,mapT P t with
 | .mp b,some (g,j)=>match mu[b]? with
  |some (.mp J)=>if jj P g k=true then
    match zm P g k J 0 with
    |some (some i)=>(J[i]?).map fun e=>(.tup [e.2,.sc (.int .i64 i)],mu.set b (.mp (J.set i (k,e.2))))
    |some none=>(qA P j).map fun z=>(.tup [z,.sc (.int .i64 J.length)],mu.set b (.mp (J++[(k,z)])))
    |none=>none
   else none
  |_=>none
 |_,_=>none
theorem qgL(s:Sim G mu w.heap){t m k z vm vk}(rm:VRel G w.heap m vm)(rk:VRel G w.heap k vk)(h:Ya P mu t m k=some (z,mu')) :
  Good P G mu w (Instr.mapEntry t vm vk) z mu':=by
 unfold Ya at h;split at h
 .rename_i b kt et ht
  have hu:=ZC ht;split at h
  .rename_i J hm
   split at h
   .rename_i o
    obtain⟨mb,a9,ce,rfl,hb,hh,p,g⟩:=VP s rm hm;have a0:(Instr.checkKey false 10000 kt vk).run P w = .ok () w:=Jx false rk o;have hg:=u7 (P:=P) hh;have a2:ce.size=J.length:=by simpa using p.1
    split at h
    .rename_i i hf
     obtain⟨l,aa⟩:=Qq rk o p hf;obtain⟨_,e,he,a1⟩:=WD J 0 i hf;rw[Nat.sub_zero]at he;rw[he]at h;simp only[zg,qp,u4]at h;obtain⟨rfl,rfl⟩:=h;obtain⟨c,hc,a3,a4⟩:=p.2 i e he;have C:ce[i]?=some c:=zUs hc;have I:=WC rk a3 a1;have a5:ce.getD i default=c:=by simp[qT,C]
     have R:jb G w.heap (J.set i (k,e.2)) (ce.modify i fun e=>{ e with key:=vk }).toList:=by
      refine⟨by simpa using p.1,fun j x hx=>?_⟩;rcases vP hx with ⟨rfl,rfl⟩|⟨ab,hx⟩
      .grind
      .obtain ⟨e',ad,h1,h2⟩:=p.2 j x hx
       grind
     have T:=WI g i (fun e=>{ e with key:=vk }) (fun _=>rfl);have a6:c.born=i:=g i c C;have U:=sL s hm hb hh R T;refine⟨.tuple #[c.val,.int .i64 i],_,G,?_,U,tup2 (U.vrel s a4) (.sc _ rfl)⟩;simp only[zg,a5]at l;simp[Instr.mapEntry,run_underlying hu,hg,a0,l,C,WJ I,wU hh,goInt,a6]
    .rename_i hf
     obtain⟨l,_⟩:=Qq rk o p hf;cases hz:qA P et with
     |none=>simp[hz]at h
     |some z0 =>
      simp only[hz,zg,qp,u4]at h;obtain⟨rfl,rfl⟩:=h;obtain⟨zv,a7,rfl⟩:=Zz hz w;have R:=WH p rk (VRel.ofV (G:=G) (h:=w.heap) zv) ce.size;have T:=pQ g { key:=vk,val:=zv,born:=ce.size } rfl;have U:=sL s hm hb hh R T;refine⟨.tuple #[zv,.int .i64 J.length],_,G,?_,U,tup2 (.ofV zv) (.sc _ rfl)⟩;simp only[Option.map_none]at l;simp[Instr.mapEntry,run_underlying hu,hg,a0,l,a7,wU hh,goInt,a2]
    grind
   grind
  grind
 grind
@[go_sem] def WL(mu:Mu)(m g v:AV):Option Mu:=
 match m,g with
 | .mp b,.sc (.int _ i)=>match mu[b]? with
  |some (.mp J)=>if 0<=i then (J[i.toNat]?).map fun e=>mu.set b (.mp (J.set i.toNat (e.1,v))) else none
  |_=>none
 |_,_=>none
theorem qgM(s:Sim G mu w.heap){t m st v vm vs o}(rm:VRel G w.heap m vm)(rs:VRel G w.heap st vs)(rv:VRel G w.heap v o)(h:WL mu m st v=some mu') :
  ∃ w',(Instr.entryStore t vm vs o).run P w = .ok () w'/\Stp G mu w G mu' w':=by
 unfold WL at h;split at h
 .rename_i b q i
  split at h
  .rename_i J hm
   split at h
   .rename_i a1
    cases p:J[i.toNat]? with
    |none=>simp[p]at h
    |some e =>
     simp only[p,zg,qp]at h;subst h;obtain⟨mb,a2,ce,rfl,hb,C,I,g⟩:=VP s rm hm;cases rs;have hg:=u7 (P:=P) C;obtain⟨c,hc,a3,a4⟩:=I.2 _ e p;have R:ce[i.toNat]?=some c:=zUs hc;have T:i.toNat<ce.size:=(yC.1 R).1;have l:ce.findIdx? (fun e=>(e.born:Int) == i)=some i.toNat:=by
      rw[Array.findIdx?_eq_some_iff_getElem];refine⟨T,?_,fun j hj=>?_⟩
      .grind
      .have:ce[j].born=j:=g j _ (by simp[show j<ce.size by omega])
       simp[this];omega
     have U:jb G w.heap (J.set i.toNat (e.1,v)) (ce.modify i.toNat fun e=>{ e with val:=o }).toList:=by
      refine⟨by simpa using I.1,fun j x hx=>?_⟩;rcases vP hx with ⟨rfl,rfl⟩|⟨a5,hx⟩
      .grind
      .obtain ⟨e',a6,h1,h2⟩:=I.2 j x hx
       grind
     have a0:=WI g i.toNat (fun e=>{ e with val:=o }) (fun _=>rfl);refine⟨_,?_,sL s hm hb C U a0⟩;simp[Instr.entryStore,hg,asInt,asIntOf,l,wU C]
   grind
  grind
 grind
theorem qgN(s:Sim G mu w.heap){t}:Good P G mu w (Instr.makeMap t none) (.mp mu.length) (mu++[.mp []]):=by
 have U:=sR s (.map #[] 0) (.mp []) 0 (fun _=>⟨#[],0,rfl,rfl,zSp,zSp,rfl,zSp⟩);refine⟨.map (some w.heap.size),_,_,?_,U,.mp _ w.heap.size 0 ?_⟩
 .simp [Instr.makeMap]
 .show (G.blk++[_])[mu.length]?=_
  rw[<-s.len];simp
@[go_sem] def VQ(P:qc)(mu:Mu)(t:qe)(m:AV):Option (AV×Mu):=
 match mapT P t,m with
 |some _,.im J=>some (.ptr mu.length 0,mu++[.it J []])
 |some _,.ims J=>some (.ptr mu.length 0,mu++[.it J []])
 |some _,.sc (.map none)=>some (.ptr mu.length 0,mu++[.it [] []])
 |_,_=>none
theorem qgO(s:Sim G mu w.heap){t m z vm}(i:VRel G w.heap m vm)(h:VQ P mu t m=some (z,mu')):Good P G mu w (Instr.range t vm) z mu':=by
 unfold VQ at h;split at h
 .rename_i l J o
  obtain⟨kt,et⟩:=l;have p:=ZC o;simp only[qp,u4]at h;obtain⟨rfl,rfl⟩:=h;have j:=i;cases i with
  |im _ g ce clock C I hn hk hv hd =>
  have U:=sR s (.mapIter (some g) clock #[] clock) (.it J []) 0 (fun h => .inl ⟨g,J,id,id,ce,clock,j,C,I,PIx.refl J,zSp,zSp⟩);refine⟨.pointer (some ⟨w.heap.size,0,none⟩),_,_,?_,U,.ptr _ 0 w.heap.size 0 ?_⟩
  .have R:=u7 (P:=P) C
   simp[Instr.range,run_underlying p,R]
  .show (G.blk++[_])[mu.length]?=_
   rw[<-s.len];simp
 .rename_i l J o
  obtain⟨kt,et⟩:=l;have p:=ZC o;simp only[qp,u4]at h;obtain⟨rfl,rfl⟩:=h;cases i with
  |ims _ T σ τ _ hp a0 i =>
  have j:=i;cases i with
  |im _ g ce clock C I hn hk hv hd =>
  have U:=sR s (.mapIter (some g) clock #[] clock) (.it J []) 0 (fun h => .inl ⟨g,T,σ,τ,ce,clock,j,C,I,hp,zSp,zSp⟩);refine⟨.pointer (some ⟨w.heap.size,0,none⟩),_,_,?_,U,.ptr _ 0 w.heap.size 0 ?_⟩
  .have R:=u7 (P:=P) C
   simp[Instr.range,run_underlying p,R]
  .show (G.blk++[_])[mu.length]?=_
   rw[<-s.len];simp
 .rename_i l o
  obtain⟨kt,et⟩:=l;have p:=ZC o;simp only[qp,u4]at h;obtain⟨rfl,rfl⟩:=h;cases i;have U:=sR s (.mapIter none 0 #[] 0) (.it [] []) 0 (fun _ => .inr ⟨rfl,rfl⟩);refine⟨.pointer (some ⟨w.heap.size,0,none⟩),_,_,?_,U,.ptr _ 0 w.heap.size 0 ?_⟩
  .simp [Instr.range,run_underlying p]
  .show (G.blk++[_])[mu.length]?=_
   rw[<-s.len];simp
 grind
def WM(mu:Mu)(g:AV)(K:AV->Mu->Prop):Prop:=
 ∃ b J seen,g = .ptr b 0/\mu[b]?=some (.it J seen) /\
  (∀(i:Nat) e,J[i]?=some e->i ∉ seen->K (.tup [.sc (.bool true),e.1,e.2]) (mu.set b (.it J (seen++[i])))) /\
  ((∀ i,i<J.length->i∈seen)->K (.tup [.sc (.bool false)]) mu)
theorem tup1{y u}(i:VRel G h y u):VRel G h (.tup [y]) (.tuple #[u]):=by
 refine .tup _ _ rfl (fun k c g=>?_);cases k with
 |zero=>simp at g;subst g;exact i
 |succ k=>simp at g
theorem tup3{x y z t u v}(i:VRel G h x t)(j:VRel G h y u)(l:VRel G h z v):VRel G h (.tup [x,y,z]) (.tuple #[t,u,v]):=by
 refine .tup _ _ rfl (fun k c g=>?_)
 match k,g with
 | 0,g=>simp at g;subst g;exact i
 | 1,g=>simp at g;subst g;exact j
 | 2,g=>simp at g;subst g;exact l
 |k+3,g=>simp at g
theorem qgP(s:Sim G mu w.heap){an vi ty}(ri:VRel G w.heap an vi){K}(h:WM mu an K) :
  ∃ z mu',K z mu'/\Good P G mu w (Instr.next vi false ty) z mu':=by
 obtain⟨b,J,seen,rfl,hm,h1,h2⟩:=h;cases ri with
 |ptr _ _ p ao hb =>
 obtain⟨o,ho,ag⟩:=s.obj b _ p ao hm zSp hb;have b2:p<w.heap.size:=(yC.1 ho).1;rcases ag with ⟨m,a1,σ,τ,g,l,rm,a6,hi,I,a2,rfl⟩|⟨rfl,rfl⟩
 .cases rm with
  |im _ _ ce clock ab a7 aq hk hv hd =>
  rw[a6]at ab;obtain⟨rfl,rfl⟩:g=ce/\l=clock:=zUs ab;have hn:g.size=J.length:=by rw[aq];exact I.1
  have ar:∀ j,j<J.length->g[j]?=some (g.getD j default):=fun j hj=>by
   simp_all
  generalize au:(seen.map fun i=>(g.getD (σ i) default).born)=sn at ho;have ad:∀ j,j<J.length->((g.getD j default).born∈sn↔τ j∈seen):=by
   intro j hj;rw[<-au,qn];constructor
   .rintro ⟨i,a7,b3⟩
    have h1:=I.2 i (a2 i a7);have:=hd.2 _ _ _ _ (ar _ h1.1) (ar j hj) b3
    grind
   .intro b4
    exact⟨τ j,b4,by simp only[(I.2 j hj).2.2.2.1]⟩
  have a3:(getObj p).run P w = .ok (.mapIter (some m) l sn.toArray l) w:=by simp[getObj,Sem.run,ho]
  have ah:=u7 (P:=P) a6;have R:(!sn.toArray.isEmpty&&!g.isEmpty&&g.all fun e=>decide (e.born>=l))=false:=by
   by_cases bb:g.size=0
   .grind
   .have:(g.all fun e=>decide (e.born>=l))=false:=by
     cases hq:(g.all fun e=>decide (e.born>=l)) with
     |false=>rfl
     |true =>
      have h0:g[0]?=some (g[0]' zOm):=by simp[show 0<g.size by omega]
      have:=(Array.all_eq_true'.1 hq) _ (Array.mem_of_getElem? h0);have bc:=hd.1 0 _ h0
      grind
    rw[this];simp
  have av:∀(a:Array us),(∀ e,e∈a->e∈g)->(a.filter fun e=>decide (e.born<l))=a/\(a.filter fun e=>decide (e.born>=l))=#[]:=by
   intro a ha;have hb:∀ e,e∈a->e.born<l:=by
    intro e he;obtain⟨k,hk⟩:=Array.mem_iff_getElem?.1 (ha e he);exact hd.1 k e hk
   simp_all
  obtain⟨ai,aj⟩:=av (g.filter fun e=>!sn.toArray.contains e.born) (fun e he=>(Array.mem_filter.1 he).1);generalize C:(g.filter fun e=>!sn.toArray.contains e.born)=left at ai aj;have a0:∀ e,e∈left->∃(k:Nat) (x:AV×AV),J[k]?=some x/\k ∉ seen/\e.born=(g.getD (σ k) default).born/\VRel G w.heap x.1 e.key/\VRel G w.heap x.2 e.val:=by
   intro e he;rw[<-C,Array.mem_filter]at he;obtain⟨k,aw⟩:=Array.mem_iff_getElem?.1 he.1;have a8:k<g.size:=(yC.1 aw).1;have a4:k<J.length:=zOm;have hx:a1[k]?=some (a1[k]' zOm):=by simp[show k<a1.length by omega]
   have a9:g.getD k default=e:=by simp[qT,aw]
   refine⟨τ k,_,by rw[<-I.back a4];exact hx,?_,by rw[(I.2 k a4).2.2.2.1,a9],by have:=hk k _ hx;rwa[a9]at this,by have:=hv k _ hx;rwa[a9]at this⟩;intro hs;have:=he.2;have h3:=(ad k a4).2 hs;rw[a9]at h3;simp[h3]at this
  by_cases a5:left=#[]
  ·
   have ax:∀ i,i<J.length->i∈seen:=by
    intro i hi;refine Classical.byContradiction fun ak=>?_
    obtain⟨q1,q2,q3,q4,q5⟩:=I.2 i hi;have a7:σ i<g.size:=zOm;have:g[σ i]∈left:=by
     rw[<-C,Array.mem_filter];refine⟨zSp,?_⟩;have h4:g.getD (σ i) default=g[σ i]:=by simp[qT,a7]
     have h3:g[σ i].born ∉ sn:=fun h=>ak (by rw[<-h4]at h;have:=(ad _ q1).1 h;rwa[q3]at this)
     simp[h3]
    rw[a5]at this;simp at this
   refine⟨_,_,h2 ax,?_⟩;refine sY s (v := .tuple #[.bool false]) ?_ (tup1 (.sc _ rfl));simp only[Instr.next,qO,a3,qR,ah,R,Bool.false_eq_true,if_false,C,a5];simp[Question.forced]
  .have T:0<left.size:=by
    rcases Nat.eq_zero_or_pos left.size with h|h
    .exact absurd (Array.eq_empty_of_size_eq_zero h) a5
    .exact h
   have ay:left.isEmpty=false:=by simp[Array.isEmpty];omega
   have ae:∀(n:Nat)(h:n<left.size),left[n]?=some left[n]:=fun n h=>zP1 h
   have key:∀(n:Nat)(w1:qf)(b5:n<left.size),w1.heap=w.heap->Stp G mu w G mu w1->∃ z mu',K z mu'/\∃ v w' G',((do
     setObj p (.mapIter (some m) l (sn.toArray.push left[n].born) l)
     pure (.tuple #[.bool true,left[n].key,left[n].val]):Sem yc)).run P w1 = .ok v w'/\Stp G mu w G' mu' w'/\VRel G' w'.heap z v:=by
    intro n w1 b5 aa al;obtain⟨k,x,hx,ak,b6,r1,r2⟩:=a0 left[n] zSp;have b7:w1.heap[p]?=some (.mapIter (some m) l sn.toArray l):=by rw[aa];exact ho
    have az:p<w1.heap.size:=by rw[aa];exact b2
    have b8:VRel G w1.heap (.im a1) (.map (some m)):=by rw[aa];exact .im _ m g _ a6 hi aq hk hv hd
    have a4:k<J.length:=(qj.1 hx).1;have U:=sW al.sim b (.it J seen) (.it J (seen++[k])) p ao (.mapIter (some m) l (sn++[(g.getD (σ k) default).born]).toArray l) hm zSp zSp hb (w':={ w1 with heap:=w1.heap.setIfInBounds p (.mapIter (some m) l (sn++[(g.getD (σ k) default).born]).toArray l) }) zSp
     (WE w1 p _ az) (fun j hj=>WG w1 p j _ hj) rfl rfl rfl (.inl ⟨m,a1,σ,τ,g,l,b8,by rw[aa];exact a6,hi,I,fun i hi=>by
      rcases List.mem_append.1 hi with h|h
      .exact a2 i h
      .simp at h;subst h;exact a4,by rw[zh,au,List.map_singleton]⟩)
    have b0:(setObj p (.mapIter (some m) l (sn.toArray.push left[n].born) l)).run P w1 = .ok () { w1 with heap:=w1.heap.setIfInBounds p (.mapIter (some m) l (sn++[(g.getD (σ k) default).born]).toArray l) }:=by
     simp[setObj,Sem.run,b7,b6]
    refine⟨_,_,h1 k x hx ak,.tuple #[.bool true,left[n].key,left[n].val],_,G,?_,al.trans s U,?_⟩
    .simp only[qO,b0,qR,zD]
    .have t:=al.trans s U
     exact tup3 (.sc _ rfl) (t.vrel s r1) (t.vrel s r2)
   have b9:∀(z:AV)(mu':Mu),True:=fun _ _=>trivial
   by_cases af:left.size<=1
   .obtain ⟨z,mu',a8,v,w',G',g1,g2,g3⟩:=key 0 w T rfl (Stp.refl s)
    refine⟨z,mu',a8,v,w',G',?_,g2,g3⟩;rw[<-g1];simp only[Instr.next,qO,a3,qR,ah,R,Bool.false_eq_true,if_false,C,ai,aj,ay];simp[Question.forced,af,ae 0 T]
   .obtain ⟨z,mu',a8,v,w',G',g1,g2,g3⟩:=key (w.tape w.drawn (.mapNext left.size) % left.size) w.drew (Nat.mod_lt _ T) rfl (Stp.drew s)
    refine⟨z,mu',a8,v,w',G',?_,g2,g3⟩;rw[<-g1];simp only[Instr.next,qO,a3,qR,ah,R,Bool.false_eq_true,if_false,C,ai,aj,ay];have b1:=Nat.mod_lt (w.tape w.drawn (.mapNext left.size)) T;simp[Question.forced,Question.cut,af,ae _ b1]
 .have a3:(getObj p).run P w = .ok (.mapIter none 0 #[] 0) w:=by simp[getObj,Sem.run,ho]
  refine⟨_,_,h2 (fun i hi=>by simp at hi),sY s (v := .tuple #[.bool false]) ?_ (tup1 (.sc _ rfl))⟩;simp[Instr.next,a3]
@[go_sem] def ZD(mu:Mu)(g:AV):Option AV:=
 match g with
 | .ptr b 0=>match mu[b]? with
  |some (.it J seen)=>match seen.getLast? with
   |some i=>(J[i]?).map fun e => .tup [e.1,e.2]
   |none=>none
  |_=>none
 |_=>none
theorem qgQ(s:Sim G mu w.heap){T z vi}(ri:VRel G w.heap T vi)(h:ZD mu T=some z) :
  ∃ u,(Instr.entry vi).run P w = .ok u w/\VRel G w.heap z u:=by
 unfold ZD at h;split at h
 .rename_i b
  split at h
  .rename_i J seen hm
   split at h
   .rename_i i hi
    cases U:J[i]? with
    |none=>simp[U]at h
    |some x =>
     simp only[U,zg,qp]at h;subst h;cases ri with
     |ptr _ _ a0 a3 hb =>
     obtain⟨o,ho,t⟩:=s.obj b _ a0 a3 hm zSp hb;rcases t with ⟨m,a4,σ,τ,g,C,rm,a1,ab,a2,a5,rfl⟩|⟨rfl,rfl⟩
     .cases rm with
      |im _ _ ce clock p a6 a7 hk hv hd =>
      rw[a1]at p;obtain⟨rfl,rfl⟩:g=ce/\C=clock:=zUs p;have hn:g.size=J.length:=by rw[a7];exact a2.1
      obtain⟨q1,q2,q3,q4,q5⟩:=a2.2 i (qj.1 U).1;have I:a4[σ i]?=some x:=by rw[q5];exact U
      have l:(seen.map fun i=>(g.getD (σ i) default).born).toArray.back?=some ((g.getD (σ i) default).born):=zP1 hi;generalize (seen.map fun i=>(g.getD (σ i) default).born)=sn at ho l;generalize σ i=i at I l q1;have ad:(getObj a0).run P w = .ok (.mapIter (some m) C sn.toArray C) w:=by simp[getObj,Sem.run,ho]
      have ae:=u7 (P:=P) a1;have R:i<g.size:=zOm;have a8:g.getD i default=g[i]:=by simp[qT,R]
      rw[a8]at l;have a9:g.find? (fun e=>e.born == g[i].born)=some g[i]:=by
       rw[Array.find?_eq_some_iff_getElem];refine⟨zSp,i,R,rfl,fun j hj=>?_⟩;have aa:j<g.size:=zOm;have:g[j].born≠g[i].born:=fun h=>by
        have:=hd.2 j i _ _ (zP1 aa) (zP1 R) h;omega
       simp[this]
      have r1:=hk i x I;have r2:=hv i x I;simp_all[Instr.entry,tup2]
     .simp at U
   grind
  grind
 grind
end
end Go.Ev
namespace Go.Ev
open Go Go.RowKit
section
variable {mu:Mu}{w:qf}
theorem qgR{P G}(s:Sim G mu w.heap){x v ys sz}(r:VRel G w.heap x v)(h:qy mu x=some ys)(hz:qS sz ys)(n)(hn:n<=ys.length) :
  ∃(news:List yc),news.length=n*sz/\(∀ u∈news,u.oneCell'=true)/\(∀(k) y,(ys.take n).flatten[k]?=some y->VRel G w.heap y (news.getD k uk)) /\
   (Builtin.lenOf v).run P w = .ok ys.length w/\(Builtin.firstCells sz n v).run P w = .ok news.toArray w:=by
 have l:qS sz (ys.take n):=fun r hr=>hz r (vM hr)
 have a2:(ys.take n).flatten.length=n*sz:=by rw[yy l.ok];simp[Nat.min_eq_left hn]
 have o:∀(k:Nat) y,(ys.take n).flatten[k]?=some y->ys.flatten[k]?=some y:=by
  grind [List.flatten_append,uA,qI,qj]
 have fin:∀(a:Addr)(cap:Nat)(rd:Nat->yc),(∀(k:Nat) y,ys.flatten[k]?=some y->w.cell? (a.add k)=some (rd k)/\VRel G w.heap y (rd k))->v = .slice (some a) ys.length cap ->
   ∃(news:List yc),news.length=n*sz/\(∀ u∈news,u.oneCell'=true)/\(∀(k:Nat) y,(ys.take n).flatten[k]?=some y->VRel G w.heap y (news.getD k uk)) /\
   (Builtin.lenOf v).run P w = .ok ys.length w/\(Builtin.firstCells sz n v).run P w = .ok news.toArray w:=by
  intro a cap rd R T;subst T;have t:∀ k,k<n*sz->∃ y,(ys.take n).flatten[k]?=some y:=fun k hk=>⟨(ys.take n).flatten[k]' zOm,zSp⟩
  refine⟨(qr (n*sz)).map rd,zSp,?_,?_,by simp[Builtin.lenOf],?_⟩
  .intro u hu
   obtain⟨k,hk,rfl⟩:=qn.1 hu;obtain⟨y,i⟩:=t k (zUs hk);exact(R k y (o k y i)).2.one (l.one y (qX i))
  .grind
  grind [Builtin.firstCells,run_loadCells]
 unfold qy at h;split at h
 .rename_i full p
  simp only[qp]at h;subst h;cases r with
  |nil =>
   simp_all[List.length_nil,Nat.le_zero,Builtin.lenOf,Builtin.firstCells]
  |emp _ a cap U=>simp_all
  |lst _ _ g a cap cs e fr rd hb hs hl U hi a4 hr T =>
   exact fin a cap rd (fun k y i=>⟨by grind [ZA],T k y i⟩) rfl
 .rename_i b g off len
  split at h
  .rename_i cells U
   split at h
   .rename_i a5
    simp only[qp]at h;cases r with
    |sl _ _ _ _ j a0 cap hb ht hl =>
    obtain⟨arr,e,h1,h2,h3,h4⟩:=s.arr b cells j a0 U hb;have C:ys.length=len:=by rw[<-h];simp
    subst C;by_cases h0:ys.length=0
    .simp_all
    .have I:g=sz:=by
      have J:0<ys.length:=zOm;have hm:(cells.drop (off+0*g)).take g∈ys:=by
       rw[<-h];exact qn.2 ⟨0,zUs J,rfl⟩
      have:=(hz _ hm).1;have a3:g<=ys.length*g:=Nat.le_mul_of_pos_left _ J;simp at this;omega
     subst I;have a1:ys.flatten=(cells.drop off).take (ys.length*g):=by
      grind [Wz,List.drop_drop]
     refine fin ⟨j,off,none⟩ cap (fun k=>arr.getD (off+k) uk) (fun k y i=>?_) rfl;rw[a1,j6]at i;split at i
     .rw [uB]at i
      refine⟨?_,(h4 _ y i).2⟩;rw[ZA (a:=⟨j,off,none⟩) h1 rfl];have a6:off+k<cells.length:=(qj.1 i).1;have:off+k<arr.size:=zOm;simp[qT,this]
     grind
   grind
  grind
 grind
theorem sZ{G}(s:Sim G mu w.heap){b off g i cells xs arr e news}(C:mu[b]?=some (.arr cells))(I:G.blk[b]?=some (g,i))
  (J:w.heap[g]?=some (.cells arr e (0,0))) (U:arr.size=i) (h3:cells.length<=i) (h4:∀(j) x,cells[j]?=some x->x.one=true/\VRel G w.heap x (arr.getD j uk))
  (l:off+xs.length<=cells.length) (hn:news.length=xs.length) (p:∀ x,x∈xs->x.one=true) (hx:∀(k) x,xs[k]?=some x->VRel G w.heap x (news.getD k uk)) :
  Stp G mu w G (mu.set b (.arr (putCells cells off xs))) (w.setRow g (arr.toList.take off++news++arr.toList.drop (off+news.length)).toArray):=by
 refine sW s b (.arr cells) _ g i (.cells (arr.toList.take off++news++arr.toList.drop (off+news.length)).toArray e (0,0)) C zSp zSp I zSp (setRow_heap w g arr _ e _ J)
  (fun k P=>setRow_other w g k _ P) rfl rfl rfl ?_
 refine⟨_,e,rfl,zSo,by grind [y9],?_⟩;intro j y t;rw[y9 _ _ _ l,zE]at t;rw[Wy,zr,zE];have R:(arr.toList.take off).length=off:=zSo;have T:(cells.take off).length=off:=zSo;by_cases o:j<off
 .rw [zGa,j6,if_pos o]at t
  rw[zGa,j6,if_pos o,Jp,<-qT]
  grind
 grind [zN,qI,qX,qT]
def delE(es:List (AV×AV)):Option Nat->List (AV×AV)
 |some i=>es.eraseIdx i
 |none=>es
inductive ExtB (P:qc) (mu:Mu):Builtin->Array qe->List AV->AV->Mu->Prop where
 |copy {t t' e:qe} {sz sz0 bt b off len:Nat} {cells:List AV} {ys:List (List AV)} {x:AV} (hs:qD P t=some (e,sz,bt)) (hc:mu[b]?=some (.arr cells)) (hl:off+len*sz<=cells.length)
   (hr:qy mu x=some ys) (hw:qS sz ys) :
   ExtB P mu .copy #[t,t'] [.sl b sz0 off len,x] (.sc (.int .i64 ((min ys.length len:Nat):Int))) (mu.set b (.arr (putCells cells off (ys.take len).flatten)))
 |clear {t e:qe} {sz bt b off len:Nat} {cells:List AV} {zv:AV} (hs:qD P t=some (e,sz,bt)) (hz:qA P e=some zv) (hz1:zv.cells.length=sz) (hz2:zv.cells.all AV.one=true) (hz0:sz≠0) (hc:mu[b]?=some (.arr cells)) (hl:off+len*sz<=cells.length) (hp:0<len) :
   ExtB P mu .clear #[t] [.sl b sz off len] (.tup []) (mu.set b (.arr (putCells cells off ((qr (len*sz)).map fun i=>zv.cells.getD (i % sz) .any))))
 |delete {t t' kt et:qe} {b:Nat} {es:List (AV×AV)} {k:AV} {r:Option Nat} (ht:mapT P t=some (kt,et)) (hc:mu[b]?=some (.mp es)) (hk:jj P kt k=true) (hf:zm P kt k es 0=some r) :
   ExtB P mu .delete #[t,t'] [.mp b,k] (.tup []) (mu.set b (.md (delE es r)))
theorem qgS{P G mu'}(s:Sim G mu w.heap){b a6 ty cs args g z}
  (hn:g.size=args.length) (hr:∀(k) x,args[k]?=some x->VRel G w.heap x (g.getD k uk)) (h:ExtB P mu b a6 args z mu') :
  ∃ u w',(builtin b a6 ty cs g).run P w = .ok (.value u) w'/\Stp G mu w G mu' w'/\VRel G w'.heap z u:=by
 cases h with
 | @copy t t' e sz b0 bt b off len cells j x hs T hl ah hw =>
  have r0:=hr 0 _ rfl;have r1:=hr 1 _ rfl;have C:g=#[g.getD 0 uk,g.getD 1 uk]:=by
   have h2:g.size=2:=zUs hn;apply Array.ext
   .simpa using h2
   .intro i hi ai
    have:i=0\/i=1:=zOm;rcases this with rfl|rfl<;>simp[qT,hi]
  generalize g.getD 0 uk=u0 at *
  generalize g.getD 1 uk=u1 at *
  subst C;obtain⟨aj,hu,a7,ak,al⟩:=ul hs;have b1:szOf P e=some sz:=by grind [szOf]
  obtain⟨o,a8,a2,a9,av,aw⟩:=qgR (P:=P) s r1 ah hw (min j.length len) (Nat.min_le_left _ _);have a3:j.take (min j.length len)=j.take len:=by
   rcases Nat.le_total j.length len with h|h
   .grind
   .rw [Nat.min_eq_right h]
  rw[a3]at a9;have aa:qS sz (j.take len):=fun r hr=>hw r (vM hr)
  have ax:(j.take len).flatten.length=min j.length len*sz:=by
   rw[yy aa.ok,vO,Nat.min_comm]
  cases r0 with
  |sl _ _ _ _ I a0 cap hb ht an =>
   obtain⟨arr,el,h1,h2,h3,h4⟩:=s.arr b cells I a0 T hb;have b2:min j.length len*sz<=len*sz:=Nat.mul_le_mul_right _ (Nat.min_le_right _ _);have U:=sZ s (off:=off) (xs:=(j.take len).flatten) (news:=o) T hb h1 h2 h3 h4 zOm zOm aa.one a9;have R:=run_storeCells_at P I off el o 0 arr w h1 zOm a2;simp only[Nat.add_zero]at R;refine⟨_,_,?_,U,.sc _ rfl⟩;have ay:Nat.min j.length len=min j.length len:=rfl;simp only[builtin,Builtin.copy_,qO,zD,goInt];simp_all[wR,Z1,vK,run_underlying,jr]
 | @clear t e sz bt b off len cells zv hs hz ao b3 b4 T hl hp =>
  have r0:=hr 0 _ rfl;have C:g=#[g.getD 0 uk]:=by
   have h2:g.size=1:=zUs hn;apply Array.ext
   .simpa using h2
   simp_all
  generalize g.getD 0 uk=u0 at *
  subst C;obtain⟨aj,hu,a7,ak,al⟩:=ul hs;obtain⟨z,b5,rfl⟩:=Zz hz w;have ab:∀ c,c∈(ofV z).cells->c.one=true:=fun c T=>by grind
  obtain⟨c1,c2,c3⟩:=(VRel.ofV (G:=G) (h:=w.heap) z).cells ab;have aq:z.cells.size=sz:=by rw[c1,ao]
  have a8:(yW z.cells len).toList.length=len*sz:=by simp[yW,aq]
  have az:∀ i:Nat,i % sz<sz:=fun i=>Nat.mod_lt i zOm
  have ad:∀ i,i<len*sz->(yW z.cells len).toList.getD i uk=z.cells.getD (i % sz) uk:=by
   simp_all[yW,zr,qT,getElem!_pos,Zv]
  cases r0 with
  |sl _ _ _ _ I a0 cap hb ht an =>
   obtain⟨arr,el,h1,h2,h3,h4⟩:=s.arr b cells I a0 T hb;have a2:∀ v,v∈(yW z.cells len).toList->v.oneCell'=true:=by
    intro v hv;obtain⟨i,hi⟩:=List.mem_iff_getElem?.1 hv;have ar:i<len*sz:=by grind
    have:=ad i ar;rw[zr,hi]at this;simp only[Option.getD_some]at this;simp_all
   have b6:∀(k:Nat) x,((qr (len*sz)).map fun i=>(ofV z).cells.getD (i % sz) .any)[k]?=some x->k<len*sz/\(ofV z).cells[k % sz]?=some x:=by
    grind
   have U:=sZ s (off:=off) (xs:=(qr (len*sz)).map fun i=>(ofV z).cells.getD (i % sz) .any) (news:=(yW z.cells len).toList) T hb h1 h2 h3 h4 (zUs hl) (by rw[a8];simp)
    (fun x hx=>by
     grind)
    (fun k x hx=>by
     grind)
   have R:=run_storeCells_at P I off el (yW z.cells len).toList 0 arr w h1 zOm a2;simp only[Nat.add_zero]at R;refine⟨_,_,?_,U,.tup [] #[] rfl zSp⟩;obtain⟨l,rfl⟩:∃ l,len=l+1:=⟨len-1,zOm⟩;simp_all[builtin,Builtin.clear_,qO,wR,Z1,run_underlying]
 | @delete t t' kt et b J k r ht T ae hf =>
  have r0:=hr 0 _ rfl;have r1:=hr 1 _ rfl;have C:g=#[g.getD 0 uk,g.getD 1 uk]:=by
   have h2:g.size=2:=zUs hn;apply Array.ext
   .simpa using h2
   .intro i hi ai
    have:i=0\/i=1:=zOm;rcases this with rfl|rfl<;>simp[qT,hi]
  generalize g.getD 0 uk=u0 at *
  generalize g.getD 1 uk=u1 at *
  subst C;have hu:=ZC ht;obtain⟨mb,a0,ce,rfl,hb,hh,a4,a5⟩:=VP s r0 T;have af:(Instr.checkKey ce.isEmpty 10000 kt u1).run P w = .ok () w:=Jx _ r1 ae;have hg:=u7 (P:=P) hh;obtain⟨a1,au⟩:=Qq r1 ae a4 hf;have ag:j8 ce ce.size := .of rfl a5;cases r with
  |none =>
   refine⟨_,_,?_,sQ s T zSp hb hh a4 ag,.tup [] #[] rfl zSp⟩;simp only[Option.map_none]at a1;simp[builtin,Builtin.delete_,run_underlying hu,hg,af,a1,wU hh]
  |some i =>
   refine⟨_,_,?_,sQ s T zSp hb hh (qgK a4 (au i rfl)) (qgJ ag i),.tup [] #[] rfl zSp⟩;simp only[zg]at a1;simp[builtin,Builtin.delete_,run_underlying hu,hg,af,a1,wU hh]
end
end Go.Ev
namespace Go.Ev
open Go Go.RowKit
section
variable {P:qc}
theorem pS{g k x}:∀{es i r},zm P g k es i=some r->(r.isSome=true->zm P g k (es++[x]) i=some r)/\(r=none->zm P g k (es++[x]) i=zm P g k [x] (i+es.length))
 | [],i,r,h=>by
  grind [zm]
 |e :: es,i,r,h=>by
  unfold zm at h;split at h
  .rename_i j
   simp only[qp]at h;subst h;refine⟨fun _=>?_,fun h=>absurd h zSp⟩;rw[yD,zm,j]
  .rename_i j
   obtain⟨o,p⟩:=pS (x:=x) h;refine⟨fun l=>?_,fun l=>?_⟩
   .rw [yD,zm,j];exact o l
   .rw [yD,zm,j]
    simp only;rw[p l,yp];congr 1;omega
  .exact absurd h zSp
theorem pT{mu mu' t m k z l I v}(h:Ya P mu t m k=some (z,mu'))(j:jk P mu t l I false=some v):jk P mu' t l I false=some v:=by
 unfold Ya at h;split at h
 .rename_i b kt et ht
  split at h
  .rename_i J hm
   split at h
   .rename_i R
    split at h
    ·
     rename_i i hf;obtain⟨_,e,he,T⟩:=Jy hf;simp only[Nat.sub_zero]at he;simp only[he,zg,qp,u4]at h;have e1:J.set i (k,e.2)=J:=by
      rw[T];apply j7
      grind
     rw[e1]at h;have e2:mu.set b (.mp J)=mu:=by
      apply j7
      grind
     grind
    .rename_i hf
     cases U:qA P et with
     |none=>simp[U]at h
     |some C =>
      simp only[U,zg,qp,u4]at h;obtain⟨_,rfl⟩:=h;have a0:b<mu.length:=(qj.1 hm).1;unfold jk at j⊢;rw[ht]at j⊢
      have key:jO (mu.set b (.mp (J++[(k,C)]))) l=jO mu l\/(jO mu l=some J/\jO (mu.set b (.mp (J++[(k,C)]))) l=some (J++[(k,C)])):=by
       unfold jO;split
       .exact .inl rfl
       .rename_i b'
        by_cases o:b=b'
        .grind
        grind
       .exact .inl rfl
       .exact .inl rfl
      rcases key with key|⟨k1,k2⟩
      .grind
      .rw [k1]at j
       rw[k2];simp only at j⊢;split at j
       .rename_i g
        rw[if_pos g];cases p:zm P kt I J 0 with
        |none=>grind
        |some r =>
         rw[p]at j;obtain⟨a1,a2⟩:=pS (x:=(k,C)) p;cases r with
         |some i =>
          rw[a1 rfl]
          grind
         |none =>
          rw[a2 rfl];simp only[U,zg]at j;obtain⟨bb,o⟩:=pM g R;rw[zm,o];cases bb with
          |true =>
           grind
          |false =>
           grind [zm]
       grind
    grind
   grind
  grind
 grind
theorem qgT{mu mu' t m k z i j v}(h:Ya P mu t m k=some (z,mu'))(g:yz P mu t i j false=some v):yz P mu' t i j false=some v:=by
 cases i with
 |ims J =>
  simp only[yz]at g⊢;cases l:mapT P t with
  |none=>grind
  |some q =>
   rw[l]at g;simp only at g⊢;split at g
   .rename_i o
    rw[if_pos o];exact pT h g
   grind
 |_=>exact pT h g
end
end Go.Ev
namespace Go.Ev
open Go Go.RowKit
section
variable {x:AV}{K:AV->Prop}{h:Array Obj}{g:Array yc}{G:Gh}{xs:List (List AV)}{mu:Mu}{P:qc}{t:qe}{w:qf}
@[go_sem] def wV(P:qc)(op:BinOp)(t:qe)(x y:AV):Option AV:=
 match x,y with
 | .agg p,.agg j=>match Wt P t with
  |some n=>if p.length=n then (match op with
   | .eql=>(aEqs p j).map fun b => .sc (.bool b)
   | .neq=>(aEqs p j).map fun b => .sc (.bool !b)
   |_=>none) else none
  |none=>none
 |x,y=>aBin P op t x y
theorem qgU{n}(h:Wt P t=some n):P.eqGuardType P.depth t=false/\((∃ e q,P.underlying t=some (.array n e)/\P.underlying e=some (.int q)/\szOf P e=some 1) \/
  ∃ fs,P.underlying t=some (.struct fs)/\Z4 P fs.toList 0=true/\P.stoodInHeld t=false/\fs.size=n):=by
 unfold Wt at h;split at h
 .grind
 .grind
 grind
theorem qgV{op y z ox oy u v}(o:VRel G w.heap x u)(C:VRel G w.heap y v)(h:wV P op t x y=some z) :
    ∃ r,(do eqGuard op t ox oy u v;binOp op t u v:Sem yc).run P w = .ok r w/\VRel G w.heap z r:=by
  unfold wV at h;split at h
  · rename_i p j
    split at h
    · rename_i n I
      obtain⟨hg,I⟩:=qgU I;split at h
      · rename_i hl
        have g:=o;have i:=C;cases o with
        |agg _ J hn hv =>
        cases C with
        |agg _ R hm hw =>
        have T:(eqGuard op t ox oy (.agg J) (.agg R)).run P w = .ok () w:=run_eqGuard_agg w op t ox oy J R hg;simp only[qO,T,qR];have heq:∀ b,aEqs p j=some b->(Op.equal t (.agg J) (.agg R)).run P w = .ok b w:=fun b l=>by
          rcases I with ⟨e,q,U,he,hs⟩|⟨fs,U,hf,hp,a0⟩
          · exact pH (G:=G) 9998 U he hs hl g i l
          · exact qf4 (G:=G) 9998 U hf hp zOm g i l
        cases op<;>simp only at h<;>first
          | (simp at h;done)
          | (cases l:aEqs p j with
             |none=>simp[l]at h
             |some b =>
               simp only[l,zg,qp]at h;subst h;refine⟨_,?_,.sc _ rfl⟩;simp_all[binOp])
      grind
    grind
  · exact qfJ o C h
def u9:yj->Bool
 | .const (.slice none 0 0)=>true
 |_=>false
def jP(P:qc)(det:Bool)(op:BinOp)(t:qe)(x:AV)(K:AV->Prop):Prop:=
 (qD P t).isSome=true/\(op = .eql\/op = .neq) /\
 match x with
 | .lst _ []=>det=false/\K (.sc (.bool true))/\K (.sc (.bool false))
 | .lst _ (_ :: _) | .sl .. => K (.sc (.bool (decide (op = .neq))))
 |_=>False
theorem qgW(d){t e}(g:P.underlying t=some (.slice e))(b len cap) :
  (Op.equalIn (d+1) t (.slice b len cap) (.slice none 0 0)).run P w = .ok b.isNone w:=by
 cases b<;>simp[Op.equalIn,run_underlying g]
theorem jP.sound{det op ox oy u}(C:VRel G w.heap x u)(h:jP P det op t x K) :
  ∃ z r,K z/\(do eqGuard op t ox oy u (.slice none 0 0);binOp op t u (.slice none 0 0):Sem yc).run P w = .ok r w/\VRel G w.heap z r:=by
 obtain⟨hs,I,h⟩:=h;obtain⟨e,J⟩:∃ e,P.underlying t=some (.slice e):=by
  grind [qD,ul]
 have key:∀(b:Option Addr)(len cap:Nat),u = .slice b len cap->(do eqGuard op t ox oy u (.slice none 0 0);binOp op t u (.slice none 0 0):Sem yc).run P w = .ok (.bool (if op = .neq then b.isSome else b.isNone)) w:=by
  intro b len cap i;subst i;have R:(eqGuard op t ox oy (.slice b len cap) (.slice none 0 0)).run P w = .ok () w:=by
   simp_all[eqGuard]
  have T:(Op.equal t (.slice b len cap) (.slice none 0 0)).run P w = .ok b.isNone w:=qgW 9999 J b len cap;rcases I with rfl|rfl
  .simp [R,binOp,T]
  simp_all[binOp]
 have fin:∀(b:Bool),K (.sc (.bool b))->∀(c:Option Addr)(len cap:Nat),u = .slice c len cap->(if op = .neq then c.isSome else c.isNone)=b ->
   ∃ z r,K z/\(do eqGuard op t ox oy u (.slice none 0 0);binOp op t u (.slice none 0 0):Sem yc).run P w = .ok r w/\VRel G w.heap z r:=
  fun b U c len cap i e2=>⟨_,_,U,key c len cap i,by rw[e2];exact .sc _ rfl⟩
 cases C with
 |nil full =>
  obtain⟨_,l,o⟩:=h;by_cases g:op = .neq
  .grind
  grind
 |emp full a cap hc =>
  obtain⟨_,l,o⟩:=h;by_cases g:op = .neq
  .grind
  grind
 |lst full p sz a cap cs e' fr rd hb a0 hl hc hi hz hr hv =>
  cases p with
  |nil =>
   obtain⟨_,l,o⟩:=h;by_cases g:op = .neq
   .grind
   grind
  |cons y j =>
   refine fin _ h (some a) _ cap rfl ?_;by_cases g:op = .neq
   .simp
   simp
 |sl b sz off len a1 a2 cap hb ht hl =>
  refine fin _ h (some _) _ cap rfl ?_;by_cases g:op = .neq
  .simp
  simp
 |_=>exact h.elim
theorem jP.det{op}(h:jP P true op t x K):∃ z,K z/\∀ g,g z->jP P true op t x g:=by
 obtain⟨j,i,h⟩:=h;unfold jP;split at h
 .grind
 .grind
 .grind
 grind
theorem jP.mono{det op i}(h:jP P det op t x K)(j:∀ z,K z->i z):jP P det op t x i:=by
 obtain⟨l,g,h⟩:=h;unfold jP;refine⟨l,g,?_⟩;split at h
 .grind
 .exact j _ h
 .exact j _ h
 omega
theorem qgX{y}(h:u9 y=true):y = .const (.slice none 0 0):=by
 grind [u9,absurd]
def WK(x y:AV):Prop:=∀(G:Gh)(h:Array Obj)(v:yc),VRel G h x v->VRel ⟨G.imm,[]⟩ h y v
theorem WK.hf(h:HF x):WK x x:=h
theorem VRel.ro{full v}(r:VRel G h (.lst full xs) v):VRel G h (.lst false xs) v:=by
 cases r with
 |nil=>exact .nil _
 |emp _ a cap g=>exact .emp _ a cap zSp
 |lst _ _ sz a cap i e j rd l o p g t C I J=>exact .lst _ _ sz a cap i e j rd l o p zSp t C I J
theorem WK.lst{full}(h:∀ r,r∈xs->∀ c,c∈r->HF c):WK (.lst full xs) (.lst false xs):=fun G g v r=>VRel.ro (HF.lst h G g v r)
theorem WK.agg{xs ys}(o:ys.length=xs.length)(h:∀(k:Nat) x y,xs[k]?=some x->ys[k]?=some y->WK x y):WK (.agg xs) (.agg ys):=fun G j v r=>by
 cases r with
 |agg _ p t l =>
  refine .agg _ _ zOm (fun k y g=>?_);have C:k<ys.length:=(qj.1 g).1;have i:xs[k]?=some (xs[k]' zOm):=by grind
  exact h k _ y i g G j _ (l k _ i)
def WKs:List AV->List AV->Prop
 | [],[]=>True
 |x :: p,y :: j=>WK x y/\WKs p j
 |_,_=>False
theorem WKs.get:∀{xs ys},WKs xs ys->ys.length=xs.length/\∀(k:Nat) x y,xs[k]?=some x->ys[k]?=some y->WK x y
 | [],[],_=>⟨rfl,zSp⟩
 |x :: xs,y :: ys,⟨h,t⟩=>by
  obtain⟨j,l⟩:=WKs.get t;refine⟨zP1 j,fun k a b g i=>?_⟩;cases k with
  |zero=>simp at g i;subst g;subst i;exact h
  |succ k=>exact l k a b (zUs g) (zUs i)
 | [],_ :: _,h=>h.elim
 |_ :: _,[],h=>h.elim
theorem WK.aggs{xs ys}(h:WKs xs ys):WK (.agg xs) (.agg ys) := .agg h.get.1 h.get.2
def Rds(mu:Mu):List AV->List AV->Prop
 | [],[]=>True
 |x :: p,y :: j=>Rd mu x y/\Rds mu p j
 |_,_=>False
theorem Rds.get:∀{xs ys},Rds mu xs ys->ys.length=xs.length/\∀(k:Nat) x y,xs[k]?=some x->ys[k]?=some y->Rd mu x y
 | [],[],_=>⟨rfl,zSp⟩
 |x :: xs,y :: ys,⟨h,t⟩=>by
  obtain⟨j,l⟩:=Rds.get t;refine⟨zP1 j,fun k a b g i=>?_⟩;cases k with
  |zero=>simp at g i;subst g;subst i;exact h
  |succ k=>exact l k a b (zUs g) (zUs i)
 | [],_ :: _,h=>h.elim
 |_ :: _,[],h=>h.elim
def MuLe(mu mu':Mu):Prop:=∀(b:Nat) c,mu[b]?=some c->mu'[b]?=some c
theorem MuLe.push(mu c):MuLe mu (mu++[c]):=fun b x h=>by grind
theorem MuLe.refl(mu):MuLe mu mu:=fun _ _ h=>h
theorem MuLe.trans{a b c}(g:MuLe a b)(j:MuLe b c):MuLe a c:=fun i x h=>j i x (g i x h)
def Jz(P:qc)(mu:Mu)(f:AV)(args:List AV)(v:AV):Prop:=
 (∃ g first j i,f = .fn (.func g) first j/\qh P g i v/\(WKs (first++args++j) i\/(Rds mu (first++args++j) i/\FL v))) \/
 ∃ g first j i,f = .fn (.func g) first j/\u6 P g i v/\Rds mu (first++args++j) i
def VR(P:qc)(i:Nat)(args:List AV)(mu:Mu)(R:Bool->Mu->Prop):Prop:=
 ∀(G:Gh)(w:qf)(t:Array yc),Sim G mu w.heap->zO G w.heap args t->∀(l p:Nat),G.blk[i]?=some (l,p) ->
  ∃ fn g assign j,(Instr.yield l t).run P w = .ok (.round l fn g assign j) w /\
   RoundIn Fence.wide 0 P l fn g assign j w fun e C=>∃ b I o,e = .returned (.bool b)/\Stp G mu w I o C/\R b o
def qg(P:qc)(det:Bool)(mu:Mu)(f:AV)(args:List AV)(K o:AV->Mu->Prop):Prop:=
 (∃ v,Jz P mu f args v/\K v mu) \/
 (det=false/\((∃ g first l R,f = .fn (.func g) first l/\qz P g (first++args++l) mu R/\(∀ r j,R (.ret r) j->K r j)/\(∀ r j,R (.pan r) j->o r j)) \/
  ∃ i R,f = .yl i/\VR P i args mu R/\∀ b j,R b j->K (.sc (.bool b)) j))
def OptK{C:Type}(o:Option C)(k:C->Prop):Prop:=∃ v,o=some v/\k v
@[go_sem] def lenA(P:qc)(mu:Mu)(t:qe):AV->Option AV
 | .lst _ p=>if (qD P t).isSome then some (.sc (.int .i64 p.length)) else none
 | .sl _ _ _ len=>if (qD P t).isSome then some (.sc (.int .i64 len)) else none
 | .sc (.string s)=>match P.underlying t with|some .string=>some (.sc (.int .i64 s.size))|_=>none
 | .im J=>match P.underlying t with|some (.map _ _)=>some (.sc (.int .i64 J.length))|_=>none
 | .ims J=>match P.underlying t with|some (.map _ _)=>some (.sc (.int .i64 J.length))|_=>none
 | .mp b=>match P.underlying t,mu[b]? with|some (.map _ _),some (.mp J)=>some (.sc (.int .i64 J.length))|_,_=>none
 |_=>none
@[go_sem] def minA:AV->AV->Option AV
 | .sc (.int k x),.sc (.int _ y)=>some (.sc (.int k (if y<x then y else x)))
 |_,_=>none
@[go_sem] def maxA:AV->AV->Option AV
 | .sc (.int k x),.sc (.int _ y)=>some (.sc (.int k (if y > x then y else x)))
 |_,_=>none
@[go_sem] def uF(P:qc)(mu:Mu)(b:Builtin)(g:Array qe)(args:List AV):Option AV:=
 match b,args,g[0]? with
 | .len,[x],some t=>lenA P mu t x
 | .cap,[.lst true p],some t=>if (qD P t).isSome then some (.sc (.int .i64 p.length)) else none
 | .min,[x,y],_=>minA x y
 | .max,[x,y],_=>maxA x y
 |_,_,_=>none
theorem WN(h:(qD P t).isSome=true):∃ e,P.underlying t=some (.slice e):=by
 grind [qD,ul]
theorem zO.one_inv(r:zO G h [x] g):∃ v,g=#[v]/\VRel G h x v:=by
 obtain⟨j,l⟩:=r;have:=l 0 x rfl;refine⟨g.getD 0 uk,?_,this⟩;have i:g.size=1:=zUs j;apply Array.ext
 .simpa using i
 simp_all
theorem zO.two_inv{y}(r:zO G h [x,y] g):∃ u v,g=#[u,v]/\VRel G h x u/\VRel G h y v:=by
 obtain⟨o,l⟩:=r;have a:=l 0 x rfl;have b:=l 1 y rfl;refine⟨g.getD 0 uk,g.getD 1 uk,?_,a,b⟩;have j:g.size=2:=zUs o;apply Array.ext
 .simpa using j
 .intro i p t
  have:i=0\/i=1:=zOm;rcases this with rfl|rfl<;>simp[qT,p]
theorem qgY(s:Sim G mu w.heap){t ty x z v}(r:VRel G w.heap x v)(h:lenA P mu t x=some z)(j)(o:j[0]?=some t) :
  ∃ u,(Builtin.len_ j ty #[v]).run P w = .ok u w/\VRel G w.heap z u:=by
 unfold lenA at h;split at h
 .split at h
  .rename_i p
   simp only[qp]at h;subst h;obtain⟨e,i⟩:=WN p;obtain⟨a,cap,rfl,_⟩:=r.lst_inv;exact⟨_,by simp[Builtin.len_,o,run_underlying i,goInt],.sc _ rfl⟩
  grind
 .split at h
  .rename_i p
   simp only[qp]at h;subst h;obtain⟨e,i⟩:=WN p;cases r;exact⟨_,by simp[Builtin.len_,o,run_underlying i,goInt],.sc _ rfl⟩
  grind
 .split at h
  .rename_i i
   simp only[qp]at h;subst h;cases r;exact⟨_,by simp[Builtin.len_,o,run_underlying i,goInt],.sc _ rfl⟩
  grind
 .split at h
  .rename_i i
   simp only[qp]at h;subst h;cases r with
   |im _ g ce clock l T R U hv hd =>
   have C:(getObj g).run P w = .ok (.map ce clock) w:=by simp[getObj,Sem.run,l]
   exact⟨_,by simp_all[Builtin.len_,run_underlying,goInt],.sc _ rfl⟩
  grind
 .split at h
  .rename_i i
   simp only[qp]at h;subst h;cases r with
   |ims _ a0 σ τ _ hp hd r =>
   cases r with
   |im _ g ce clock l T R U hv a1 =>
   have C:(getObj g).run P w = .ok (.map ce clock) w:=by simp[getObj,Sem.run,l]
   exact⟨_,by simp[Builtin.len_,o,run_underlying i,goInt,C,R,hp.1],.sc _ rfl⟩
  grind
 .split at h
  .rename_i J i hm
   simp only[qp]at h;subst h;cases r with
   |mp _ g I l =>
   obtain⟨ce,cl,h1,h2,_⟩:=s.mp _ J g I hm l;have C:(getObj g).run P w = .ok (.map ce cl) w:=by simp[getObj,Sem.run,h1]
   exact⟨_,by simp_all[Builtin.len_,run_underlying,goInt],.sc _ rfl⟩
  grind
 grind
theorem qgZ(s:Sim G mu w.heap){b g ty cs args o z}(r:zO G w.heap args o)
  (h:uF P mu b g args=some z):∃ u,(builtin b g ty cs o).run P w = .ok (.value u) w/\VRel G w.heap z u:=by
 unfold uF at h;split at h
 .rename_i j
  obtain⟨v,rfl,i⟩:=r.one_inv;obtain⟨u,I,J⟩:=qgY s i h g j (ty:=ty);simp_all[builtin]
 .rename_i j
  obtain⟨v,rfl,i⟩:=r.one_inv;split at h
  .rename_i p
   simp only[qp]at h;subst h;obtain⟨e,t⟩:=WN p;obtain⟨a,cap,rfl,_,C,_⟩:=i.lst_inv;have:=C rfl;subst this;exact⟨_,by simp[builtin,Builtin.cap_,j,run_underlying t,goInt],.sc _ rfl⟩
  grind
 .obtain ⟨u,v,rfl,l,i⟩:=r.two_inv
  unfold minA at h;split at h
  .simp only[qp]at h;subst h
   cases l;cases i;exact⟨_,by simp[builtin,Builtin.min_,Builtin.min2],.sc _ rfl⟩
  grind
 .obtain ⟨u,v,rfl,l,i⟩:=r.two_inv
  unfold maxA at h;split at h
  .simp only[qp]at h;subst h
   cases l;cases i;exact⟨_,by simp[builtin,Builtin.max_,Builtin.max2],.sc _ rfl⟩
  grind
 grind
end
end Go.Ev
