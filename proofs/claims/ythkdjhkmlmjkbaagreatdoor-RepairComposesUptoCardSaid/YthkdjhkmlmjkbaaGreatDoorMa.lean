/-
  Own library, part 1: an abstract reading of values and a calculus over it; contracts of functions; plain lemmas.
-/
import GoSem.Claim
import Derived.WalkKit
import Derived.Laws.AppendOwn
import Derived.Laws.CopyRow
import Derived.Below
import Derived.RangeFuncRecord
import Derived.Laws.BytesString
import Derived.IntWalk
import Derived.Lib.AppendZerosOnto
set_option linter.unusedVariables false
set_option linter.unusedSimpArgs false
set_option maxRecDepth 100000
open Go renaming Value->j3,World->j2,TypeId->j1,MapEntry->wg,undef->vd,Program->qf,Operand->uk,FuncId->us
open Bool renaming and_eq_true->qi
open Option.some renaming injEq->qj
open List renaming range->qm,getElem?_eq_some_iff->qn,mem_cons->qp,getElem?_eq_getElem->qq,mem_map->qs,all_eq_true->qu,getD_eq_getElem?_getD->qS,getElem?_append_left->qT,mem_of_getElem?->qY,getElem?_map->qZ,length_append->zc,replicate->zd,getElem?_append_right->zo,append_assoc->zJ,ext_getElem?->zT,length_cons->zZ,getElem?_take->z8,map_append->yv,length_map->yP,cons_append->yS,mem_of_mem_take->jg,getElem?_drop->js,eq_nil_of_length_eq_zero->jt,getElem?_toArray->ju,getElem?_cons_succ->vh,length_take->vM,flatten_cons->uc,take_append_drop->uN,getElem?_cons_zero->Zp,mem_flatten->Jg
open Nat renaming le_refl->qr,le_trans->zu
open Go.IntKind renaming i64->qx
open Go.Sem renaming run_bind->qz,run_pure->qW
open Go.Result renaming andThen_ok->qA
open Array renaming getD_eq_getD_getElem?->qB,getElem?_eq_some_iff->zw,getElem?_toList->vK,getElem?_eq_getElem->UR
open Option renaming map_some->qU,map_eq_some_iff->zW
open Go.Builtin renaming zeroCells->ze
open Prod.mk renaming injEq->jO
namespace Go
abbrev cD:=ByteArray
section
variable {a b p:Prop}
theorem zOm(h:p:=by omega):p:=h
theorem zSi(h:p:=by simp[go_sem]):p:=h
theorem zS1(x:a)(h:a->p:=by intro x;simp[go_sem,x]):p:=h x
theorem zS2(x:a)(y:b)(h:a->b->p:=by intro x y;simp[go_sem,x,y]):p:=h x y
theorem zS3{c:Prop}(x:a)(y:b)(z:c)(h:a->b->c->p:=by intro x y z;simp[go_sem,x,y,z]):p:=h x y z
theorem zKr(h:p:=by kernel_rfl):p:=h
theorem zSp(h:p:=by simp):p:=h
theorem zP1(x:a)(h:a->p:=by intro x;simp[x]):p:=h x
theorem zSo(h:p:=by simp;omega):p:=h
theorem zUs(x:a)(h:a->p:=by intro x;simpa using x):p:=h x
theorem zVs(x:a)(h:a->p:=by intro x;simpa[go_sem] using x):p:=h x
theorem zW1(x:a)(h:a->p:=by intro x;omega):p:=h x
theorem zW2(x:a)(y:b)(h:a->b->p:=by intro x y;omega):p:=h x y
theorem zDe(h:p:=by decide):p:=h
theorem zIn{c:Prop} [Decidable c] {C:Sort _} {a b:C} (h:¬c:=by omega):(if c then a else b)=b:=if_neg h
theorem zGl{C:Type _}{l:List C}{i j:Nat}{a:C}(h:i≠j:=by omega):(l.set i a)[j]?=l[j]?:=List.getElem?_set_ne h
theorem zGa{C:Type _}{l m:List C}{i:Nat}(h:i<l.length:=by omega):(l++m)[i]?=l[i]?:=qT h
end
end Go
namespace Go.Ev
open Go
def tabs:List (Nat×List j3):=[(0,[.int .u64 1,.int .u64 10,.int .u64 100,.int .u64 1000,.int .u64 10000,.int .u64 100000,.int .u64 1000000,.int .u64 10000000,.int .u64 100000000,.int .u64 1000000000,.int .u64 10000000000,.int .u64 100000000000,.int .u64 1000000000000,.int .u64 10000000000000,.int .u64 100000000000000,.int .u64 1000000000000000,.int .u64 10000000000000000,.int .u64 100000000000000000,.int .u64 1000000000000000000,.int .u64 10000000000000000000])]
end Go.Ev
namespace Go.Ev
open Go
section
variable {C:Type}{h h':Array Obj}{w:j2}
inductive AV where
 |any
 |sc (v:j3)
 |lst (full:Bool) (xs:List (List AV))
 |sl (b sz off len:Nat)
 |agg (cs:List AV)
 |tup (vs:List AV)
 |ip (cs:List AV)
 |ptr (b off:Nat)
 |mp (b:Nat)
 |im (es:List (AV×AV))
 |ims (es:List (AV×AV))
 |fn (f:Fn) (first caps:List AV)
 |ifc (t:j1) (v:AV)
 |yl (b:Nat)
 deriving Inhabited
def US:j3->Bool
 | .bool _ | .int _ _ | .float _ _ | .complex _ _ _ | .string _ | .pointer none | .map none | .chan none | .nilFunc | .nilIface=>true
 | .tuple ⟨[]⟩=>true
 |_=>false
def ofC:j3->AV
 | .slice none 0 0 => .lst true []
 | .func f ⟨[]⟩ ⟨[]⟩ => .fn f [] []
 |v=>if US v then .sc v else .any
def ofV:j3->AV
 | .agg g => .agg (g.toList.map ofC)
 |v=>ofC v
def AV.cells:AV->List AV
 | .agg g=>g
 |v=>[v]
def AV.one:AV->Bool
 | .any | .agg _ | .tup _=>false
 | .sc v=>v.oneCell'
 |_=>true
structure Gh where
 imm:Nat->Prop
 blk:List (Nat×Nat)
variable {G G':Gh}
structure Gh.le (G G':Gh):Prop where
 imm:∀ b,G.imm b->G'.imm b
 blk:∀(i:Nat) (x:Nat×Nat),G.blk[i]?=some x->G'.blk[i]?=some x
theorem Gh.le.refl(G:Gh):G.le G:=⟨fun _ h=>h,fun _ _ h=>h⟩
theorem Gh.le.trans{A B C:Gh}(h:A.le B)(k:B.le C):A.le C:=⟨fun b x=>k.imm b (h.imm b x),fun i x y=>k.blk i x (h.blk i x y)⟩
structure Ext (G:Gh) (h h':Array Obj):Prop where
 size:h.size<=h'.size
 keep:∀ b,G.imm b->h'[b]?=h[b]?
theorem Ext.refl(G:Gh)(h:Array Obj):Ext G h h:=⟨qr _,fun _ _=>rfl⟩
def PIx(i j:Nat->Nat)(es g:List C):Prop:=g.length=es.length/\∀ k,k<es.length->i k<es.length/\j k<es.length/\j (i k)=k/\i (j k)=k/\g[i k]?=es[k]?
theorem PIx.refl(es:List C):PIx id id es es:=⟨rfl,fun k h=>⟨h,h,rfl,rfl,rfl⟩⟩
theorem PIx.back{l i:Nat->Nat}{es g:List C}(p:PIx l i es g){j:Nat}(h:j<es.length):g[j]?=es[i j]?:=by
 obtain⟨r,o,t,I,J⟩:=p.2 j h;have:=(p.2 (i j) o).2.2.2.2
 grind
def yE(ce:Array wg)(clock:Nat):Prop:=(∀(k:Nat) (e:wg),ce[k]?=some e->e.born<clock)/\∀(j k:Nat) (e f:wg),ce[j]?=some e->ce[k]?=some f->e.born=f.born->j=k
theorem yE.of{ce:Array wg}{clock:Nat}(p:clock=ce.size)(g:∀(k:Nat) (e:wg),ce[k]?=some e->e.born=k):yE ce clock:=
 ⟨fun k e h=>by grind,fun j k e f i l o=>by rw[<-g j e i,<-g k f l,o]⟩
inductive VRel (G:Gh) (h:Array Obj):AV->j3->Prop
 |any (v:j3):VRel G h .any v
 |sc (v:j3) (hv:US v=true):VRel G h (.sc v) v
 |nil (full:Bool):VRel G h (.lst full []) (.slice none 0 0)
 |emp (full:Bool) (a:Addr) (cap:Nat) (hc:full=true->cap=0):VRel G h (.lst full []) (.slice (some a) 0 cap)
 |lst (full:Bool) (xs:List (List AV)) (sz:Nat) (a:Addr) (cap:Nat) (cs:Array j3) (e:j1) (fr:Nat×Nat) (rd:Nat->j3)
   (hb:h[a.block]?=some (.cells cs e fr)) (hs:a.spot=none) (hl:xs.length<=cap) (hc:full=true->cap=xs.length) (hi:G.imm a.block)
   (hz:∀ r,r∈xs->r.length=sz)
   (hr:∀(k:Nat) x,xs.flatten[k]?=some x->cs[a.off+k]?=some (rd k))
   (hv:∀(k:Nat) x,xs.flatten[k]?=some x->VRel G h x (rd k)):VRel G h (.lst full xs) (.slice (some a) xs.length cap)
 |sl (b sz off len blk tot cap:Nat) (hb:G.blk[b]?=some (blk,tot)) (ht:off+cap*sz<=tot) (hl:len<=cap) :
   VRel G h (.sl b sz off len) (.slice (some ⟨blk,off,none⟩) len cap)
 |agg (cs:List AV) (vs:Array j3) (hn:vs.size=cs.length) (hv:∀(k:Nat) x,cs[k]?=some x->VRel G h x (vs.getD k vd)):VRel G h (.agg cs) (.agg vs)
 |tup (cs:List AV) (vs:Array j3) (hn:vs.size=cs.length) (hv:∀(k:Nat) x,cs[k]?=some x->VRel G h x (vs.getD k vd)):VRel G h (.tup cs) (.tuple vs)
 |ip (cs:List AV) (a:Addr) (arr:Array j3) (e:j1) (fr:Nat×Nat) (rd:Nat->j3)
   (hb:h[a.block]?=some (.cells arr e fr)) (hs:a.spot=none) (hi:G.imm a.block)
   (hr:∀(k:Nat) x,cs[k]?=some x->arr[a.off+k]?=some (rd k))
   (hv:∀(k:Nat) x,cs[k]?=some x->VRel G h x (rd k)):VRel G h (.ip cs) (.pointer (some a))
 |ptr (b off blk tot:Nat) (hb:G.blk[b]?=some (blk,tot)):VRel G h (.ptr b off) (.pointer (some ⟨blk,off,none⟩))
 |mp (b blk tot:Nat) (hb:G.blk[b]?=some (blk,tot)):VRel G h (.mp b) (.map (some blk))
 |im (es:List (AV×AV)) (blk:Nat) (ce:Array wg) (clock:Nat) (hb:h[blk]?=some (.map ce clock)) (hi:G.imm blk) (hn:ce.size=es.length)
   (hk:∀(k:Nat) x,es[k]?=some x->VRel G h x.1 (ce.getD k default).key) (hv:∀(k:Nat) x,es[k]?=some x->VRel G h x.2 (ce.getD k default).val)
   (hd:yE ce clock):VRel G h (.im es) (.map (some blk))
 |ims (es es':List (AV×AV)) (σ τ:Nat->Nat) (v:j3) (hp:PIx σ τ es es') (hd:(es.map Prod.fst).Nodup) (r:VRel G h (.im es') v):VRel G h (.ims es) v
 |fn (f:Fn) (first caps:List AV) (vs ws:Array j3) (hn:vs.size=first.length) (hm:ws.size=caps.length)
   (hv:∀(k:Nat) x,first[k]?=some x->VRel G h x (vs.getD k vd)) (hw:∀(k:Nat) x,caps[k]?=some x->VRel G h x (ws.getD k vd)):VRel G h (.fn f first caps) (.func f vs ws)
 |ifc (t:j1) (x:AV) (v:j3) (hv:VRel G h x v):VRel G h (.ifc t x) (.iface t v)
 |yl (b blk tot:Nat) (hb:G.blk[b]?=some (blk,tot)):VRel G h (.yl b) (.func (.yield blk) #[] #[])
theorem VRel.mono(R:G.le G')(he:Ext G h h'){x:AV}{v:j3}(r:VRel G h x v):VRel G' h' x v:=by
 induction r with
 |any v=>exact .any v
 |sc v I=>exact .sc v I
 |nil full=>exact .nil full
 |emp full a cap hc=>exact .emp full a cap hc
 |lst full J j a cap T e fr rd p hs hl hc P hz hr I C=>exact .lst full J j a cap T e fr rd (by rw[he.keep _ P];exact p) hs hl hc (R.imm _ P) hz hr C
 |sl b j off len g l cap p ht hl=>exact .sl b j off len g l cap (R.blk _ _ p) ht hl
 |agg T o U I C=>exact .agg T o U C
 |tup T o U I C=>exact .tup T o U C
 |ip T a arr e fr rd p hs P hr I C=>exact .ip T a arr e fr rd (by rw[he.keep _ P];exact p) hs (R.imm _ P) hr C
 |ptr b off g l p=>exact .ptr b off g l (R.blk _ _ p)
 |mp b g l p=>exact .mp b g l (R.blk _ _ p)
 |im i g ce clock p P U hk I hd a2 a0=>exact .im i g ce clock (by rw[he.keep _ P];exact p) (R.imm _ P) U a2 a0 hd
 |ims i a3 σ τ v hp hd r C=>exact .ims i a3 σ τ v hp hd C
 |fn f first a1 o ws U hm I hw a0 a4=>exact .fn f first a1 o ws U hm a0 a4
 |ifc t x v I C=>exact .ifc t x v C
 |yl b g l p=>exact .yl b g l (R.blk _ _ p)
theorem VRel.le(g:G.le G'){x:AV}{v:j3}(r:VRel G h x v):VRel G' h x v:=r.mono g (.refl _ _)
theorem VRel.ofC(v:j3):VRel G h (ofC v) v:=by
 unfold Ev.ofC;split
 .exact .nil true
 .exact .fn _ [] [] _ _ rfl rfl zSp zSp
 .split
  .rename_i g;exact .sc v g
  .exact .any v
theorem VRel.ofV(v:j3):VRel G h (ofV v) v:=by
 unfold Ev.ofV;split
 .rename_i i
  refine .agg _ _ zSp ?_;intro k x g;simp only[qZ,zW,vK]at g;obtain⟨v,j,rfl⟩:=g;have:i.getD k vd=v:=by simp[qB,j]
  rw[this];exact .ofC v
 .exact .ofC v
theorem VRel.one{x:AV}{v:j3}(r:VRel G h x v)(g:x.one=true):v.oneCell'=true:=by
 cases r with
 |ims _ _ _ _ _ _ _ r=>cases r;rfl
 |_=>simp_all[AV.one,Value.oneCell']
theorem pq{v:j3}(h:v.oneCell'=true):v.cells=#[v]:=by
 cases v<;>simp_all[Value.cells,Value.oneCell']
theorem VRel.cells{x:AV}{v:j3}(r:VRel G h x v)(p:∀ c,c∈x.cells->c.one=true) :
  v.cells.size=x.cells.length/\(∀(k:Nat) c,x.cells[k]?=some c->VRel G h c (v.cells.getD k vd))/\(∀ u,u∈v.cells.toList->u.oneCell'=true):=by
 by_cases I:∃ j,x = .agg j
 .obtain ⟨j,rfl⟩:=I
  cases r with
  |agg _ o J t =>
   refine⟨by simpa[Value.cells,AV.cells] using J,by simpa[Value.cells,AV.cells] using t,?_⟩;intro u C;simp only[Value.cells]at C;obtain⟨k,g⟩:=List.mem_iff_getElem?.1 C;rw[vK]at g;have l:k<j.length:=by
    grind
   have i:=t k j[k] (zP1 l);have:o.getD k vd=u:=by simp[qB,g]
   rw[this]at i;exact i.one (p _ (by simp[AV.cells]))
 .have e:x.cells=[x]:=by cases x<;>simp_all[AV.cells]
  have i:=r.one (p x (zP1 e));rw[pq i,e];refine⟨rfl,?_,zP1 i⟩;intro k c g;cases k with
  |zero=>simp at g;subst g;simpa using r
  |succ k=>simp at g
inductive Cell where
 |arr (cells:List AV)
 |mp (es:List (AV×AV))
 |md (es:List (AV×AV))
 |it (es:List (AV×AV)) (seen:List Nat)
 |lp (r:Loop) (tm:Nat->AV)
 |dead
 deriving Inhabited
abbrev Mu:=List Cell
variable {mu:Mu}
def Live(G:Gh)(mu:Mu)(b:Nat):Prop:=∃(i:Nat) (c:Cell) (g:Nat),mu[i]?=some c/\c ≠ .dead/\G.blk[i]?=some (b,g)
def jh(G:Gh)(h:Array Obj)(p:Nat)(o:Obj):Cell->Prop
 | .arr cells=>∃ C e,o = .cells C e (0,0)/\C.size=p/\cells.length<=p/\∀(j:Nat) x,cells[j]?=some x->x.one=true/\VRel G h x (C.getD j vd)
 | .mp g=>∃ ce clock,o = .map ce clock/\ce.size=g.length/\(∀(k:Nat) x,g[k]?=some x->VRel G h x.1 (ce.getD k default).key)/\(∀(k:Nat) x,g[k]?=some x->VRel G h x.2 (ce.getD k default).val) /\
   clock=ce.size/\(∀(k:Nat) (e:wg),ce[k]?=some e->e.born=k)
 | .md g=>∃ ce clock,o = .map ce clock/\ce.size=g.length/\(∀(k:Nat) x,g[k]?=some x->VRel G h x.1 (ce.getD k default).key)/\(∀(k:Nat) x,g[k]?=some x->VRel G h x.2 (ce.getD k default).val)/\yE ce clock
 | .it g seen=>(∃ m t I J ce l,VRel G h (.im t) (.map (some m))/\h[m]?=some (.map ce l)/\G.imm m/\PIx I J g t/\(∀ i,i∈seen->i<g.length)/\o = .mapIter (some m) l (seen.map fun i=>(ce.getD (I i) default).born).toArray l)\/(g=[]/\o = .mapIter none 0 #[] 0)
 | .lp r P=>o = .loop r/\∀ i,VRel G h (P i) (r.tmps.getD i vd)
 | .dead=>True
theorem jh.mono(l:G.le G')(p:Ext G h h'){P:Nat}{o:Obj}{c:Cell}(r:jh G h P o c):jh G' h' P o c:=by
  cases c with
  |arr cells=>obtain⟨cs,e,I,J,t,C⟩:=r;exact⟨cs,e,I,J,t,fun j x g=>⟨(C j x g).1,(C j x g).2.mono l p⟩⟩
  |mp es=>obtain⟨ce,R,I,J,t,C,T⟩:=r;exact⟨ce,R,I,J,fun k x g=>(t k x g).mono l p,fun k x g=>(C k x g).mono l p,T⟩
  |md es=>obtain⟨ce,R,I,J,t,C,T⟩:=r;exact⟨ce,R,I,J,fun k x g=>(t k x g).mono l p,fun k x g=>(C k x g).mono l p,T⟩
  | it es seen =>
                  rcases r with ⟨m,U,σ,τ,ce,a0,I,J,t,C⟩|r
                  · exact .inl ⟨m,U,σ,τ,ce,a0,I.mono l p,by rw[p.keep _ t];exact J,l.imm _ t,C⟩
                  · exact .inr r
  |lp r1 tm=>exact⟨r.1,fun i=>(r.2 i).mono l p⟩
  |dead=>trivial
theorem jh.le(i:G.le G'){g:Nat}{o:Obj}{c:Cell}(r:jh G h g o c):jh G' h g o c:=r.mono i (.refl _ _)
def vN(g:Nat->Prop)(h:Array Obj):Prop:=∀ x,x∈tabs->g x.1/\∃ e i,h[x.1]?=some (.cells x.2.toArray e i)
theorem vN.mono{i g:Nat->Prop}{j:Array Obj}(t:vN i h)(o:∀ b,i b->g b)(p:∀ b,i b->j[b]?=h[b]?):vN g j:=fun x l=>by
 obtain⟨r,e,C,I⟩:=t x l
 grind
structure Sim (G:Gh) (mu:Mu) (h:Array Obj):Prop where
 len:G.blk.length=mu.length
 imm:∀ b,G.imm b->b<h.size
 obj:∀(i:Nat) (c:Cell) blk tot,mu[i]?=some c->c ≠ .dead->G.blk[i]?=some (blk,tot)->∃ o,h[blk]?=some o/\jh G h tot o c
 live:∀(i:Nat) (c:Cell) blk tot,mu[i]?=some c->c ≠ .dead->G.blk[i]?=some (blk,tot)->¬G.imm blk
 inj:∀(i j:Nat) (ci cj:Cell) b ti tj,mu[i]?=some ci->mu[j]?=some cj->ci ≠ .dead->cj ≠ .dead->G.blk[i]?=some (b,ti)->G.blk[j]?=some (b,tj)->i=j
 tab:vN G.imm h
theorem Sim.bare(s:Sim G mu h):Sim ⟨G.imm,[]⟩ [] h:=
 ⟨rfl,s.imm,fun i c b t h=>by simp at h,fun i c b t h=>by simp at h,fun i j ci g b t l h=>by simp at h,s.tab⟩
theorem Sim.arr(s:Sim G mu h)(i:Nat)(cells:List AV)(l g:Nat)(p:mu[i]?=some (.arr cells))(r:G.blk[i]?=some (l,g)) :
  ∃ cs e,h[l]?=some (.cells cs e (0,0))/\cs.size=g/\cells.length<=g/\∀(j:Nat) x,cells[j]?=some x->x.one=true/\VRel G h x (cs.getD j vd):=by
 obtain⟨o,t,cs,e,rfl,h⟩:=s.obj i _ l g p zSp r;exact⟨cs,e,t,h⟩
theorem Sim.mp(s:Sim G mu h)(i:Nat)(es:List (AV×AV))(g j:Nat)(l:mu[i]?=some (.mp es))(p:G.blk[i]?=some (g,j)) :
  ∃ ce clock,h[g]?=some (.map ce clock)/\ce.size=es.length/\(∀(k:Nat) x,es[k]?=some x->VRel G h x.1 (ce.getD k default).key)/\(∀(k:Nat) x,es[k]?=some x->VRel G h x.2 (ce.getD k default).val) /\
   clock=ce.size/\(∀(k:Nat) (e:wg),ce[k]?=some e->e.born=k):=by
 obtain⟨o,r,ce,t,rfl,h⟩:=s.obj i _ g j l zSp p;exact⟨ce,t,r,h⟩
theorem Sim.md(s:Sim G mu h)(i:Nat)(es:List (AV×AV))(g j:Nat)(l:mu[i]?=some (.md es))(p:G.blk[i]?=some (g,j)) :
  ∃ ce clock,h[g]?=some (.map ce clock)/\ce.size=es.length/\(∀(k:Nat) x,es[k]?=some x->VRel G h x.1 (ce.getD k default).key)/\(∀(k:Nat) x,es[k]?=some x->VRel G h x.2 (ce.getD k default).val)/\yE ce clock:=by
 obtain⟨o,r,ce,t,rfl,h⟩:=s.obj i _ g j l zSp p;exact⟨ce,t,r,h⟩
theorem Sim.livesize(s:Sim G mu h){b:Nat}(l:Live G mu b):b<h.size:=by
 obtain⟨i,c,g,j,p,r⟩:=l;obtain⟨o,t,_⟩:=s.obj i c b g j p r
 grind
theorem Sim.all(s:Sim G mu h):Sim ⟨fun b=>G.imm b\/Live G mu b,[]⟩ [] h:=
 ⟨rfl,fun b h=>h.elim (s.imm b) (fun l=>s.livesize l),fun i c b t h=>by simp at h,fun i c b t h=>by simp at h,fun i j ci g b t o h=>by simp at h,s.tab.mono (fun b h => .inl h) (fun b h=>rfl)⟩
structure Stp (G:Gh) (mu:Mu) (w:j2) (G':Gh) (mu':Mu) (w':j2):Prop where
 le:G.le G'
 sim:Sim G' mu' w'.heap
 keep:∀ b,b<w.heap.size->¬Live G mu b->w'.heap[b]?=w.heap[b]?
 size:w.heap.size<=w'.heap.size
 live:∀ b,Live G' mu' b->Live G mu b\/w.heap.size<=b
 inew:∀ b,G'.imm b->G.imm b\/Live G mu b\/w.heap.size<=b
 tape:w'.tape=w.tape
 os:w'.os=w.os
 output:w'.output=w.output
 drawn:w.drawn<=w'.drawn
theorem Stp.ext{p:Mu}{w':j2}(s:Sim G mu w.heap)(t:Stp G mu w G' p w'):Ext G w.heap w'.heap:=
 ⟨t.size,fun b j=>t.keep b (s.imm b j) (fun⟨i,c,g,l,o,r⟩=>s.live i c b g l o r j)⟩
theorem Stp.vrel{p:Mu}{w':j2}(s:Sim G mu w.heap)(t:Stp G mu w G' p w'){x:AV}{v:j3}(r:VRel G w.heap x v):VRel G' w'.heap x v:=
 r.mono t.le (t.ext s)
theorem Stp.refl(s:Sim G mu w.heap):Stp G mu w G mu w:=
 ⟨.refl G,s,fun _ _ _=>rfl,qr _,fun _ h => .inl h,fun _ h => .inl h,rfl,rfl,rfl,qr _⟩
theorem Stp.trans{A B C:Gh}{a b c:Mu}{u v:j2}(s:Sim A a u.heap)(h:Stp A a u B b v)(k:Stp B b v C c w):Stp A a u C c w:=by
 refine⟨h.le.trans k.le,k.sim,?_,zu h.size k.size,?_,?_,k.tape.trans h.tape,k.os.trans h.os,k.output.trans h.output,zu h.drawn k.drawn⟩
 .intro x i j
  rw[k.keep x (Nat.lt_of_lt_of_le i h.size) (fun l=>(h.live x l).elim j (fun g=>absurd i (Nat.not_lt.2 g))),h.keep x i j]
 .intro x i
  rcases k.live x i with l|l
  .exact h.live x l
  .exact .inr (zu h.size l)
 .intro x i
  rcases k.inew x i with l|l|l
  .exact h.inew x l
  .exact .inr (h.live x l)
  .exact .inr (.inr (zu h.size l))
theorem Stp.drew(s:Sim G mu w.heap):Stp G mu w G mu w.drew:=
 ⟨.refl G,s,fun _ _ _=>rfl,qr _,fun _ h => .inl h,fun _ h => .inl h,rfl,rfl,rfl,Nat.le_succ _⟩
end
end Go.Ev
namespace Go.Ev
open Go Go.RowKit
section
variable {G:Gh}{mu:Mu}{w:j2}
theorem zr{C:Type}{l:List C}{a x:C}{i:Nat}(h:(l++[a])[i]?=some x):(i<l.length/\l[i]?=some x)\/(i=l.length/\x=a):=by
 rcases Nat.lt_trichotomy i l.length with g|g|g
 .grind
 .grind
 grind
theorem ud(w:j2)(o:Obj)(b:Nat)(g:b<w.heap.size):(w.alloc o).heap[b]?=w.heap[b]?:=Below.heap_alloc w o b g
theorem Zu(w:j2)(o:Obj):(w.alloc o).heap[w.heap.size]?=some o:=by
 show (w.heap.push o)[w.heap.size]?=some o;simp
theorem Ji(s:Sim G mu w.heap)(o:Obj):Ext G w.heap (w.alloc o).heap:=
 ⟨zSp,fun b g=>ud w o b (s.imm b g)⟩
theorem sD(s:Sim G mu w.heap)(o:Obj) :
  Stp G mu w ⟨fun b=>G.imm b\/b=w.heap.size,G.blk⟩ mu (w.alloc o):=by
 have p:G.le ⟨fun b=>G.imm b\/b=w.heap.size,G.blk⟩:=⟨fun b h => .inl h,fun _ _ h=>h⟩;have J:=Ji s o;have key:∀ b,Live G mu b->(w.alloc o).heap[b]?=w.heap[b]?:=fun b l=>ud w o b (s.livesize l)
 refine⟨p,⟨s.len,?_,?_,?_,s.inj,s.tab.mono p.imm J.keep⟩,fun b l _=>ud w o b l,zSp,fun b h => .inl h,fun b h=>h.elim .inl (fun e => .inr (.inr zOm)),rfl,rfl,rfl,qr _⟩
 .intro b l
  rcases l with l|l
  .have:=s.imm b l;simp;omega
  .simp;omega
 .intro i c j g r t C
  obtain⟨P,R,T⟩:=s.obj i c j g r t C;exact⟨P,by rw[key j ⟨i,_,g,r,t,C⟩];exact R,T.mono p J⟩
 .intro i c j g r t C I
  rcases I with I|I
  .exact s.live i c j g r t C I
  .have:=s.livesize ⟨i,c,g,r,t,C⟩;omega
theorem sB(s:Sim G mu w.heap)(o:Obj)(c:Cell)(t:Nat)
  (ha:c ≠ .dead->jh G w.heap t o c) :
  Stp G mu w ⟨G.imm,G.blk++[(w.heap.size,t)]⟩ (mu++[c]) (w.alloc o):=by
 have C:G.le ⟨G.imm,G.blk++[(w.heap.size,t)]⟩:=⟨fun b h=>h,fun i x h=>by
  grind⟩
 have he:=Ji s o;have key:∀ b,Live G mu b->(w.alloc o).heap[b]?=w.heap[b]?:=fun b J=>ud w o b (s.livesize J)
 have a7:=s.len;refine⟨C,⟨by simp[s.len],?_,?_,?_,?_,s.tab.mono C.imm he.keep⟩,fun b J _=>ud w o b J,zSp,?_,fun b h => .inl h,rfl,rfl,rfl,qr _⟩
 .intro b J
  have:=s.imm b J;simp;omega
 .intro i c' r g hc P R
  rcases zr hc with ⟨T,p⟩|⟨T,p⟩
  .have l:G.blk[i]?=some (r,g):=by
    grind
   obtain⟨o',h1,h2⟩:=s.obj i c' r g p P l;exact⟨o',by rw[key r ⟨i,_,g,p,P,l⟩];exact h1,h2.mono C he⟩
  .have l:(r,g)=(w.heap.size,t):=by
    rcases zr R with ⟨h,_⟩|⟨_,h⟩
    .omega
    .exact h
   obtain⟨rfl,rfl⟩:=Prod.mk.inj l;subst p;exact⟨o,Zu w _,(ha P).mono C he⟩
 .intro i c' r g hc P R I
  rcases zr hc with ⟨T,p⟩|⟨T,p⟩
  .have l:G.blk[i]?=some (r,g):=by
    rcases zr R with ⟨_,h⟩|⟨h,_⟩
    .exact h
    .omega
   exact s.live i c' r g p P l I
  .have l:(r,g)=(w.heap.size,t):=by
    rcases zr R with ⟨h,_⟩|⟨_,h⟩
    .omega
    .exact h
   have:=s.imm r I;obtain⟨rfl,_⟩:=Prod.mk.inj l;omega
 .intro i j ci cj b ti tj T hj a3 a4 U a0
  rcases zr T with ⟨a5,a1⟩|⟨a5,a1⟩<;>rcases zr hj with ⟨a6,a2⟩|⟨a6,a2⟩
  .have a:G.blk[i]?=some (b,ti):=by
    rcases zr U with ⟨_,h⟩|⟨h,_⟩
    .exact h
    .omega
   have c:G.blk[j]?=some (b,tj):=by
    rcases zr a0 with ⟨_,h⟩|⟨h,_⟩
    .exact h
    .omega
   exact s.inj i j ci cj b ti tj a1 a2 a3 a4 a c
  .have a:G.blk[i]?=some (b,ti):=by
    rcases zr U with ⟨_,h⟩|⟨h,_⟩
    .exact h
    .omega
   have c:(b,tj)=(w.heap.size,t):=by
    rcases zr a0 with ⟨h,_⟩|⟨_,h⟩
    .omega
    .exact h
   have:=s.livesize ⟨i,ci,ti,a1,a3,a⟩;have:=(Prod.mk.inj c).1;omega
  .have a:G.blk[j]?=some (b,tj):=by
    rcases zr a0 with ⟨_,h⟩|⟨h,_⟩
    .exact h
    .omega
   have c:(b,ti)=(w.heap.size,t):=by
    rcases zr U with ⟨h,_⟩|⟨_,h⟩
    .omega
    .exact h
   have:=s.livesize ⟨j,cj,tj,a2,a4,a⟩;have:=(Prod.mk.inj c).1;omega
  .omega
 .intro b J
  obtain⟨i,c',t',hc,P,R⟩:=J;rcases zr hc with ⟨T,p⟩|⟨T,p⟩
  .have l:G.blk[i]?=some (b,t'):=by
    rcases zr R with ⟨_,h⟩|⟨h,_⟩
    .exact h
    .omega
   exact .inl ⟨i,c',t',p,P,l⟩
  .have l:(b,t')=(w.heap.size,t):=by
    rcases zr R with ⟨h,_⟩|⟨_,h⟩
    .omega
    .exact h
   exact .inr (zW1 ((Prod.mk.inj l).1))
theorem yY{C:Type}{l:List C}{a x:C}{i j:Nat}(h:(l.set i a)[j]?=some x):(j=i/\x=a)\/(j≠i/\l[j]?=some x):=by
 rw[List.getElem?_set]at h;by_cases g:i=j
 .grind
 .rw [if_neg g]at h;grind
theorem sR{w':j2}(s:Sim G mu w.heap)(i:Nat)(c:Cell)(c':Cell)(I J:Nat)(o:Obj)
  (T:mu[i]?=some c) (U:c ≠ .dead) (aa:c' ≠ .dead) (hk:G.blk[i]?=some (I,J))
  (hw:w'.heap.size=w.heap.size) (ho:w'.heap[I]?=some o) (r:∀ b,b≠I->w'.heap[b]?=w.heap[b]?)
  (ht:w'.tape=w.tape) (a5:w'.os=w.os) (a2:w'.output=w.output)
  (ha:jh G w.heap J o c') (a6:w.drawn<=w'.drawn:=by exact qr _) :
  Stp G mu w G (mu.set i c') w':=by
 have a7:Live G mu I:=⟨i,c,J,T,U,hk⟩;have he:Ext G w.heap w'.heap:=⟨zOm,fun b hb=>r b (fun e=>by subst e;exact s.live i c b J T U hk hb)⟩;have ab:∀(j:Nat) (R:Cell) b t,j≠i->mu[j]?=some R->R ≠ .dead->G.blk[j]?=some (b,t)->b≠I:=by
  intro j R b t hj l p g e;subst e;exact hj (s.inj j i R c b t J l T p U g hk)
 refine⟨.refl G,⟨by simpa using s.len,?_,?_,?_,?_,s.tab.mono (fun _ h=>h) he.keep⟩,?_,zOm,?_,fun b h => .inl h,ht,a5,a2,a6⟩
 .intro b hb;have:=s.imm b hb;omega
 .intro j R b t l p g
  rcases yY l with ⟨rfl,C⟩|⟨hj,C⟩
  .rw [hk]at g
   obtain⟨rfl,rfl⟩:=Prod.mk.inj (Option.some.inj g);subst C;exact⟨o,ho,ha.mono (.refl G) he⟩
  .obtain ⟨o',h1,h2⟩:=s.obj j R b t C p g
   exact⟨o',by grind,h2.mono (.refl G) he⟩
 .intro j R b t l p g
  rcases yY l with ⟨rfl,C⟩|⟨hj,C⟩
  .rw [hk]at g
   obtain⟨rfl,rfl⟩:=Prod.mk.inj (Option.some.inj g);exact s.live j c _ _ T U hk
  .exact s.live j R b t C p g
 .intro a b ca cb P ta tb a8 a9 a3 a4 a0 a1
  rcases yY a8 with ⟨rfl,C⟩|⟨hj,C⟩<;>rcases yY a9 with ⟨rfl,hy⟩|⟨ad,hy⟩
  .rfl
  .exact s.inj a b c cb P ta tb T hy U a4 a0 a1
  .exact s.inj a b ca c P ta tb C T a3 U a0 a1
  .exact s.inj a b ca cb P ta tb C hy a3 a4 a0 a1
 .intro b hb hl
  exact r b (fun e=>hl (e ▸ a7))
 .intro b hb
  obtain⟨j,R,t,l,p,g⟩:=hb;rcases yY l with ⟨rfl,C⟩|⟨hj,C⟩
  .exact .inl ⟨j,c,t,T,U,g⟩
  .exact .inl ⟨j,R,t,C,p,g⟩
theorem sW(s:Sim G mu w.heap)(i:Nat):Stp G mu w G (mu.set i .dead) w:=by
 refine⟨.refl G,⟨by simpa using s.len,s.imm,?_,?_,?_,s.tab⟩,fun _ _ _=>rfl,qr _,?_,fun b h => .inl h,rfl,rfl,rfl,qr _⟩
 .intro j r b t o g p
  rcases yY o with ⟨rfl,l⟩|⟨P,l⟩
  .exact absurd l g
  .exact s.obj j r b t l g p
 .intro j r b t o g p hi
  rcases yY o with ⟨rfl,l⟩|⟨P,l⟩
  .exact g l
  .exact s.live j r b t l g p hi
 .intro a b ca cb C ta tb R T I J U a0
  rcases yY R with ⟨rfl,l⟩|⟨P,l⟩
  .exact absurd l I
  .rcases yY T with ⟨rfl,hy⟩|⟨a1,hy⟩
   .exact absurd hy J
   .exact s.inj a b ca cb C ta tb l hy I J U a0
 .intro b hb
  obtain⟨j,r,t,o,g,p⟩:=hb;rcases yY o with ⟨rfl,l⟩|⟨P,l⟩
  .exact absurd l g
  .exact .inl ⟨j,r,t,l,g,p⟩
end
end Go.Ev
namespace Go.Ev
open Go Go.RowKit
section
variable {cs:Array j3}{mu:Mu}{P:qf}{t:j1}{w:j2}
def szOf(P:qf)(t:j1):Option Nat:=(P.info? t).map (·.size)
def qP(P:qf)(t:j1):Option Bool:=(P.underlying t).map fun | .struct _ | .array .. => true|_=>false
def qv(P:qf)(t:j1):Option AV:=((P.info? t).bind (·.zero)).map ofV
def qy(P:qf)(t:j1):Option (j1×Nat×Nat):=
 match P.underlying t with
 |some (.slice e)=>(P.info? e).map fun i=>(e,i.size,i.bytes)
 |_=>none
def qD(P:qf)(s f:Nat):Option (Nat×j1×Nat):=
 match P.underlying s with
 |some (.struct i)=>(i[f]?).bind fun g=>match szOf P g.type with|some (n+1)=>some (g.offset,g.type,n+1)|_=>none
 |_=>none
def wO(P:qf)(t:j1):Option (Nat×j1×Nat):=
 match P.underlying t with
 |some (.array n e)=>(szOf P e).map fun k=>(n,e,k)
 |_=>none
theorem Zv{b:Bool}(h:qP P t=some b)(w:j2):(isAgg t).run P w = .ok b w:=by
 unfold qP at h;cases g:P.underlying t with
 |none=>simp[g]at h
 |some d =>
  simp only[g,qU,qj]at h;subst h;simp only[isAgg,qz,run_underlying g,Result.andThen];cases d<;>rfl
theorem z9{n:Nat}(h:szOf P t=some n)(w:j2):(sizeOf t).run P w = .ok n w:=by
 unfold szOf at h;cases g:P.info? t with
 |none=>simp[g]at h
 |some d =>
  simp_all[qU,qj,sizeOf,typeInfo]
theorem ue{x:AV}(h:qv P t=some x)(w:j2):∃ v,(zeroValue t).run P w = .ok v w/\x=ofV v:=by
 unfold qv at h;cases g:P.info? t with
 |none=>simp[g]at h
 |some d =>
  simp only[g,Option.bind_some,zW]at h;obtain⟨v,i,rfl⟩:=h;exact⟨v,by simp[zeroValue,typeInfo,g,i],rfl⟩
theorem uf{a:Addr}{e:j1}{g:Nat×Nat}(i:w.heap[a.block]?=some (.cells cs e g))(j:a.spot=none)(k:Nat) :
  w.cell? (a.add k)=cs[a.off+k]?:=by
 grind [Addr.add,World.cell?]
@[go_sem] def yZ(mu:Mu):AV->Nat->Option (List AV)
 | .ip g,n=>if n<=g.length then some (g.take n) else none
 | .ptr b off,n=>match mu[b]? with
  |some (.arr cells)=>if off+n<=cells.length then some ((cells.drop off).take n) else none
  |_=>none
 |_,_=>none
theorem UT{G:Gh}(s:Sim G mu w.heap){p:AV}{v:j3}(r:VRel G w.heap p v){n:Nat}{cs:List AV}(h:yZ mu p n=some cs) :
  ∃(a:Addr) (rd:Nat->j3),v = .pointer (some a)/\cs.length=n/\∀(k:Nat) x,cs[k]?=some x->w.cell? (a.add k)=some (rd k)/\VRel G w.heap x (rd k):=by
 cases r with
 |ip o a arr e T rd l U hi hr hv =>
  simp only[yZ]at h;split at h
  .rename_i t
   simp only[qj]at h;subst h;refine⟨a,rd,rfl,zSo,fun k x C=>?_⟩
   grind [absurd,uf]
  grind
 |ptr b off g j l =>
  simp only[yZ]at h;split at h
  .rename_i cells I
   obtain⟨arr,e,J,h2,h3,P⟩:=s.arr b cells g j I l;split at h
   .rename_i t
    simp only[qj]at h;subst h;refine⟨⟨g,off,none⟩,fun k=>arr.getD (off+k) vd,rfl,zSo,fun k x C=>?_⟩;have i:cells[off+k]?=some x:=by
     grind
    refine⟨?_,(P _ _ i).2⟩;rw[uf (a:=⟨g,off,none⟩) J rfl];have R:off+k<cells.length:=(qn.1 i).1;have:off+k<arr.size:=zOm;simp[qB,this]
   grind
  grind
 |_=>grind [absurd,yZ]
@[go_sem] def jR(P:qf)(mu:Mu)(t:j1)(p:AV):Option AV:=
 match qP P t,szOf P t with
 |some true,some n=>(yZ mu p n).map .agg
 |some false,some _=>(yZ mu p 1).bind fun | [x]=>some x|_=>none
 |_,_=>none
theorem UU{G:Gh}(s:Sim G mu w.heap){t:j1}{p:AV}{v:j3}(r:VRel G w.heap p v){x:AV}(h:jR P mu t p=some x) :
  ∃ a u,v = .pointer (some a)/\(loadVar t a).run P w = .ok u w/\VRel G w.heap x u:=by
 unfold jR at h;split at h
 .rename_i n J T
  cases g:yZ mu p n with
  |none=>simp[g]at h
  |some i =>
   simp only[g,qU,qj]at h;subst h;obtain⟨a,rd,rfl,l,o⟩:=UT s r g;have R:=run_loadCells (P:=P) w a n rd (fun j U=>(o j i[j] (by simp[l,U])).1);refine⟨a,.agg ((qm n).map rd).toArray,rfl,?_,?_⟩
   .simp_all [loadVar,Zv,z9]
   .refine .agg _ _ (zP1 l) (fun k x hx=>?_)
    have C:k<n:=by grind
    have:(((qm n).map rd).toArray).getD k vd=rd k:=by simp[qB,C]
    grind
 .rename_i n J T
  cases g:yZ mu p 1 with
  |none=>simp[g]at h
  |some i =>
   simp only[g,Option.bind_some]at h
   match i,g,h with
   | [y],g,h =>
    simp only[qj]at h;subst h;obtain⟨a,rd,rfl,l,o⟩:=UT s r g;have I:=o 0 y rfl;rw[show a.add 0=a by simp[Addr.add]]at I;exact⟨a,rd 0,rfl,by simp[loadVar,Zv J,I.1],I.2⟩
 grind
def qH(cells:List AV)(off:Nat)(xs:List AV):List AV:=
 match xs with
 | [x]=>cells.set off x
 |xs=>cells.take off++xs++cells.drop (off+xs.length)
@[go_sem] theorem qf3(z:List AV)(o:Nat)(x:AV):qH z o [x]=z.set o x:=rfl
@[go_sem] theorem qf4(z:List AV)(o:Nat)(x y:AV)(l:List AV):qH z o (x :: y :: l)=z.take o++(x :: y :: l)++z.drop (o+(x :: y :: l).length):=rfl
@[go_sem] theorem qf5(z:List AV)(o:Nat):qH z o []=z.take o++[]++z.drop (o+0):=rfl
theorem y0(cells:List AV)(off:Nat)(xs:List AV)(h:off+xs.length<=cells.length):qH cells off xs=cells.take off++xs++cells.drop (off+xs.length):=by
 unfold qH;split
 .rename_i x
  simp at h;rw[List.set_eq_take_append_cons_drop,if_pos zOm];simp
 .rfl
@[go_sem] def wP(P:qf)(mu:Mu)(t:j1)(p x:AV):Option Mu:=
 match p,szOf P t with
 | .ptr b off,some n=>match mu[b]? with
  |some (.arr cells)=>if x.cells.length=n/\off+n<=cells.length/\x.cells.all AV.one=true then some (mu.set b (.arr (qH cells off x.cells))) else none
  |_=>none
 |_,_=>none
theorem pr{k:Nat}{v:j3}(h:cs[k]?=some v):cs.getD k vd=v:=by simp[qB,h]
theorem pt{G:Gh}{J:Mu}(s:Sim G mu w.heap){t:j1}{p x:AV}{v u:j3}(r:VRel G w.heap p v)(rx:VRel G w.heap x u)(h:wP P mu t p x=some J) :
  ∃ a w',v = .pointer (some a)/\(storeVar t a u).run P w = .ok () w'/\Stp G mu w G J w':=by
 unfold wP at h;split at h
 .rename_i b off n hn
  split at h
  .rename_i cells hc
   split at h
   .rename_i o
    obtain⟨R,a3,a4⟩:=o;simp only[qj]at h;subst h;cases r with
    |ptr _ _ g T hb =>
     obtain⟨arr,e,h1,h2,h3,h4⟩:=s.arr b cells g T hc hb;obtain⟨C,i,I⟩:=rx.cells (fun c a5=>by grind);have U:=run_storeCells_at P g off e u.cells.toList 0 arr w h1 (by simp[C];omega) I;simp only[Nat.add_zero]at U;refine⟨⟨g,off,none⟩,w.setRow g (arr.toList.take off++u.cells.toList++arr.toList.drop (off+u.cells.toList.length)).toArray,rfl,?_,?_⟩
     .simp_all [storeVar,qz,z9,qA,if_neg]
     .refine sR s b (.arr cells) _ g T (.cells (arr.toList.take off++u.cells.toList++arr.toList.drop (off+u.cells.toList.length)).toArray e (0,0)) hc zSp zSp hb zSp (setRow_heap w g arr _ e _ h1)
       (fun k hk=>setRow_other w g k _ hk) rfl rfl rfl ?_
      have a6:u.cells.toList.length=n:=by simp[C,R]
      refine⟨_,e,rfl,by simp[C];omega,by grind [y0],?_⟩;intro j y l;rw[y0 _ _ _ zOm]at l;rw[zJ]at l;by_cases a0:j<off
      .rw [qT zSo,z8,if_pos a0]at l
       have:=h4 j y l;refine⟨this.1,?_⟩;have e1:(((arr.toList.take off++u.cells.toList++arr.toList.drop (off+u.cells.toList.length)).toArray).getD j vd)=arr.getD j vd:=by
        simp only[qB,ju,zJ];rw[qT zSo,z8,if_pos a0,vK]
       rw[e1];exact this.2
      .rw [zo zSo]at l
       have a1:(cells.take off).length=off:=zSo;rw[a1]at l;by_cases a7:j-off<n
       .rw [zGa]at l
        refine⟨by grind,?_⟩;have:=i (j-off) y l;have e1:(((arr.toList.take off++u.cells.toList++arr.toList.drop (off+u.cells.toList.length)).toArray).getD j vd)=u.cells.getD (j-off) vd:=by
         simp only[qB,ju,zJ]
         grind
        rw[e1];exact this
       .rw [zo zOm,js,R]at l
        have a2:cells[j]?=some y:=by grind
        have:=h4 j y a2;refine⟨this.1,?_⟩;have e1:(((arr.toList.take off++u.cells.toList++arr.toList.drop (off+u.cells.toList.length)).toArray).getD j vd)=arr.getD j vd:=by
         simp only[qB,ju,zJ]
         grind
        rw[e1];exact this.2
   grind
  grind
 grind
end
end Go.Ev
namespace Go.Ev
open Go Go.RowKit
section
variable {x z:AV}{h:Array Obj}{G:Gh}{xs:List (List AV)}{sz:Nat}{P:qf}{t:j1}{u:j3}{w:j2}
def Good(P:qf)(G:Gh)(mu:Mu)(w:j2)(s:Sem j3)(x:AV)(p:Mu):Prop:=
 ∃ v g i,s.run P w = .ok v g/\Stp G mu w i p g/\VRel i g.heap x v
theorem sX{mu:Mu}(s:Sim G mu w.heap){c:Sem j3}{x:AV}{v:j3}(h:c.run P w = .ok v w)(r:VRel G w.heap x v):Good P G mu w c x mu:=
 ⟨v,w,G,h,.refl s,r⟩
theorem Jj:(∀ r,r∈xs->r.length=sz)->∀{i k:Nat} {r:List AV} {x:AV},xs[i]?=some r->r[k]?=some x->xs.flatten[i*sz+k]?=some x:=by
 induction xs with
 |nil=>intro _ i k r x h;simp at h
 |cons y l j =>
  intro g i k r x h o;have p:=g y zSp;cases i with
  |zero =>
   grind
  |succ i =>
   grind
theorem z2(h:∀ r,r∈xs->r.length=sz):xs.flatten.length=xs.length*sz:=by
 induction xs with
 |nil=>simp
 |cons y l g =>
  grind
@[go_sem] def aInt(op:BinOp)(k:IntKind)(a b:Int):Option AV:=
 match op with
 | .add=>some (.sc (.int k (k.wrap (a+b))))
 | .sub=>some (.sc (.int k (k.wrap (a-b))))
 | .mul=>some (.sc (.int k (k.wrap (a*b))))
 | .quo=>if b=0 then none else some (.sc (.int k (k.wrap (a.tdiv b))))
 | .rem=>if b=0 then none else some (.sc (.int k (a.tmod b)))
 | .eql=>some (.sc (.bool (a == b)))
 | .neq=>some (.sc (.bool (a != b)))
 | .lss=>some (.sc (.bool (decide (a<b))))
 | .leq=>some (.sc (.bool (decide (a<=b))))
 | .gtr=>some (.sc (.bool (decide (a > b))))
 | .geq=>some (.sc (.bool (decide (a>=b))))
 |_=>none
@[go_sem] def aStr(op:BinOp)(x y:cD):Option AV:=
 match op with
 | .eql=>some (.sc (.bool (x.toList == y.toList)))
 | .neq=>some (.sc (.bool (!(x.toList == y.toList))))
 | .lss=>some (.sc (.bool (Op.bytesLess x.toList y.toList)))
 | .add=>if x.size+y.size<=9223372036854775807 then some (.sc (.string (x++y))) else none
 |_=>none
@[go_sem] def aEqs:List AV->List AV->Option Bool
 | [],[]=>some true
 | .sc (.int k a) :: J,.sc (.int g b) :: l=>if k=g then (if a == b then aEqs J l else some false) else none
 |_,_=>none
def Jk(P:qf)(t:j1):Bool:=match P.underlying t with|some .bool=>true|_=>false
def UV(P:qf)(t:j1):Bool:=match P.underlying t with|some (.int _)=>true|_=>false
def uP(P:qf):List Field->Nat->Bool
  | [],_=>true
  | f :: g, i => f.offset == i && f.name != "_" && UV P f.type && uP P g (i + 1)
def Zw(P:qf)(t:j1):Option Nat:=
 match P.underlying t with
 |some (.struct g)=>if uP P g.toList 0=true/\P.stoodInHeld t=false/\P.eqGuardType P.depth t=false then some g.size else none
 |some (.array n e)=>match P.underlying e,szOf P e with
  |some (.int _),some 1=>if P.eqGuardType P.depth t=false then some n else none
  |_,_=>none
 |_=>none
def UW(P:qf)(t:j1):Bool:=match P.underlying t with|some (.interface _)=>true|_=>false
def Jl(P:qf)(t:j1):Bool:=match P.underlying t with|some (.interface g)=>g.isEmpty|_=>false
def uQ(P:qf)(t:j1):Bool:=match P.underlying t with|some (.pointer _)=>true|_=>false
@[go_sem] def UX(op:BinOp)(k:IntKind)(a b:Int):Option AV:=
 if b<0 then none else match op with
  | .shl=>some (.sc (.int k (k.wrap (a*2 ^ (min b.toNat k.bits)))))
  | .shr=>some (.sc (.int k (a.fdiv (2 ^ (min b.toNat k.bits)))))
  |_=>none
@[go_sem] def aBin(P:qf)(op:BinOp)(t:j1)(x y:AV):Option AV:=
 match x,y with
 | .sc (.int k a),.sc (.int g b)=>if op = .shl\/op = .shr then UX op k a b else if k=g then aInt op k a b else none
 | .sc (.bool a),.sc (.bool b)=>if Jk P t=true then (match op with | .eql=>some (.sc (.bool (a == b))) | .neq=>some (.sc (.bool (!(a == b))))|_=>none) else none
 | .sc (.string a),.sc (.string b)=>aStr op a b
 | .ifc _ _,.sc .nilIface=>if UW P t=true then (match op with | .eql=>some (.sc (.bool false)) | .neq=>some (.sc (.bool true))|_=>none) else none
 | .sc .nilIface,.sc .nilIface=>if Jl P t=true then (match op with | .eql=>some (.sc (.bool true)) | .neq=>some (.sc (.bool false))|_=>none) else none
 | .sc (.pointer none),.sc (.pointer none)=>if uQ P t=true then (match op with | .eql=>some (.sc (.bool true)) | .neq=>some (.sc (.bool false))|_=>none) else none
 | .ip _,.sc (.pointer none)=>if uQ P t=true then (match op with | .eql=>some (.sc (.bool false)) | .neq=>some (.sc (.bool true))|_=>none) else none
 | .ptr _ _,.sc (.pointer none)=>if uQ P t=true then (match op with | .eql=>some (.sc (.bool false)) | .neq=>some (.sc (.bool true))|_=>none) else none
 |_,_=>none
theorem pu{k:IntKind}{a b:Int}(g:¬b=0):(Op.intDiv .quo k a b).run P w=(Pure.pure (.int k (k.wrap (a.tdiv b))):Sem j3).run P w:=by
 unfold Op.intDiv;rw[if_neg g]
theorem pv{k:IntKind}{a b:Int}(g:¬b=0):(Op.intDiv .rem k a b).run P w=(Pure.pure (.int k (a.tmod b)):Sem j3).run P w:=by
 unfold Op.intDiv;rw[if_neg g]
theorem pw(d:Nat){t u:j1}{x:j3}{g:Array (String×j1)}(i:P.underlying t=some (.interface g)) :
  (Op.equalIn (d+1) t (.iface u x) .nilIface).run P w = .ok false w:=by
 simp[Op.equalIn,run_underlying i]
theorem px(d:Nat){t:j1}{g:Array (String×j1)}(i:P.underlying t=some (.interface g)) :
  (Op.equalIn (d+1) t .nilIface .nilIface).run P w = .ok true w:=by
 simp[Op.equalIn,run_underlying i]
theorem py(d:Nat){t:j1}{g:Array (String×j1)}(i:P.underlying t=some (.interface g))(j:g.isEmpty=true) :
  (Op.eqGuardIn (d+1) t .nilIface .nilIface).run P w = .ok false w:=by
 simp[Op.eqGuardIn,run_underlying i,j]
theorem pz(d:Nat){t e:j1}{a:Option Addr}(g:P.underlying t=some (.pointer e)) :
  (Op.equalIn (d+1) t (.pointer a) (.pointer none)).run P w = .ok a.isNone w:=by
 cases a<;>simp[Op.equalIn,run_underlying g]
theorem pA(h:uQ P t=true):∃ e,P.underlying t=some (.pointer e):=by
 grind [uQ,absurd]
theorem Jm{op:BinOp}{ox oy:uk}{a:Option Addr}{b c:Bool}(g:uQ P t=true)(i:a.isNone=b)(j:(!b)=c){z:AV}{G:Gh}
  (h:(match op with | .eql=>some (AV.sc (.bool b)) | .neq=>some (AV.sc (.bool c))|_=>none)=some z):∃ r,(do eqGuard op t ox oy (.pointer a) (.pointer none);binOp op t (.pointer a) (.pointer none):Sem j3).run P w = .ok r w/\VRel G w.heap z r:=by
 obtain⟨e,l⟩:=pA g;have o:(eqGuard op t ox oy (.pointer a) (.pointer none)).run P w = .ok () w:=by
  unfold eqGuard;cases op<;>rfl
 simp only[qz,o,qA];have p:(Op.equal t (.pointer a) (.pointer none)).run P w = .ok a.isNone w:=pz 9999 l;subst i;subst j;cases op<;>simp only[qj]at h<;>first
  | (simp at h;done)
  | (subst h;refine⟨_,?_,.sc _ rfl⟩;simp[binOp,p];done)
theorem pB{op:BinOp}{y:AV}{ox oy:uk}{v:j3}(l:VRel G w.heap x u)(o:VRel G w.heap y v)(h:aBin P op t x y=some z) :
    ∃ r,(do eqGuard op t ox oy u v;binOp op t u v:Sem j3).run P w = .ok r w/\VRel G w.heap z r:=by
  unfold aBin at h;split at h
  ·
    rename_i k a U b;cases l;cases o;split at h
    · unfold UX at h
      split at h
      · cases h
      · rename_i g
        have i:(eqGuard op t ox oy (.int k a) (.int U b)).run P w = .ok () w:=by
          unfold eqGuard;cases op<;>rfl
        simp only[qz,i,qA];cases op<;>simp only[qj]at h<;>first
          | (cases h;done)
          | (subst h;refine⟨_,?_,.sc _ rfl⟩;simp[binOp,Op.shift,g];done)
    · rename_i hs
      split at h
      · rename_i hk;subst hk
        have i:(eqGuard op t ox oy (.int k a) (.int k b)).run P w = .ok () w:=by
          unfold eqGuard;cases op<;>rfl
        simp only[qz,i,qA];unfold aInt at h;cases op<;>simp only[qj]at h<;>first
          | (simp at h;done)
          | (subst h;refine⟨_,?_,.sc _ rfl⟩;simp[binOp,Op.intArith,Op.intCmp];done)
          | (split at h
             · exact absurd h zSp
             · rename_i g
               simp only[qj]at h;subst h;refine⟨_,?_,.sc _ rfl⟩;simp[binOp,pu g,pv g];done)
          | (exfalso;simp at hs)
      grind
  · rename_i a b
    cases l;cases o;split at h
    · rename_i g
      have j:P.underlying t=some .bool:=by
        grind [Jk,absurd]
      have i:(eqGuard op t ox oy (.bool a) (.bool b)).run P w = .ok () w:=by
        unfold eqGuard;cases op<;>rfl
      simp only[qz,i,qA];cases op<;>simp only[qj]at h<;>first
        | (simp at h;done)
        | (subst h;refine⟨_,?_,.sc _ rfl⟩;simp[binOp,Op.equal,Op.maxDepth,run_equalIn_bool' w 9999 t a b j];done)
    grind
  · rename_i a b
    cases l;cases o;have i:(eqGuard op t ox oy (.string a) (.string b)).run P w = .ok () w:=by
      unfold eqGuard;cases op<;>rfl
    simp only[qz,i,qA];unfold aStr at h;cases op<;>simp only[qj]at h<;>first
      | (simp at h;done)
      | (subst h;refine⟨_,?_,.sc _ rfl⟩;simp[binOp,Op.stringOp];done)
      | (split at h
         · rename_i g
           simp only[qj]at h;subst h;refine⟨_,?_,.sc _ rfl⟩;have:¬(((a.size+b.size:Nat):Int) > qx.max):=by simp[IntKind.max,IntKind.signed,IntKind.bits];omega
           simp only[binOp,Op.stringOp,if_neg this,qW]
         · exact absurd h zSp)
  · rename_i R vv
    cases o;cases l with
    |ifc _ _ T hv =>
    split at h
    · rename_i g
      have j:∃ p,P.underlying t=some (.interface p):=by
        unfold UW at g;split at g
        · exact⟨_,by assumption⟩
        · exact absurd g zSp
      obtain⟨p,j⟩:=j;have i:(eqGuard op t ox oy (.iface R T) .nilIface).run P w = .ok () w:=by
        unfold eqGuard;cases op<;>rfl
      simp only[qz,i,qA];have C:(Op.equal t (.iface R T) .nilIface).run P w = .ok false w:=pw 9999 j;cases op<;>simp only[qj]at h<;>first
        | (simp at h;done)
        | (subst h;refine⟨_,?_,.sc _ rfl⟩;simp[binOp,C];done)
    · exact absurd h zSp
  · cases l
    cases o;split at h
    · rename_i g
      have j:∃ p,P.underlying t=some (.interface p)/\p.isEmpty=true:=by
        unfold Jl at g;split at g
        · exact⟨_,by assumption,g⟩
        · exact absurd g zSp
      obtain⟨p,j,I⟩:=j;have i:(eqGuard op t ox oy .nilIface .nilIface).run P w = .ok () w:=by
        have J:(Op.eqGuardIn Op.maxDepth t .nilIface .nilIface).run P w = .ok false w:=py 9999 j I;unfold eqGuard;cases op<;>first|rfl | (simp only[qz,Sem.run_ite,J,qA];simp)
      simp only[qz,i,qA];have C:(Op.equal t .nilIface .nilIface).run P w = .ok true w:=px 9999 j;cases op<;>simp only[qj]at h<;>first
        | (simp at h;done)
        | (subst h;refine⟨_,?_,.sc _ rfl⟩;simp[binOp,C];done)
    · exact absurd h zSp
  · cases l
    cases o;split at h
    · rename_i g;exact Jm g rfl rfl h
    · exact absurd h zSp
  · cases o
    cases l;split at h
    · rename_i g;exact Jm g rfl rfl h
    · exact absurd h zSp
  · cases o
    cases l;split at h
    · rename_i g;exact Jm g rfl rfl h
    · exact absurd h zSp
  grind
@[go_sem] def aUn(op:UnOp):AV->Option AV
 | .sc (.bool b)=>match op with | .not=>some (.sc (.bool !b))|_=>none
 | .sc (.int k n)=>match op with | .neg=>some (.sc (.int k (k.wrap (0-n))))|_=>none
 |_=>none
theorem pC{op:UnOp}(g:VRel G w.heap x u)(h:aUn op x=some z) :
  ∃ r,(Op.unary op u).run P w = .ok r w/\VRel G w.heap z r:=by
 unfold aUn at h;split at h
 .cases g
  split at h
  .simp only[qj]at h;subst h
   exact⟨_,rfl,.sc _ rfl⟩
  grind
 .cases g
  split at h
  .simp only[qj]at h;subst h
   exact⟨_,rfl,.sc _ rfl⟩
  grind
 grind
@[go_sem] def Zx(P:qf)(src g:j1):AV->Option AV
 | .sc (.int _ n)=>match P.underlying g with|some (.int k)=>some (.sc (.int k (k.wrap n)))|_=>none
 | .lst _ [[.sc (.int .u8 n)]]=>match P.underlying src with
  |some (.slice e)=>match P.underlying e,P.underlying g with
   |some (.int .u8),some .string=>some (.sc (.string (ByteArray.empty.push (UInt8.ofNat n.toNat))))
   |_,_=>none
  |_=>none
 |_=>none
theorem pD{src g:j1}(I:VRel G w.heap x u)(o:∃ d,P.underlying src=some d)(h:Zx P src g x=some z) :
  ∃ r,(convert src g u).run P w = .ok r w/\VRel G w.heap z r:=by
 unfold Zx at h;obtain⟨d,o⟩:=o;split at h
 .cases I
  split at h
  .rename_i k T
   simp only[qj]at h;subst h;refine⟨_,?_,.sc _ rfl⟩;simp only[convert,qz,run_underlying o,run_underlying T,qA];simp[Conv.intToInt]
  grind
 .rename_i f n
  split at h
  .rename_i e i
   split at h
   .rename_i U p
    simp only[qj]at h;subst h;cases I with
    |lst _ _ sz a cap cs e' fr rd hb t hl hc hi hz hr hv =>
     have J:VRel G w.heap (.sc (.int .u8 n)) (rd 0):=hv 0 _ rfl;have R:cs[a.off+0]?=some (rd 0):=hr 0 _ rfl;generalize rd 0=q at J R;cases J;refine⟨_,?_,.sc _ rfl⟩;rw[run_convert_bytes_string w src g e (some a) _ cap i U p];have C:=run_loadCells_list (P:=P) w a [.int .u8 n] (fun j v l=>by
      match j,l with
      | 0,l =>
       simp only[Zp,qj]at l;subst l;rw[uf hb t];exact R)
     exact run_bytesToString (P:=P) w a 1 cap [n] C
   grind
  grind
 grind
theorem sY{cs:List AV}{a:Addr}(r:VRel G h (.ip cs) (.pointer (some a)))(n:Nat):VRel G h (.ip (cs.drop n)) (.pointer (some (a.add n))):=by
 cases r with
 |ip _ _ arr e i rd j l o t C =>
  have g:(a.add n).block=a.block:=by unfold Addr.add;split<;>rfl
  have p:(a.add n).spot=none:=by unfold Addr.add;split<;>simp[l]
  have I:(a.add n).off=a.off+n:=by unfold Addr.add;split<;>simp_all
  refine .ip _ _ arr e i (fun k=>rd (n+k)) (by rw[g];exact j) p (by rw[g];exact o) ?_ ?_
  .grind
  grind
theorem sH{b o:Nat}{a:Addr}(r:VRel G h (.ptr b o) (.pointer (some a)))(n:Nat):VRel G h (.ptr b (o+n)) (.pointer (some (a.add n))):=by
 cases r with
 |ptr _ _ g i j =>
  have:(⟨g,o,none⟩:Addr).add n=⟨g,o+n,none⟩:=by unfold Addr.add;split<;>simp_all
  rw[this];exact .ptr b (o+n) g i j
@[go_sem] def addA(p:AV)(n:Nat):Option AV:=
 match p with
 | .ip g=>some (.ip (g.drop n))
 | .ptr b o=>some (.ptr b (o+n))
 |_=>none
theorem UY{p:AV}{v:j3}{n:Nat}(r:VRel G h p v)(e:addA p n=some z):∃ a,v = .pointer (some a)/\VRel G h z (.pointer (some (a.add n))):=by
 unfold addA at e;split at e
 .simp only[qj]at e;subst e
  cases r with
  |ip _ a arr el l rd g o t C I=>exact⟨a,rfl,sY (.ip _ a arr el l rd g o t C I) n⟩
 .simp only[qj]at e;subst e
  cases r with
  |ptr _ _ i j g=>exact⟨_,rfl,sH (.ptr _ _ i j g) n⟩
 grind
@[go_sem] def wQ(P:qf)(s f:Nat)(p:AV):Option AV:=(qD P s f).bind fun (off,_,_)=>addA p off
theorem UZ{s f off n:Nat}(h:qD P s f=some (off,t,n)) :
  ∃(fs:Array Field) (g:Field),P.underlying s=some (.struct fs)/\fs[f]?=some g/\g.offset=off/\g.type=t/\szOf P t=some n/\n≠0:=by
 unfold qD at h;split at h
 .grind
 grind
theorem pE{s f:Nat}{p:AV}{v:j3}(r:VRel G w.heap p v)(e:wQ P s f p=some z) :
  ∃ u,(Instr.fieldAt s v f).run P w = .ok u w/\VRel G w.heap z u:=by
 unfold wQ at e;cases hf:qD P s f with
 |none=>simp[hf]at e
 |some x =>
  obtain⟨off,t,n⟩:=x;simp only[hf,Option.bind_some]at e;obtain⟨a,rfl,j⟩:=UY r e;obtain⟨C,I,l,g,rfl,rfl,i,o⟩:=UZ hf;refine⟨_,?_,j⟩;simp[Instr.fieldAt,run_underlying l,g,Instr.sureAddr,fieldPlace,z9 i,o]
@[go_sem] def wR(P:qf)(t:j1)(x l:AV):Option AV:=
 match l with
 | .sc (.int _ i) =>
  match x,qy P t,wO P t with
  | .lst _ J,some (_,j,_),_=>if 0<=i/\i<J.length then (match J[i.toNat]? with|some r=>if r.length=j/\j≠0 then some (.ip r) else none|none=>none) else none
  | .sl b g off len,some (_,j,_),_=>if 0<=i/\i<len/\(g=j\/g=0) then some (.ptr b (off+i.toNat*j)) else none
  |p,none,some (n,_,j)=>if 0<=i/\i<n then addA p (i.toNat*j) else none
  |_,_,_=>none
 |_=>none
theorem ji{e:j1}{bt:Nat}(h:qy P t=some (e,sz,bt)):∃ i,P.underlying t=some (.slice e)/\P.info? e=some i/\i.size=sz/\i.bytes=bt:=by
 unfold qy at h;split at h
 .rename_i g l
  cases j:P.info? g with
  |none=>simp[j]at h
  |some i =>
   grind
 grind
theorem U0{e:j1}{n:Nat}(h:wO P t=some (n,e,sz)):P.underlying t=some (.array n e)/\szOf P e=some sz:=by
 unfold wO at h;split at h
 .rename_i l g o
  cases j:szOf P g with
  |none=>simp[j]at h
  |some i =>
   grind
 grind
theorem pF{ix:AV}{v:j3}(r:VRel G w.heap x v)(ri:VRel G w.heap ix u)(e:wR P t x ix=some z) :
  ∃ y,(Instr.indexAt t v u).run P w = .ok y w/\VRel G w.heap z y:=by
 unfold wR at e;split at e
 .rename_i k i
  cases ri;split at e
  .rename_i full J e' j bt hs
   split at e
   .rename_i I
    split at e
    .rename_i row l
     split at e
     .rename_i hz
      simp only[qj]at e;subst e;obtain⟨a1,R,o,C,a2⟩:=ji hs;have p:szOf P e'=some j:=by simp[szOf,o,C]
      cases r with
      |nil=>simp at l
      |emp=>simp at l
      |lst _ _ g a cap cs el fr rd hb a3 hl hc T a4 hr hv =>
       have U:g=j:=by grind
       subst U;refine⟨.pointer (some (a.add (i.toNat*g))),?_,?_⟩
       .simp [Instr.indexAt,asIntOf,run_underlying R,I,z9 p]
       .have h1:(a.add (i.toNat*g)).block=a.block:=by unfold Addr.add;split<;>rfl
        have h2:(a.add (i.toNat*g)).spot=none:=by unfold Addr.add;split<;>simp[a3]
        have h3:(a.add (i.toNat*g)).off=a.off+i.toNat*g:=by unfold Addr.add;split<;>simp_all
        refine .ip _ _ cs el fr (fun k=>rd (i.toNat*g+k)) (by rw[h1];exact hb) h2 (by rw[h1];exact T) ?_ ?_
        .intro k x hx
         rw[h3,Nat.add_assoc];exact hr _ x (Jj a4 l hx)
        grind [Jj]
     grind
    grind
   grind
  .rename_i b g off len e' j bt hs
   split at e
   .rename_i I
    obtain⟨a5,a6,_⟩:=I;simp only[qj]at e;subst e;obtain⟨a1,R,o,C,a2⟩:=ji hs;have p:szOf P e'=some j:=by simp[szOf,o,C]
    cases r with
    |sl _ _ _ _ a0 a7 cap hb ht hl =>
     refine⟨.pointer (some ((⟨a0,off,none⟩:Addr).add (i.toNat*j))),?_,sH (.ptr b off a0 a7 hb) _⟩;simp[Instr.indexAt,asIntOf,run_underlying R,a5,a6,z9 p]
   grind
  .rename_i n e' j ha
   split at e
   .rename_i I
    obtain⟨R,p⟩:=U0 ha;obtain⟨a,rfl,hz⟩:=UY r e;refine⟨_,?_,hz⟩;simp[Instr.indexAt,asIntOf,run_underlying R,Instr.sureAddr,I,z9 p]
   .exact absurd e zSp
  grind
 grind
end
end Go.Ev
namespace Go.Ev
open Go Go.RowKit
section
variable {z:AV}{h:Array Obj}{G:Gh}{xs:List (List AV)}{g:Option Int}{vhi vlo vmx:Option j3}{P:qf}{t:j1}{w:j2}
@[go_sem] def Zy(P:qf)(t:j1)(cs:List AV)(off:Nat):Option AV:=
 match qP P t,szOf P t with
 |some true,some n=>if off+n<=cs.length then some (.agg ((cs.drop off).take n)) else none
 |some false,_=>cs[off]?
 |_,_=>none
theorem U1{cs:List AV}{vs:Array j3}{off:Nat}
  (r:vs.size=cs.length) (i:∀(k:Nat) x,cs[k]?=some x->VRel G w.heap x (vs.getD k vd)) (h:Zy P t cs off=some z) :
  ∃ u,(part t vs off).run P w = .ok u w/\VRel G w.heap z u:=by
 unfold Zy at h;split at h
 .rename_i n j l
  split at h
  .rename_i o
   simp only[qj]at h;subst h;refine⟨.agg (vs.extract off (off+n)),by simp[part,Zv j,z9 l],.agg _ _ zSo ?_⟩;intro k x g;rw[z8]at g;split at g
   .rename_i C
    rw[js]at g;have:=i _ x g;have e:(vs.extract off (off+n)).getD k vd=vs.getD (off+k) vd:=by
     simp only[qB]
     grind
    rw[e];exact this
   grind
  grind
 .rename_i j
  have:=i off z h;have p:off<cs.length:=(qn.1 h).1;simp_all[vd,part,Zv,qB]
 grind
@[go_sem] def wS(P:qf)(s f:Nat)(x:AV):Option AV:=
 match x with
 | .agg g=>(qD P s f).bind fun (off,t,_)=>Zy P t g off
 |_=>none
theorem pG{s f:Nat}{x:AV}{v:j3}(r:VRel G w.heap x v)(e:wS P s f x=some z) :
  ∃ u,(Instr.field s v f).run P w = .ok u w/\VRel G w.heap z u:=by
 unfold wS at e;split at e
 .rename_i C
  cases r with
  |agg _ o g i =>
  cases hf:qD P s f with
  |none=>simp[hf]at e
  |some y =>
   obtain⟨off,t,n⟩:=y;simp only[hf,Option.bind_some]at e;obtain⟨I,J,R,j,rfl,rfl,l,p⟩:=UZ hf;obtain⟨u,T,U⟩:=U1 g i e;simp_all[Instr.field,run_underlying,asAgg]
 grind
@[go_sem] def wT(P:qf)(t:j1)(x g:AV):Option AV:=
 match g with
 | .sc (.int _ i) =>
  match x with
  | .agg l=>match wO P t with
   |some (n,e,j)=>if 0<=i/\i<n then Zy P e l (i.toNat*j) else none
   |none=>none
  | .sc (.string s)=>match P.underlying t with
   |some .string=>if 0<=i then (match s.data[i.toNat]? with|some b=>some (.sc (.int .u8 b.toNat))|none=>none) else none
   |_=>none
  |_=>none
 |_=>none
theorem pH{x C:AV}{v u:j3}(r:VRel G w.heap x v)(U:VRel G w.heap C u)(e:wT P t x C=some z) :
  ∃ y,(Instr.index t v u).run P w = .ok y w/\VRel G w.heap z y:=by
 unfold wT at e;split at e
 .rename_i k i
  cases U;split at e
  .rename_i cs
   cases r with
   |agg _ o hn hv =>
   split at e
   .rename_i n el j ha
    split at e
    .rename_i I
     obtain⟨J,a0⟩:=U0 ha;obtain⟨y,h1,R⟩:=U1 hn hv e;simp_all[Instr.index,asIntOf,run_underlying,z9]
    grind
   grind
  .rename_i s
   cases r;split at e
   .rename_i J
    split at e
    .rename_i I
     split at e
     .rename_i b T
      simp only[qj]at e;subst e;refine⟨.int .u8 b.toNat,?_,.sc _ rfl⟩;have l:i.toNat<s.data.size:=(zw.1 T).1;have p:s[i.toNat]?=some b:=by
       have R:s.data[i.toNat]=b:=(zw.1 T).2;have g:i.toNat<s.size:=l;rw[getElem?_pos s i.toNat g];exact congrArg some R
      simp[Instr.index,asIntOf,run_underlying J,I,p]
     grind
    grind
   grind
  grind
 grind
@[go_sem] def optI:Option AV->Option (Option Int)
 |none=>some none
 |some (.sc (.int _ n))=>some (some n)
 |_=>none
@[go_sem] def wU(P:qf)(t:j1)(x:AV)(lo g mx:Option AV):Option AV:=
 match optI lo,optI g,optI mx with
 |some lo,some g,some mx =>
  match x,P.underlying t with
  | .lst full J,some (.slice _) =>
   let n:Int:=J.length
   let h:=g.getD n
   let l:=lo.getD 0
   match mx with
   |none=>if 0<=l/\l<=h/\h<=n then some (.lst (full&&decide (h=n)) ((J.take h.toNat).drop l.toNat)) else none
   |some m=>if 0<=l/\l<=h/\h<=m/\m<=n/\g.isSome then some (.lst (decide (m=h)) ((J.take h.toNat).drop l.toNat)) else none
  | .sl b j off len,some (.slice e) =>
   let h:=g.getD len
   let l:=lo.getD 0
   match mx with
   |none=>if 0<=l/\l<=h/\h<=len/\(l=0\/l<len)/\szOf P e=some j then some (.sl b j (off+l.toNat*j) (h-l).toNat) else none
   |some _=>none
  | .ip i,some (.array n e) =>
   let h:=g.getD n
   let l:=lo.getD 0
   match mx with
   |none=>if 0<=l/\l<=h/\h<=n/\(l=0\/l<n)/\szOf P e=some 1/\i.length=n then some (.lst (decide (h=n)) (((i.take h.toNat).drop l.toNat).map fun c=>[c])) else none
   |some _=>none
  | .ptr b off,some (.array n e) =>
   match mx with
   |none=>if off=0/\lo.getD 0=0/\0<=g.getD n/\g.getD n<=n/\(szOf P e).isSome=true then some (.sl b 0 0 (g.getD n).toNat) else none
   |some _=>none
  | .sc (.string s),some .string =>
   let n:Int:=s.size
   let h:=g.getD n
   let l:=lo.getD 0
   match mx with
   |none=>if 0<=l/\l<=h/\h<=n then some (.sc (.string (s.extract l.toNat h.toNat))) else none
   |some _=>none
  |_,_=>none
 |_,_,_=>none
theorem vn{k:IntKind}{i:Int}{y:Nat}{c:BoundsCode}(g:0<=i)(j:i<=y):(Instr.sliceBound (.int k i) y c).run P w = .ok i.toNat w:=by
 simp[Instr.sliceBound,asIntOf,g,j]
theorem Jn{o:Option AV}(e:optI o=some g) :
  ∀{v:Option j3},(∀ x,o=some x->∃ u,v=some u/\VRel G h x u)->(o=none->v=none)->(g=none/\v=none)\/∃ k n,g=some n/\v=some (.int k n):=by
 intro v i j;unfold optI at e;split at e
 .grind
 .rename_i k n
  simp only[qj]at e;obtain⟨u,l,r⟩:=i _ rfl;cases r
  grind
 grind
theorem uR{isSlice:Bool}{len cap:Nat}{lo mx:Option Int}
  (j:(lo=none/\vlo=none)\/∃ k n,lo=some n/\vlo=some (.int k n)) (o:(g=none/\vhi=none)\/∃ k n,g=some n/\vhi=some (.int k n))
  (p:(mx=none/\vmx=none)\/∃ k n,mx=some n/\vmx=some (.int k n)) (r:mx.isSome=true->g.isSome=true)
  (U:0<=lo.getD 0) (h1:lo.getD 0<=g.getD len) (h2:g.getD len<=mx.getD cap) (h3:mx.getD cap<=cap) (T:len<=cap) :
  (Instr.sliceBounds isSlice len cap vlo vhi vmx).run P w = .ok ((lo.getD 0).toNat,(g.getD len).toNat,(mx.getD cap).toNat) w:=by
 rcases j with ⟨rfl,rfl⟩|⟨R,l,rfl,rfl⟩<;>rcases o with ⟨rfl,rfl⟩|⟨t,h,rfl,rfl⟩<;>rcases p with ⟨rfl,rfl⟩|⟨C,m,rfl,rfl⟩<;>simp only[Option.getD_none,Option.getD_some]at * <;>
  simp only[Option.isSome_none,Option.isSome_some,reduceCtorEq,imp_false,not_true_eq_false]at r
 .simp [Instr.sliceBounds]
 .grind [Instr.sliceBound,vn,Instr.sliceBounds,qz,qW,qA]
 .have I:(Instr.sliceBound (.int C m) cap (if isSlice then .slice3Acap else .slice3Alen)).run P w = .ok m.toNat w:=vn zOm zOm
  have i:(Instr.sliceBound (.int t h) m.toNat .slice3B).run P w = .ok h.toNat w:=vn zOm zOm;simp only[Instr.sliceBounds,qz,qW,qA,i,I];simp
 .grind [Instr.sliceBound,vn,Instr.sliceBounds,qz,qW,qA]
 .have i:(Instr.sliceBound (.int t h) cap (if isSlice then .sliceAcap else .sliceAlen)).run P w = .ok h.toNat w:=vn zOm zOm
  have J:(Instr.sliceBound (.int R l) h.toNat (if (none:Option j3).isSome then .slice3C else .sliceB)).run P w = .ok l.toNat w:=vn zOm zOm;simp only[Instr.sliceBounds,qz,qW,qA,J,i];simp
 .have I:(Instr.sliceBound (.int C m) cap (if isSlice then .slice3Acap else .slice3Alen)).run P w = .ok m.toNat w:=vn zOm zOm
  have i:(Instr.sliceBound (.int t h) m.toNat .slice3B).run P w = .ok h.toNat w:=vn zOm zOm;have J:(Instr.sliceBound (.int R l) h.toNat (if (some (Value.int C m)).isSome then .slice3C else .sliceB)).run P w = .ok l.toNat w:=vn zOm zOm;simp only[Instr.sliceBounds,qz,qW,qA,J,i,I]
theorem U2{sz:Nat}:(∀ r,r∈xs->r.length=sz)->∀ l:Nat,(xs.drop l).flatten=xs.flatten.drop (l*sz):=by
 induction xs with
 |nil=>intro _ l;simp
 |cons y o g =>
  intro i l;cases l with
  |zero=>simp
  |succ l =>
   simp only[List.drop_succ_cons,uc];rw[g (fun r j=>i r (zP1 j)),Nat.succ_mul,Nat.add_comm,<-List.drop_drop]
   grind
theorem sU{full:Bool}{sz:Nat}{a:Option Addr}{cap l i m:Nat}
  (r:VRel G h (.lst full xs) (.slice a xs.length cap)) (J:∀ x,x∈xs->x.length=sz) (h1:l<=i) (P:i<=xs.length) (h3:i<=m) (hm:m<=cap) (j:Bool) (hf:j=true->m=i) :
  VRel G h (.lst j ((xs.take i).drop l)) (.slice (if m=l then a else a.map (·.add (l*sz))) (i-l) (m-l)):=by
 have a2:((xs.take i).drop l).length=i-l:=zSo;by_cases he:i=l
 .subst he
  have o:(xs.take i).drop i=[]:=jt zOm;rw[o,Nat.sub_self];cases a with
  |none =>
   have:xs=[]/\cap=0:=by cases r;exact⟨rfl,rfl⟩
   have R:m=0:=zOm;subst R;simp;exact .nil j
  |some a =>
   have:(if m=i then some a else (some a).map (·.add (i*sz)))=some (if m=i then a else a.add (i*sz)):=by split<;>rfl
   rw[this];exact .emp j _ _ (fun h=>zW1 (hf h))
 .have T:m≠l:=by omega
  rw[if_neg T];generalize a3:xs.length=n at r;cases r with
  |nil=>simp at P;omega
  |emp=>simp at P;omega
  |lst _ _ g a cap cs e fr rd hb hs hl hc U hz C hv =>
   have a0:xs≠[]:=by intro e;subst e;simp at P;omega
   obtain⟨y,hy⟩:∃ y,y∈xs:=List.exists_mem_of_ne_nil xs a0;have p:g=sz:=by rw[<-hz y hy,J y hy]
   subst p;have t:(a.add (l*g)).block=a.block:=by unfold Addr.add;split<;>rfl
   have a1:(a.add (l*g)).spot=none:=by unfold Addr.add;split<;>simp[hs]
   have a4:(a.add (l*g)).off=a.off+l*g:=by unfold Addr.add;split<;>simp_all
   have key:∀(k:Nat) x,((xs.take i).drop l).flatten[k]?=some x->xs.flatten[l*g+k]?=some x:=by
    intro k x I;rw[U2 (fun r C=>hz r (jg C)),js]at I
    grind [List.flatten_append,uN,qT,qn]
   have:=VRel.lst (G:=G) (h:=h) j ((xs.take i).drop l) g (a.add (l*g)) (m-l) cs e fr (fun k=>rd (l*g+k)) (by rw[t];exact hb) a1 zOm (fun h=>zW1 (hf h)) (by rw[t];exact U)
    (fun r C=>hz r (jg (List.mem_of_mem_drop C))) (fun k x I=>by grind) (fun k x I=>hv _ x (key k x I))
   grind
theorem VRel.lst_inv{full:Bool}{v:j3}(r:VRel G h (.lst full xs) v) :
  ∃ a cap,v = .slice a xs.length cap/\xs.length<=cap/\(full=true->cap=xs.length)/\(∃ sz,∀ x,x∈xs->x.length=sz):=by
 cases r with
 |nil=>exact⟨none,0,rfl,qr _,fun _=>rfl,0,zSp⟩
 |emp _ a cap g=>exact⟨some a,cap,rfl,Nat.zero_le _,g,0,zSp⟩
 |lst _ _ sz a cap l e o rd p t i g C j I J=>exact⟨some a,cap,rfl,i,g,sz,j⟩
def ya(sz:Nat)(xs:List (List AV)):Prop:=∀ r,r∈xs->r.length=sz
theorem pI{x:AV}{lo hi mx:Option AV}{v:j3}(r:VRel G w.heap x v)
  (a6:∀ y,lo=some y->∃ u,vlo=some u/\VRel G w.heap y u) (a0:lo=none->vlo=none) (a7:∀ y,hi=some y->∃ u,vhi=some u/\VRel G w.heap y u) (a1:hi=none->vhi=none)
  (a8:∀ y,mx=some y->∃ u,vmx=some u/\VRel G w.heap y u) (a2:mx=none->vmx=none)
  (a9:∀ full xs,x = .lst full xs->∃ e sz bt,qy P t=some (e,sz,bt)/\ya sz xs)
  (e:wU P t x lo hi mx=some z):∃ y,(Instr.sliceAt t v vlo vhi vmx).run P w = .ok y w/\VRel G w.heap z y:=by
 unfold wU at e;split at e
 .rename_i g o ar aa ad ae
  have J:=Jn (G:=G) (h:=w.heap) aa a6 a0;have R:=Jn (G:=G) (h:=w.heap) ad a7 a1;have T:=Jn (G:=G) (h:=w.heap) ae a8 a2;clear aa ad ae a6 a0 a7 a1 a8 a2;split at e
  .rename_i full xs el U
   obtain⟨a,cap,rfl,af,ak,_⟩:=r.lst_inv;obtain⟨e',sz,bt,hs,ag⟩:=a9 full xs rfl;obtain⟨au,ah,ai,al,av⟩:=ji hs;have an:e'=el:=by rw[U]at ah;simpa using ah.symm
   subst an;have C:szOf P e'=some sz:=by simp[szOf,ai,al]
   simp only at e;split at e
   .split at e
    .rename_i hc
     obtain⟨c1,c2,c3⟩:=hc;simp only[qj]at e;subst e;have i:=uR (P:=P) (w:=w) (isSlice:=true) (len:=xs.length) (cap:=cap) J R T zSp c1 c2 zSo zSp af;refine⟨_,by simp only[Instr.sliceAt,Instr.slice,qz,run_underlying U,qA,i,z9 C,qW];rfl,?_⟩;have hl:(g.getD 0).toNat<=(o.getD xs.length).toNat:=zOm;simp only[Option.getD_none,Int.toNat_natCast];exact sU r ag hl zOm zOm (qr _) _ (fun hf=>by
      simp only[qi,decide_eq_true_eq]at hf;have:=ak hf.1;omega)
    .exact absurd e zSp
   .rename_i m
    split at e
    .rename_i hc
     obtain⟨c1,c2,c3,c4,c5⟩:=hc;simp only[qj]at e;subst e;have i:=uR (P:=P) (w:=w) (isSlice:=true) (len:=xs.length) (cap:=cap) J R T (fun _=>c5) c1 c2 (by simpa using c3) zSo af;refine⟨_,by simp only[Instr.sliceAt,Instr.slice,qz,run_underlying U,qA,i,z9 C,qW];rfl,?_⟩;have hl:(g.getD 0).toNat<=(o.getD xs.length).toNat:=zOm;simp only[Option.getD_some];exact sU r ag hl zOm zOm zOm _ (fun hf=>by
      simp only[decide_eq_true_eq]at hf;omega)
    .exact absurd e zSp
  .rename_i b sz off len el U
   simp only at e;split at e
   .split at e
    .rename_i hc
     obtain⟨c1,c2,c3,c4,C⟩:=hc;simp only[qj]at e;subst e;cases r with
     |sl _ _ _ _ p a4 cap hb ht hl =>
     have i:=uR (P:=P) (w:=w) (isSlice:=true) (len:=len) (cap:=cap) J R T zSp c1 c2 zSo zSp hl;refine⟨_,by simp only[Instr.sliceAt,Instr.slice,qz,run_underlying U,qA,i,z9 C,qW];rfl,?_⟩;simp only[Option.getD_none,Int.toNat_natCast];have e1:(if cap=(g.getD 0).toNat then some (⟨p,off,none⟩:Addr) else (some (⟨p,off,none⟩:Addr)).map (·.add ((g.getD 0).toNat*sz)))=some ⟨p,off+(g.getD 0).toNat*sz,none⟩:=by
      split
      .rename_i aj
       have:(g.getD 0).toNat=0:=zOm;simp[this]
      .simp only[qU,Addr.add]
       split<;>simp_all
     rw[e1,show (o.getD (len:Int)).toNat-(g.getD 0).toNat=(o.getD (len:Int)-g.getD 0).toNat by omega];refine .sl b sz _ _ p a4 _ hb ?_ zOm;have aw:(g.getD 0).toNat<=cap:=zOm;refine zu (Nat.le_of_eq ?_) ht;rw[Nat.add_assoc,<-Nat.add_mul];congr 2;omega
    .exact absurd e zSp
   .exact absurd e zSp
  .rename_i cs n el U
   simp only at e;split at e
   .split at e
    .rename_i hc
     obtain⟨c1,c2,c3,c4,C,ax⟩:=hc;simp only[qj]at e;subst e;cases r with
     |ip _ a arr e' fr rd hb hs hi hr hv =>
     obtain⟨ab,ao,ay⟩:=a;simp only at hb hs hi hr;subst hs;have i:=uR (P:=P) (w:=w) (isSlice:=false) (len:=n) (cap:=n) J R T zSp c1 c2 zSo zSp (qr n);refine⟨_,by simp only[Instr.sliceAt,Instr.sureAddr,qz,run_underlying U,qA,i,z9 C,qW];rfl,?_⟩;simp only[Option.getD_none,Int.toNat_natCast,Nat.mul_one];have e1:(some (if n=(g.getD 0).toNat then (⟨ab,ao,none⟩:Addr) else (⟨ab,ao,none⟩:Addr).add (g.getD 0).toNat))=some ⟨ab,ao+(g.getD 0).toNat,none⟩:=by
      split
      .rename_i aj
       have:(g.getD 0).toNat=0:=zOm;simp[this]
      .simp only[Addr.add]
       split<;>simp_all
     rw[e1];have I:(((cs.take (o.getD (n:Int)).toNat).drop (g.getD 0).toNat).map fun c=>[c]).length=(o.getD (n:Int)).toNat-(g.getD 0).toNat:=by
      simp only[yP,List.length_drop,vM];omega
     have a5:∀ l:List AV,(l.map fun c=>[c]).flatten=l:=by
      intro l;induction l with
      |nil=>rfl
      |cons x l ih=>simp[ih]
     by_cases h0:(o.getD (n:Int)).toNat-(g.getD 0).toNat=0
     .rw [h0]
      have:(((cs.take (o.getD (n:Int)).toNat).drop (g.getD 0).toNat).map fun c=>[c])=[]:=jt (by rw[I,h0]);rw[this];exact .emp _ _ _ (fun h=>by rw[decide_eq_true_eq]at h;omega)
     .rw [<-I]
      have a3:∀(k:Nat) x,(((cs.take (o.getD (n:Int)).toNat).drop (g.getD 0).toNat).map fun c=>[c]).flatten[k]?=some x->cs[(g.getD 0).toNat+k]?=some x:=by
       intro k x hx;rw[a5,js,z8]at hx;split at hx
       .exact hx
       .exact absurd hx zSp
      refine .lst _ _ 1 ⟨ab,ao+(g.getD 0).toNat,none⟩ _ arr e' fr (fun k=>rd ((g.getD 0).toNat+k)) hb rfl (by rw[I];omega) (fun h=>by rw[decide_eq_true_eq]at h;rw[I];omega) hi ?_ ?_ ?_
      .intro r aq
       obtain⟨c,_,rfl⟩:=qs.1 aq;rfl
      .intro k x hx
       have:=hr _ x (a3 k x hx);simpa[Nat.add_assoc] using this
      .intro k x hx
       exact hv _ x (a3 k x hx)
    .exact absurd e zSp
   .exact absurd e zSp
  .rename_i b off n el U
   split at e
   .split at e
    .rename_i hc
     obtain⟨rfl,c1,c2,c3,c4⟩:=hc;obtain⟨sz,C⟩:=Option.isSome_iff_exists.1 c4;simp only[qj]at e;subst e;cases r with
     |ptr _ _ p a4 hb =>
     have i:=uR (P:=P) (w:=w) (isSlice:=false) (len:=n) (cap:=n) J R T zSp zOm zOm zSo zSp (qr n);refine⟨_,by simp only[Instr.sliceAt,Instr.sureAddr,qz,run_underlying U,qA,i,z9 C,qW];rfl,?_⟩;simp only[Option.getD_none,Int.toNat_natCast,c1,Int.toNat_zero,Nat.zero_mul,Nat.sub_zero];have e1:(some (if n=0 then (⟨p,0,none⟩:Addr) else (⟨p,0,none⟩:Addr).add 0))=some ⟨p,0,none⟩:=by
      split
      .rfl
      .simp only[Addr.add]
       split<;>simp_all
     rw[e1];exact .sl b 0 0 _ p a4 n hb zSp zOm
    .exact absurd e zSp
   .exact absurd e zSp
  .rename_i s U
   cases r;simp only at e;split at e
   .split at e
    .rename_i hc
     obtain⟨c1,c2,c3⟩:=hc;simp only[qj]at e;subst e;rcases T with ⟨_,rfl⟩|⟨_,_,h,_⟩
     .have i:=uR (P:=P) (w:=w) (isSlice:=false) (len:=s.size) (cap:=s.size) J R (mx:=none) (vmx:=none) (.inl ⟨rfl,rfl⟩) zSp c1 c2 (by simp<;>omega) zSp (qr _)
      exact⟨_,by simp only[Instr.sliceAt,Instr.slice,qz,run_underlying U,qA,i,qW,Option.isSome_none,Bool.false_eq_true,if_false],.sc _ rfl⟩
     .exact absurd h zSp
    .exact absurd e zSp
   .exact absurd e zSp
  .exact absurd e zSp
 .exact absurd e zSp
end
end Go.Ev
namespace Go.Ev
open Go Go.RowKit
theorem pJ(off:Nat):∀(l:List j3) (s:Nat) (cs:Array j3),((l.zipIdx s).foldl (fun (cs:Array j3) (x:j3×Nat)=>cs.setIfInBounds (off+x.2) x.1) cs).size=cs.size:=by
 intro l;induction l with
 |nil=>intro s cs;rfl
 |cons y g i=>simp_all
theorem pK(off:Nat):∀(l:List j3) (s:Nat) (cs:Array j3) (k:Nat),off+s+l.length<=cs.size ->
  ((l.zipIdx s).foldl (fun (cs:Array j3) (x:j3×Nat)=>cs.setIfInBounds (off+x.2) x.1) cs).getD k vd =
   if off+s<=k/\k<off+s+l.length then l.getD (k-(off+s)) vd else cs.getD k vd:=by
 intro l;induction l with
 |nil=>simp_all[if_neg,List.length_nil]
 |cons y i j =>
  intro s cs k h;simp only[zZ]at h;simp only[List.zipIdx_cons,List.foldl_cons];rw[j (s+1) _ k zSo];by_cases g:off+(s+1)<=k/\k<off+(s+1)+i.length
  .rw [if_pos g,if_pos (by grind)]
   rw[show k-(off+s)=(k-(off+(s+1)))+1 by omega];simp
  .rw [if_neg g]
   by_cases o:k=off+s
   .subst o
    rw[if_pos zSp];simp[qB,show off+s<cs.size by omega]
   .rw [if_neg (by grind)]
    simp only[qB]
    grind
@[go_sem] def vO(place:Nat->Option (Nat×Nat))(cells:List AV):List (Nat×AV)->Option (List AV)
 | []=>some cells
 | (i,v) :: g =>
  match place i with
  |none=>none
  |some (off,size)=>if v.cells.length=size/\off+size<=cells.length/\v.cells.all AV.one=true then vO place (qH cells off v.cells) g else none
theorem U3(cells:List AV)(off:Nat)(xs:List AV)(h:off+xs.length<=cells.length):(qH cells off xs).length=cells.length:=by
 grind [y0]
theorem pL(cells:List AV)(off:Nat)(xs:List AV)(h:off+xs.length<=cells.length)(k:Nat) :
  (qH cells off xs)[k]?=if off<=k/\k<off+xs.length then xs[k-off]? else cells[k]?:=by
 rw[y0 _ _ _ h,zJ];by_cases g:k<off
 .rw [zIn,qT zSo,z8,if_pos g]
 .have i:(cells.take off).length=off:=by simp;omega
  rw[zo zOm,i];by_cases j:k<off+xs.length
  .rw [if_pos zOm,zGa]
  .rw [zIn,zo zOm,js]
   congr 1;omega
def wV(G:Gh)(h:Array Obj):List (Nat×AV)->List (Nat×j3)->Prop
 | [],[]=>True
 | (i,x) :: J,(j,v) :: o=>i=j/\VRel G h x v/\wV G h J o
 |_,_=>False
theorem U4{G:Gh}{h:Array Obj}{place:Nat->Option (Nat×Nat)}:∀(ps:List (Nat×AV)) (vs:List (Nat×j3)) (cells:List AV) (arr:Array j3) (z:List AV),wV G h ps vs ->
  arr.size=cells.length->(∀(k:Nat) x,cells[k]?=some x->VRel G h x (arr.getD k vd))->vO place cells ps=some z ->
  ∃ r,Instr.fill place arr vs=some r/\r.size=z.length/\z.length=cells.length/\∀(k:Nat) x,z[k]?=some x->VRel G h x (r.getD k vd):=by
 intro ps;induction ps with
 |nil =>
  intro vs cells arr z l t I h;cases vs with
  |nil =>
   simp only[vO,qj]at h;subst h;exact⟨arr,rfl,t,rfl,I⟩
  |cons=>exact l.elim
 |cons p ps J =>
  intro vs cells arr z l t I h;obtain⟨i,x⟩:=p;cases vs with
  |nil=>exact l.elim
  |cons q vs =>
   obtain⟨j,v⟩:=q;obtain⟨rfl,P,l⟩:=l;simp only[vO]at h;split at h
   .grind
   .rename_i off size R
    split at h
    .rename_i g
     obtain⟨c1,c2,c3⟩:=g;obtain⟨T,o,C⟩:=P.cells (fun c U=>by grind);have hl:v.cells.toList.length=size:=zSo;obtain⟨r,h1,h2,h3,h4⟩:=J vs (qH cells off x.cells) (v.cells.zipIdx.foldl (fun cs (x:j3×Nat)=>cs.setIfInBounds (off+x.2) x.1) arr) z l
      (by rw[U3 _ _ _ zOm,<-Array.foldl_toList,Array.toList_zipIdx,pJ,t])
      (by
       intro k y hk;rw[pL _ _ _ zOm]at hk;rw[<-Array.foldl_toList,Array.toList_zipIdx,pK off _ 0 arr k zOm];by_cases a0:off<=k/\k<off+x.cells.length
       .simp_all
       grind) h
     simp_all[U3,Instr.fill,if_neg]
    grind
def y5(P:qf)(t:j1):Option (Nat->Option (Nat×Nat)):=
 match P.underlying t with
 |some (.array _ e)=>(szOf P e).map fun s=>fun i=>some (i*s,s)
 |some (.struct j)=>(j.toList.mapM (fun f=>(P.info? f.type).map fun i=>(f.offset,i.size))).map fun g=>fun i=>g.toArray[i]?
 |_=>none
@[go_sem] def wW(P:qf)(t:j1)(ps:List (Nat×AV)):Option AV:=
 match qv P t,y5 P t with
 |some z,some place=>(vO place z.cells ps).map .agg
 |_,_=>none
theorem wX{G:Gh}{h:Array Obj}(v:j3)(g:∀ c,c∈(ofV v).cells->c.one=true) :
  v.cells.size=(ofV v).cells.length/\∀(k:Nat) x,(ofV v).cells[k]?=some x->VRel G h x (v.cells.getD k vd):=
 let ⟨i,j,_⟩:=(VRel.ofV (G:=G) (h:=h) v).cells g
 ⟨i,j⟩
theorem pM{P:qf}{G:Gh}{w:j2}{t:j1}{ps:List (Nat×AV)}{vs:Array (Nat×j3)}{z:AV}(I:wV G w.heap ps vs.toList)
  (J:∀ y,qv P t=some y->y.cells.all AV.one=true) (e:wW P t ps=some z):∃ u,(Instr.build t vs).run P w = .ok u w/\VRel G w.heap z u:=by
 unfold wW at e;split at e
 .rename_i p place g j
  cases hf:vO place p.cells ps with
  |none=>simp[hf]at e
  |some r =>
   simp only[hf,qU,qj]at e;subst e;have R:=J p g;unfold qv at g;cases l:P.info? t with
   |none=>simp[l]at g
   |some it =>
    simp only[l,Option.bind_some,zW]at g;obtain⟨v,hv,rfl⟩:=g;obtain⟨g1,T⟩:=wX (G:=G) (h:=w.heap) v (fun c hc=>by grind);obtain⟨C,h1,U,h3,h4⟩:=U4 ps vs.toList _ v.cells r I g1 T hf;refine⟨.agg C,?_,.agg _ _ U h4⟩;refine run_build w t vs C ?_;unfold y5 at j;unfold Program.built;split at j
    .rename_i n el hu
     cases a0:P.info? el with
     |none=>grind [szOf]
     |some ie =>
      grind [szOf,qj]
    .rename_i fs hu
     cases hm:fs.toList.mapM (fun f=>(P.info? f.type).map fun i=>(f.offset,i.size)) with
     |none=>simp[hm]at j
     |some o =>
      grind
    grind
 grind
end Go.Ev
namespace Go.Ev
open Go Go.RowKit
section
variable {G:Gh}{xs:List (List AV)}{mu:Mu}{sz:Nat}{P:qf}{w:j2}
def za(sz:Nat)(xs:List (List AV)):Prop:=∀ r,r∈xs->r.length=sz/\r.all AV.one=true
theorem za.ok(h:za sz xs):ya sz xs:=fun r g=>(h r g).1
theorem za.one(h:za sz xs):∀ c,c∈xs.flatten->c.one=true:=by
 intro c i;obtain⟨r,j,g⟩:=Jg.1 i;exact by simpa using qu.1 (h r j).2 c g
theorem Jo(l:List j3)(k:Nat):l.toArray.getD k vd=l.getD k vd:=by
 simp[qB,qS]
theorem U5(s:Sim G mu w.heap){x:AV}{v:j3}(t:j1)(r:VRel G w.heap x v)(o:x.cells.all AV.one=true) :
  ∃ G',(newVar t v).run P w = .ok ⟨w.heap.size,0,none⟩ (w.alloc (.cells v.cells t))/\Stp G mu w G' (mu++[.arr x.cells]) (w.alloc (.cells v.cells t)) /\
   VRel G' (w.alloc (.cells v.cells t)).heap (.ptr mu.length 0) (.pointer (some ⟨w.heap.size,0,none⟩)):=by
 obtain⟨i,g,_⟩:=r.cells (fun c p=>by grind);refine⟨_,rfl,sB s (.cells v.cells t) (.arr x.cells) v.cells.size ?_,.ptr _ 0 w.heap.size v.cells.size ?_⟩
 .intro _
  refine⟨v.cells,t,rfl,rfl,zOm,fun j y l=>⟨by grind,g j y l⟩⟩
 .show (G.blk++[_])[mu.length]?=_
  rw[<-s.len];simp
theorem pN(s:Sim G mu w.heap){x:AV}{v:j3}(t:j1)(r:VRel G w.heap x v)(l:x.cells.all AV.one=true) :
  ∃ G',(newVar t v).run P w = .ok ⟨w.heap.size,0,none⟩ (w.alloc (.cells v.cells t))/\Stp G mu w G' mu (w.alloc (.cells v.cells t)) /\
   VRel G' (w.alloc (.cells v.cells t)).heap (.ip x.cells) (.pointer (some ⟨w.heap.size,0,none⟩)):=by
 obtain⟨i,g,_⟩:=r.cells (fun c o=>by grind);have st:=sD s (.cells v.cells t);refine⟨_,rfl,st,.ip _ _ v.cells t (0,0) (fun k=>v.cells.getD k vd) (Zu w _) rfl (.inr rfl) ?_ ?_⟩
 .simp_all [qn,qB]
 .intro k y j
  exact st.vrel s (g k y j)
theorem U6(z:List AV)(n:Nat){k:Nat}{x:AV}(h:((zd n z).flatten)[k]?=some x):z[k % z.length]?=some x:=by
 induction n generalizing k with
 |zero=>simp at h
 |succ n g =>
  grind [uc,qT,Nat.mod_eq_of_lt,zo,Nat.mod_eq_sub_mod]
theorem U7(z:List AV)(n:Nat):((zd n z).flatten).length=n*z.length:=by simp
@[go_sem] def uS(sz:Nat):List (List AV)->List (Nat×AV)->Option (List (List AV))
 |rows,[]=>some rows
 |rows,(i,v) :: g=>if v.cells.length=sz/\i<rows.length/\v.cells.all AV.one=true then uS sz (rows.set i v.cells) g else none
theorem pO:∀(rows:List (List AV)) (i:Nat) (r:List AV),ya sz rows->r.length=sz->i<rows.length->(rows.set i r).flatten=qH rows.flatten (i*sz) r:=by
 intro rows;induction rows with
 |nil=>grind
 |cons y l C =>
  intro i r j p I;have P:y.length=sz:=j y zSp;have R:(y :: l).flatten.length=(l.length+1)*sz:=z2 (xs:=y :: l) j;cases i with
  |zero =>
   grind [y0,Nat.succ_mul]
  |succ i =>
   simp only[List.set_cons_succ,uc];have o:i<l.length:=zUs I;have g:ya sz l:=fun r p=>j r (zP1 p)
   rw[C i r g p o];have t:i*sz+r.length<=l.flatten.length:=by
    rw[z2 g,p];have:(i+1)*sz<=l.length*sz:=Nat.mul_le_mul_right _ o;rw[Nat.succ_mul]at this;exact this
   rw[y0 _ _ _ t,y0 _ _ _ (by simp only[zc,P,Nat.succ_mul];omega)];simp_all[Nat.succ_mul,Nat.add_comm,List.take_append,List.drop_append,List.take,List.take_of_length_le,List.drop]
theorem pP:∀(ps:List (Nat×AV)) (rows g:List (List AV)),ya sz rows->uS sz rows ps=some g ->
  vO (fun i=>some (i*sz,sz)) rows.flatten ps=some g.flatten/\ya sz g/\g.length=rows.length:=by
 intro ps;induction ps with
 |nil =>
  intro rows g j h;simp only[uS,qj]at h;subst h;exact⟨rfl,j,rfl⟩
 |cons p ps t =>
  intro rows g j h;obtain⟨i,v⟩:=p;simp only[uS]at h;split at h
  .rename_i C
   obtain⟨c1,c2,c3⟩:=C;have l:ya sz (rows.set i v.cells):=by
    intro r I;rcases List.mem_or_eq_of_mem_set I with h|h
    .exact j r h
    grind
   obtain⟨J,P,R⟩:=t _ g l h;refine⟨?_,P,by rw[R];simp⟩;simp only[vO];have o:i*sz+sz<=rows.flatten.length:=by
    rw[z2 j];have:(i+1)*sz<=rows.length*sz:=Nat.mul_le_mul_right _ c2
    grind
   rw[if_pos ⟨c1,o,c3⟩,<-pO rows i v.cells j c1 c2];exact J
  grind
@[go_sem] def wY(P:qf)(t:j1)(len:Nat)(ps:List (Nat×AV)):Option AV:=
 match qy P t with
 |some (e,j,_) =>
  match qv P e with
  |some z=>if len*j<=16777216/\z.cells.length=j/\z.cells.all AV.one=true then (uS j (zd len z.cells) ps).map (.lst true) else none
  |none=>none
 |none=>none
theorem Zz{t:j1}{z:AV}(h:qv P t=some z):∃ i v,P.info? t=some i/\i.zero=some v/\z=ofV v:=by
 unfold qv at h;cases g:P.info? t with
 |none=>simp[g]at h
 |some it =>
  simp only[g,Option.bind_some,zW]at h;obtain⟨v,j,rfl⟩:=h
  grind
theorem sV{h:Array Obj}{b cap:Nat}{cs:Array j3}{e:j1}{g:Nat×Nat}(full:Bool)(i:h[b]?=some (.cells cs e g))(j:xs.length<=cap)(l:full=true->cap=xs.length)
  (o:G.imm b) (p:ya sz xs) (t:xs.flatten.length<=cs.size) (r:∀(k:Nat) x,xs.flatten[k]?=some x->VRel G h x (cs.getD k vd)):VRel G h (.lst full xs) (.slice (some ⟨b,0,none⟩) xs.length cap):=by
 refine .lst full xs sz ⟨b,0,none⟩ cap cs e g (fun k=>cs.getD k vd) i rfl j l o p ?_ r;intro k x C;have:k<cs.size:=by grind
 simp[qB,this]
theorem U8{z:Array j3}{n k:Nat}(g:k<n)(i:0<z.size):(((Array.range n).map (z[· % z.size]!)).getD k vd)=z.getD (k % z.size) vd:=by
 simp_all[Nat.mod_lt,qB,getElem!_pos]
theorem pQ(s:Sim G mu w.heap){t:j1}{len:Nat}{ps:List (Nat×AV)}{vs:Array (Nat×j3)}{x:AV}(hp:wV G w.heap ps vs.toList)
  (e:wY P t len ps=some x):Good P G mu w (Instr.buildSlice t len vs) x mu:=by
 unfold wY at e;split at e
 .rename_i el j bt hs
  split at e
  .rename_i z hz
   split at e
   .rename_i hc
    obtain⟨c1,c2,c3⟩:=hc;cases p:uS j (zd len z.cells) ps with
    |none=>simp[p]at e
    |some rows =>
     simp only[p,qU,qj]at e;subst e;obtain⟨a4,hu,a3,a5,a6⟩:=ji hs;have R:szOf P el=some j:=by grind [szOf]
     obtain⟨it,l,T,U,rfl⟩:=Zz hz;have C:ya j (zd len (ofV l).cells):=by
      intro r p;rw[List.eq_of_mem_replicate p];exact c2
     obtain⟨f1,f2,f3⟩:=pP ps _ rows C p;have g:=wX (G:=G) (h:=w.heap) l (fun c hc=>by grind);have o:((zd len (ofV l).cells).flatten).length=len*j:=by rw[U7,c2]
     obtain⟨arr,k1,k2,k3,k4⟩:=U4 (G:=G) (h:=w.heap) ps vs.toList _ ((Array.range (len*j)).map ((if len*j=0 then #[] else l.cells)[· % (if len*j=0 then #[] else l.cells).size]!)) _ hp (by simp[o])
      (by
       intro k y hk;have a0:k<len*j:=by grind
       have a1:¬len*j=0:=zOm;have:=U6 _ _ hk;rw[c2]at this;simp only[if_neg a1];have I:l.cells.size=j:=by rw[g.1,c2]
       rw[U8 a0 (by grind),I]
       grind) f1
     have st:=sD s (.cells arr el);have i:rows.length=len:=by rw[f3];simp
     refine⟨.slice (some ⟨w.heap.size,0,none⟩) len len,_,_,?_,st,?_⟩
     .have a7:(zeroValue el).run P w = .ok l w:=by simp[zeroValue,typeInfo,T,U]
      have a2:¬(len*j > 2 ^ 24):=zOm;simp only[Instr.buildSlice,qz,run_underlying hu,qA,z9 R,if_neg a2];by_cases h0:len*j=0
      .simp_all [if_pos,qz,qA,qW,newRow,run_newObj]
      simp_all[if_neg,qz,qA,qW,newRow,run_newObj]
     .have:=sV (G:=⟨fun b=>G.imm b\/b=w.heap.size,G.blk⟩) (h:=(w.alloc (.cells arr el)).heap) (xs:=rows) (sz:=j) (b:=w.heap.size) (cap:=len) true (Zu w _) zOm (fun _=>i.symm) (.inr rfl) f2 zOm
       (fun k y hk=>st.vrel s (k4 k y hk))
      rw[i]at this;exact this
   grind
  grind
 grind
end
end Go.Ev
namespace Go.Ev
open Go Go.RowKit
theorem Stp.move{G:Gh}{mu:Mu}{w:j2}(s:Sim G mu w.heap)(i:Nat)(c:Cell)(p o:Nat)(hc:mu[i]?=some c)(hd:c ≠ .dead)(hk:G.blk[i]?=some (p,o)) :
  Stp G mu w ⟨G.imm,G.blk++[(p,o)]⟩ (mu.set i .dead++[c]) w:=by
 have P:G.le ⟨G.imm,G.blk++[(p,o)]⟩:=⟨fun b h=>h,fun j x h=>by
  grind⟩
 have a3:=s.len;have a0:(mu.set i Cell.dead).length=mu.length:=zSp
 have r:∀(j:Nat) (l:Cell) b t,(mu.set i Cell.dead++[c])[j]?=some l->l ≠ .dead->(G.blk++[(p,o)])[j]?=some (b,t) ->
   (j<mu.length/\j≠i/\mu[j]?=some l/\G.blk[j]?=some (b,t))\/(j=mu.length/\l=c/\b=p/\t=o):=by
  intro j l b t J g R;rcases zr J with ⟨I,C⟩|⟨I,C⟩
  .grind
  .rcases zr R with ⟨h',_⟩|⟨_,h'⟩
   .omega
   .obtain ⟨rfl,rfl⟩:=Prod.mk.inj h'
    exact .inr ⟨zOm,C,rfl,rfl⟩
 refine⟨P,⟨by simp[s.len],s.imm,?_,?_,?_,s.tab⟩,fun _ _ _=>rfl,qr _,?_,fun b h => .inl h,rfl,rfl,rfl,qr _⟩
 .intro j l b t J g R
  rcases r j _ b t J g R with ⟨_,_,I,C⟩|⟨_,rfl,rfl,rfl⟩
  .obtain ⟨o',g1,g2⟩:=s.obj j l b t I g C
   exact⟨o',g1,g2.le P⟩
  .obtain ⟨o',g1,g2⟩:=s.obj i l b t hc hd hk
   exact⟨o',g1,g2.le P⟩
 .intro j l b t J g R
  rcases r j _ b t J g R with ⟨_,_,I,C⟩|⟨_,rfl,rfl,rfl⟩
  .exact s.live j l b t I g C
  .exact s.live i l b t hc hd hk
 .intro j k l ck b t t' J a1 g T U a2
  rcases r j _ b t J g U with ⟨l1,n1,I,C⟩|⟨l1,e1,e2,e3⟩<;>rcases r k _ b t' a1 T a2 with ⟨l2,n2,h3,h4⟩|⟨l2,e4,e5,e6⟩
  .exact s.inj j k l ck b t t' I h3 g T C h4
  .subst e5
   exact absurd (s.inj j i l c b t o I hc g hd C hk) n1
  .subst e2
   exact absurd (s.inj k i ck c b t' o h3 hc T hd h4 hk) n2
  .omega
 .intro b R
  obtain⟨j,l,t,J,g,U⟩:=R;rcases r j _ b t J g U with ⟨_,_,I,C⟩|⟨_,rfl,rfl,rfl⟩
  .exact .inl ⟨j,l,t,I,g,C⟩
  .exact .inl ⟨i,l,t,hc,hd,hk⟩
@[go_sem] def wZ(n:Nat)(z:List AV):List AV:=
 match z with
 | [x]=>zd n x
 |z=>(zd n z).flatten
theorem U9(n:Nat)(z:List AV):wZ n z=(zd n z).flatten:=by
 unfold wZ;split
 .simp
 .rfl
@[go_sem] def uT(P:qf)(mu:Mu)(t:j1)(len cap:AV):Option (AV×Mu):=
 match len,cap,qy P t with
 | .sc (.int .i64 l),.sc (.int .i64 c),some (e,j,g) =>
  match qv P e with
  |some z=>if 0<=l/\l<=c/\c<=4294967296/\g<=16384/\z.cells.length=j/\z.cells.all AV.one=true/\j≠0 then
    some (.sl mu.length j 0 l.toNat,mu++[.arr (wZ l.toNat z.cells)]) else none
  |none=>none
 |_,_,_=>none
theorem yi{n:Int}(g : -9223372036854775808<=n)(i:n<=9223372036854775807):qx.wrap n=n:=IntWalk.i64_in n ⟨g,i⟩
theorem zWr{x:Int}(g:-9223372036854775808<=x:=by omega)(i:x<=9223372036854775807:=by omega):qx.wrap x=x:=yi g i
theorem zWk(k:Nat)(g:-9223372036854775808<=(k:Int)+1:=by omega)(i:(k:Int)+1<=9223372036854775807:=by omega):qx.wrap ((k:Int)+1)=(k:Int)+1:=yi g i
theorem pR{P:qf}{G:Gh}{mu p:Mu}{w:j2}(s:Sim G mu w.heap){t:j1}{len cap x:AV}{vl vc:j3}(rl:VRel G w.heap len vl)(rc:VRel G w.heap cap vc)
  (e:uT P mu t len cap=some (x,p)):Good P G mu w (Instr.makeSlice t vl vc) x p:=by
 unfold uT at e;split at e
 .rename_i l c el i bt hs
  cases rl;cases rc;split at e
  .rename_i z hz
   split at e
   .rename_i hc
    obtain⟨c1,c2,c3,c4,c5,c6,c7⟩:=hc;simp only[qj,jO]at e;obtain⟨rfl,rfl⟩:=e;obtain⟨o,hu,I,a8,U⟩:=ji hs;have a0:szOf P el=some i:=by grind [szOf]
    obtain⟨it,r,a1,a2,rfl⟩:=Zz hz;have g:=wX (G:=G) (h:=w.heap) r (fun c hc=>by grind);have a3:(zeroValue el).run P w = .ok r w:=by simp[zeroValue,typeInfo,a1,a2]
    have a4:qx.wrap l=l:=zWr;have a5:qx.wrap c=c:=zWr;have a9:((o.bytes:Nat):Int)*c<=2 ^ 48:=by
     rw[U];have h1:(bt:Int)*c<=16384*4294967296:=Int.mul_le_mul zOm zOm zOm zOm;omega
    have J:r.cells.size=i:=by rw[g.1,c5]
    let arr:Array j3:=(Array.range (c.toNat*i)).map ((if c.toNat*i=0 then #[] else r.cells)[· % (if c.toNat*i=0 then #[] else r.cells).size]!)
    have R:arr.size=c.toNat*i:=by simp[arr]
    have aa:l.toNat*i<=c.toNat*i:=Nat.mul_le_mul_right _ zOm;have ab:(wZ l.toNat (ofV r).cells).length=l.toNat*i:=by rw[U9,U7,c5]
    have st:=sB s (.cells arr el) (.arr (wZ l.toNat (ofV r).cells)) (c.toNat*i) (by
     intro _;refine⟨arr,el,rfl,R,zOm,fun j y hj=>?_⟩;have ad:j<l.toNat*i:=by grind
     have a6:¬c.toNat*i=0:=zOm;rw[U9]at hj;have hy:=U6 _ _ hj;refine⟨by grind,?_⟩;have:=g.2 _ y hy;simp only[arr,if_neg a6];rw[U8 zOm zOm,J,<-c5];exact this)
    refine⟨.slice (some ⟨w.heap.size,0,none⟩) l.toNat c.toNat,_,_,?_,st,?_⟩
    .have a7:(typeInfo el).run P w = .ok o w:=by simp[typeInfo,I]
     have n1:¬(((o.bytes:Nat):Int)*c > 2 ^ 48):=zOm;have C:((decide (c<0)||decide (((o.bytes:Nat):Int)*c > 2 ^ 48))||decide (l<0)||decide (l > c))=false:=by
      grind
     simp only[Instr.makeSlice,qz,run_underlying hu,qA,asInt,asIntOf,qW,a7,a4,a5,C,Bool.false_eq_true,if_false,run_askRoom,z9 a0];by_cases T:c.toNat*i=0
     .simp only[if_pos T,qz,qW,qA,newRow,run_newObj]
      simp only[arr,if_pos T];rfl
     .simp only[if_neg T,qz,a3,qW,qA,newRow,run_newObj]
      simp only[arr,if_neg T];rfl
    .refine .sl _ i 0 _ w.heap.size (c.toNat*i) c.toNat ?_ zOm zOm
     show (G.blk++[_])[mu.length]?=_;rw[<-s.len];simp
   grind
  grind
 grind
end Go.Ev
namespace Go.Ev
open Go Go.RowKit
section
variable {P:qf}{w:j2}
def qE(mu:Mu):AV->Option (List (List AV))
 | .lst _ J=>some J
 | .sl b j off len=>match mu[b]? with
  |some (.arr cells)=>if off+len*j<=cells.length then some ((qm len).map fun i=>(cells.drop (off+i*j)).take j) else none
  |_=>none
 |_=>none
theorem Jp(sz:Nat):∀(len:Nat) (cells:List AV),len*sz<=cells.length->((qm len).map fun i=>(cells.drop (i*sz)).take sz).flatten=cells.take (len*sz):=by
 intro len;induction len with
 |zero=>intro cells _;simp
 |succ n g =>
  intro cells h;rw[List.range_succ,yv,List.flatten_append,g cells (by rw[Nat.succ_mul]at h;omega)];simp only[List.map_cons,List.map_nil,uc,List.flatten_nil,List.append_nil,Nat.succ_mul];rw[List.take_add]
theorem ZA{G:Gh}{mu:Mu}(s:Sim G mu w.heap){x:AV}{v:j3}{ys:List (List AV)}{sz:Nat}(r:VRel G w.heap x v)(h:qE mu x=some ys)(R:za sz ys) :
  ∃(a:Option Addr) (cap:Nat) (news:List j3),v = .slice a ys.length cap/\news.length=ys.length*sz/\(∀ u∈news,u.oneCell'=true) /\
   (∀(k:Nat) y,ys.flatten[k]?=some y->VRel G w.heap y (news.getD k vd))/\(Builtin.firstCells sz ys.length v).run P w = .ok news.toArray w/\(Builtin.firstCells sz ys.length v).run P w.drew = .ok news.toArray w.drew:=by
 have fin:∀(a:Addr) (cap:Nat) (rd:Nat->j3),(∀(k:Nat) y,ys.flatten[k]?=some y->w.cell? (a.add k)=some (rd k)/\VRel G w.heap y (rd k))->v = .slice (some a) ys.length cap ->
   ∃(a:Option Addr) (cap:Nat) (news:List j3),v = .slice a ys.length cap/\news.length=ys.length*sz/\(∀ u∈news,u.oneCell'=true) /\
   (∀(k:Nat) y,ys.flatten[k]?=some y->VRel G w.heap y (news.getD k vd))/\(Builtin.firstCells sz ys.length v).run P w = .ok news.toArray w/\(Builtin.firstCells sz ys.length v).run P w.drew = .ok news.toArray w.drew:=by
  intro a cap rd T U;subst U;have l:=z2 R.ok;have p:∀ k,k<ys.length*sz->∃ y,ys.flatten[k]?=some y:=fun k hk=>⟨ys.flatten[k]' zOm,by simp[l,hk]⟩
  refine⟨some a,cap,(qm (ys.length*sz)).map rd,rfl,zSp,?_,?_,?_,?_⟩
  .intro u hu
   obtain⟨k,hk,rfl⟩:=qs.1 hu;obtain⟨y,i⟩:=p k (zUs hk);exact(T k y i).2.one (R.one y (qY i))
  .grind
  .grind [Builtin.firstCells,run_loadCells]
  .simp only[Builtin.firstCells]
   exact run_loadCells w.drew a _ rd (fun j hj=>by simp_all)
 unfold qE at h;split at h
 .rename_i full J
  simp only[qj]at h;subst h;cases r with
  |nil=>exact⟨none,0,[],rfl,zSp,zSp,zSp,by simp[Builtin.firstCells],by simp[Builtin.firstCells]⟩
  |emp _ a cap hc=>simp_all
  |lst _ _ g a cap cs e fr rd hb hs hl hc hi a2 hr U =>
   exact fin a cap rd (fun k y i=>⟨by rw[uf hb hs];exact hr k y i,U k y i⟩) rfl
 .rename_i b g off len
  split at h
  .rename_i cells hc
   split at h
   .rename_i a3
    simp only[qj]at h;cases r with
    |sl _ _ _ _ o a0 cap hb ht hl =>
    obtain⟨arr,e,h1,h2,h3,h4⟩:=s.arr b cells o a0 hc hb;have t:ys.length=len:=by rw[<-h];simp
    subst t;by_cases h0:ys.length=0
    .simp_all
    .have C:g=sz:=by
      have I:0<ys.length:=zOm;have hm:(cells.drop (off+0*g)).take g∈ys:=by
       rw[<-h];exact qs.2 ⟨0,zUs I,rfl⟩
      have:=(R _ hm).1;have a1:g<=ys.length*g:=Nat.le_mul_of_pos_left _ I;simp at this;omega
     subst C;have l:ys.flatten=(cells.drop off).take (ys.length*g):=by
      rw[<-h];have:=Jp g ys.length (cells.drop off) zSo;simp only[List.drop_drop]at this;simpa using this
     refine fin ⟨o,off,none⟩ cap (fun k=>arr.getD (off+k) vd) (fun k y i=>?_) rfl;rw[l,z8]at i;split at i
     .rw [js]at i
      refine⟨?_,(h4 _ y i).2⟩;rw[uf (a:=⟨o,off,none⟩) h1 rfl];have a4:off+k<cells.length:=(qn.1 i).1;have:off+k<arr.size:=zOm;simp[qB,this]
     grind
   grind
  grind
 grind
def yj(P:qf)(mu:Mu)(g:Array j1)(s x:AV)(K:AV->Mu->Prop):Prop:=
  ∃ t o e j p l,g=#[t,o]/\qy P t=some (e,j,p)/\(qy P o).isSome=true/\(∃ i,qv P e=some i/\i.cells.length=j/\i.cells.all AV.one=true)/\j≠0/\p<=16384/\qE mu x=some l/\za j l /\
    ((∃ J,s = .lst true J/\za j J/\J.length+l.length<=4294967296/\(l=[]->K s mu)/\(l≠[]->K (.sl mu.length j 0 (J.length+l.length)) (mu++[.arr (J++l).flatten]))) \/
     (∃ b len cells,s = .sl b j 0 len/\mu[b]?=some (.arr cells)/\len*j<=cells.length/\len+l.length<=4294967296 /\
        K (.sl mu.length j 0 (len+l.length)) (mu.set b .dead++[.arr (cells.take (len*j)++l.flatten)])))
theorem Wa{t C ty e:j1}{i:TypeInfo}{d:j1}(I:P.underlying t=some (.slice e))(o:P.underlying C=some (.slice d))(J:P.info? e=some i)
  {base:Option Addr} {g j n cap:Nat} {a:Option Addr} {news:List j3} {w':j2}
  (hf:(Builtin.firstCells i.size n (.slice a n cap)).run P w = .ok news.toArray w) (l:g+n<=j)
  (p:∀ b,base=some b->(storeCells (b.add (g*i.size)) news).run P w = .ok () w') (r:base=none->w'=w) :
  (Builtin.append_ #[t,C] ty #[.slice base g j,.slice a n cap]).run P w = .ok (.slice base (g+n) j) w':=by
 cases base with
 |none =>
  have:=r rfl;subst this;simp[Builtin.append_,run_underlying I,run_underlying o,sizeOf,typeInfo,J,Builtin.lenOf,l,hf]
 |some b =>
  have:=p b rfl;simp[Builtin.append_,run_underlying I,run_underlying o,sizeOf,typeInfo,J,Builtin.lenOf,l,hf,this]
theorem pS{t I ty e:j1}{i:TypeInfo}{z:j3}{d:j1}(R:P.underlying t=some (.slice e))(r:P.underlying I=some (.slice d))(T:P.info? e=some i)(U:i.zero=some z)
  {base a:Option Addr} {g j n cap:Nat} {l news:List j3}
  (C:(Builtin.firstCells i.size g (.slice base g j)).run P w.drew = .ok l.toArray w.drew) (hf:(Builtin.firstCells i.size n (.slice a n cap)).run P w.drew = .ok news.toArray w.drew)
  (hg:j<g+n) (a0:((g+n:Nat):Int)<=9223372036854775807) (J:Builtin.nextslicecap (g+n) j*i.bytes<=281474976710656) :
  (Builtin.append_ #[t,I] ty #[.slice base g j,.slice a n cap]).run P w =
   .ok (.slice (some ⟨w.heap.size,0,none⟩) (g+n) (grownCap w (g+n) j e))
    (w.drew.alloc (.cells (l++(news++(ze z.cells (grownCap w (g+n) j e-(g+n))).toList)).toArray e)):=by
 have hn:¬(g+n<=j):=zOm;have o:¬(9223372036854775807<((g:Int)+(n:Int))):=zOm;have p:¬(281474976710656<Builtin.nextslicecap (g+n) j*i.bytes):=zOm;simp[Builtin.append_,run_underlying R,run_underlying r,sizeOf,typeInfo,zeroValue,T,U,Builtin.lenOf,hn,o,p,Question.forced,hf,C,newRow,grownCap];congr 2;apply Array.ext';simp
theorem uU(w:j2)(g i:Nat)(e:j1):g<=grownCap w g i e:=by
 simp only[grownCap,Question.cut];omega
theorem Wb{g cap bt:Nat}(h:cap<g)(i:g<=4294967296)(j:bt<=16384):Builtin.nextslicecap g cap*bt<=281474976710656:=by
 refine growslice_fits h ?_;have:g*bt<=4294967296*16384:=Nat.mul_le_mul i j;omega
theorem Wc{G:Gh}{mu:Mu}(s:Sim G mu w.heap){I:Array j1}{ty:j1}{sv xv:AV}{vs vx:j3}(rs:VRel G w.heap sv vs)(rx:VRel G w.heap xv vx){K:AV->Mu->Prop}
  (h:yj P mu I sv xv K):∃ z p,K z p/\Good P G mu w (Builtin.append_ I ty #[vs,vx]) z p:=by
 obtain⟨t,t',e,sz,bt,ys,rfl,av,bk,⟨zv,aw,ax,ay⟩,bl,az,b0,a9,h⟩:=h;obtain⟨i,hu,hi,rfl,rfl⟩:=ji av;obtain⟨d,ag⟩:∃ d,P.underlying t'=some (.slice d):=by
  grind [qy,ji]
 obtain⟨i',z,b1,hz,rfl⟩:=Zz aw;obtain rfl:i=i':=Option.some.inj (hi.symm.trans b1);have ak:z.cells.size=i.size:=by rw[(wX (G:=G) (h:=w.heap) z (fun c hc=>by simpa using qu.1 ay c hc)).1,ax]
 obtain⟨a,cap,l,rfl,ah,al,a5,hf,b2⟩:=ZA (P:=P) s rx b0 a9;have b3:=z2 a9.ok
 have grow:∀(base:Option Addr) (g R:Nat) (o:List j3) (oc:List AV) (b4:Mu) (G1:Gh),g*i.size=oc.length->o.length=oc.length->(∀(k:Nat) y,oc[k]?=some y->y.one=true/\VRel G w.heap y (o.getD k vd)) ->
   (Builtin.firstCells i.size g (.slice base g R)).run P w.drew = .ok o.toArray w.drew->R<g+ys.length->g+ys.length<=4294967296 ->
   Good P G mu w (Builtin.append_ #[t,t'] ty #[.slice base g R,.slice a ys.length cap]) (.sl mu.length i.size 0 (g+ys.length)) (mu++[.arr (oc++ys.flatten)]):=by
  intro base g R o oc b4 G1 b5 a2 T aa hg a6;have U:=pS (ty:=ty) hu ag hi hz aa b2 hg zOm (Wb hg a6 az);have b6:=uU w (g+ys.length) R e;generalize grownCap w (g+ys.length) R e=gc at U b6;have b7:(ze z.cells (gc-(g+ys.length))).toList.length=(gc-(g+ys.length))*z.cells.size:=by simp[size_zeroCells]
  have sd:Sim G mu w.drew.heap:=s;have st:=sB sd (.cells (o++(l++(ze z.cells (gc-(g+ys.length))).toList)).toArray e) (.arr (oc++ys.flatten)) ((o++(l++(ze z.cells (gc-(g+ys.length))).toList)).length) (by
   intro _;refine⟨_,e,rfl,zSp,by simp only[zc];omega,fun j y hj=>?_⟩;rw[Jo,qS];by_cases ab:j<oc.length
   .rw [qT ab]at hj
    rw[zGa,<-qS];exact T j y hj
   .rw [zo zOm]at hj
    rw[zo zOm,a2];have:j-oc.length<ys.flatten.length:=(qn.1 hj).1;rw[zGa,<-qS];exact⟨a9.one y (qY hj),a5 _ y hj⟩)
  have an:(o++(l++(ze z.cells (gc-(g+ys.length))).toList)).length=gc*i.size:=by
   simp only[zc,b7,ak,a2,<-b5,ah,<-Nat.add_mul];congr 1;omega
  rw[an]at st;refine⟨_,_,_,U,(Stp.drew s).trans s st,?_⟩;refine .sl _ i.size 0 _ w.heap.size (gc*i.size) gc ?_ zOm zOm;show (G.blk++[_])[mu.length]?=_;rw[<-s.len];simp
 rcases h with ⟨J,rfl,ai,a6,b8,b9⟩|⟨b,len,cells,rfl,hc,ao,a6,hk⟩
 .obtain ⟨a0,ae,o,rfl,a2,_,T,aa,a4⟩:=ZA (P:=P) s rs (ys:=J) rfl ai
  have aq:ae=J.length:=by
   obtain⟨a1,c1,h1,_,h2,_⟩:=rs.lst_inv;cases h1;exact h2 rfl
  subst aq;by_cases hy:ys=[]
  .subst hy
   refine⟨_,_,b8 rfl,_,_,_,?_,Stp.refl s,rs⟩;have hn:l=[]:=jt (zUs ah);subst hn;exact Wa (ty:=ty) hu ag hi hf zSp (fun b hb=>rfl) (fun _=>rfl)
  .have bm:0<ys.length:=List.length_pos_iff.2 hy
   have ar:=z2 ai.ok;have:=grow a0 J.length J.length o J.flatten mu G ar.symm (by rw[a2,ar]) (fun k y hk=>⟨ai.one y (qY hk),T k y hk⟩) a4 zOm a6;rw[<-List.flatten_append]at this;exact⟨_,_,b9 hy,this⟩
 .refine ⟨_,_,hk,?_⟩
  have aj:qE mu (.sl b i.size 0 len)=some ((qm len).map fun j=>(cells.drop (j*i.size)).take i.size):=by
   simp only[qE,hc,Nat.zero_add];rw[if_pos ao]
  have bb:=rs;cases rs with
  |sl _ _ _ _ C ad a7 hb ht hl =>
  obtain⟨arr,e',h1,h2,h3,h4⟩:=s.arr b cells C ad hc hb;have au:za i.size ((qm len).map fun j=>(cells.drop (j*i.size)).take i.size):=by
   intro r hr;obtain⟨j,hj,rfl⟩:=qs.1 hr;have bc:j<len:=zUs hj;have:(j+1)*i.size<=len*i.size:=Nat.mul_le_mul_right _ bc;rw[Nat.succ_mul]at this;refine⟨zSo,?_⟩;rw[qu];intro c be;obtain⟨k,hk⟩:=List.mem_iff_getElem?.1 (List.mem_of_mem_drop (jg be));exact(h4 k c hk).1
  have bg:=Jp i.size len cells ao;obtain⟨a0,ae,o,hv,a2,_,T,aa,a4⟩:=ZA (P:=P) s bb aj au;rw[bg]at T;simp only[yP,List.length_range]at hv a2 aa a4;by_cases a3:len+ys.length<=a7
  ·
   have bn:len*i.size+l.length<=arr.size:=by
    have h5:=Nat.mul_le_mul_right i.size a3;rw[Nat.add_mul]at h5;rw[ah,h2];omega
   have U:=run_storeCells_at P C (len*i.size) e' l 0 arr w h1 zOm al;simp only[Nat.add_zero]at U;have bh:=Wa (ty:=ty) (w':=w.setRow C (arr.toList.take (len*i.size)++l++arr.toList.drop (len*i.size+l.length)).toArray) hu ag hi hf a3 (base:=some ⟨C,0,none⟩)
    (fun b' bi=>by
     cases bi;have:(⟨C,0,none⟩:Addr).add (len*i.size)=⟨C,len*i.size,none⟩:=by unfold Addr.add;split<;>simp_all
     rw[this];exact U) zSp
   have st1:=sR (w':=w.setRow C (arr.toList.take (len*i.size)++l++arr.toList.drop (len*i.size+l.length)).toArray) s b (.arr cells) (.arr (cells.take (len*i.size)++ys.flatten)) C ad
    (.cells (arr.toList.take (len*i.size)++l++arr.toList.drop (len*i.size+l.length)).toArray e' (0,0)) hc zSp zSp hb zSp (setRow_heap w C arr _ e' _ h1) (fun k hk=>setRow_other w C k _ hk) rfl rfl rfl
    (by
     have af:(cells.take (len*i.size)).length=len*i.size:=zSo;have bj:(arr.toList.take (len*i.size)).length=len*i.size:=zSo;refine⟨_,e',rfl,zSo,by simp only[zc,af,b3];omega,fun j y hj=>?_⟩;rw[Jo,qS,zJ];by_cases ab:j<len*i.size
     .rw [zGa,z8,if_pos ab]at hj
      rw[zGa,z8,if_pos ab,vK,<-qB];exact h4 j y hj
     .rw [zo zOm,af]at hj
      rw[zo zOm,bj];have:j-len*i.size<ys.flatten.length:=(qn.1 hj).1;rw[zGa,<-qS];exact⟨a9.one y (qY hj),a5 _ y hj⟩)
   have a8:b<mu.length:=(qn.1 hc).1;have st2:=Stp.move st1.sim b (.arr (cells.take (len*i.size)++ys.flatten)) C ad (zP1 a8) zSp hb;rw[List.set_set]at st2;refine⟨_,_,_,bh,st1.trans s st2,?_⟩;refine .sl _ i.size 0 _ C ad a7 ?_ ht a3;show (G.blk++[_])[mu.length]?=_;rw[<-s.len];simp
  .obtain ⟨v,w',G',k1,k2,k3⟩:=grow (some ⟨C,0,none⟩) len a7 o (cells.take (len*i.size)) mu G zSo (by rw[a2];simp;omega) (fun k y hk=>by
    refine⟨?_,T k y hk⟩;rw[z8]at hk;split at hk
    .exact (h4 k y hk).1
    .exact absurd hk zSp) a4 zOm a6
   have st2:=sW k2.sim b;have a8:b<mu.length:=(qn.1 hc).1;rw[List.set_append_left _ _ a8]at st2;exact⟨v,w',G',k1,k2.trans s st2,k3⟩
end
end Go.Ev
namespace Go.Ev
open Go Go.RowKit
section
variable {es:List (AV×AV)}{xs:List (List AV)}{cs:List AV}
structure St where
 tm:Nat->AV
 mu:Mu
def St.put(st:St)(d:Option Tmp)(v:AV)(m:Mu):St:=
 ⟨match d with|some d=>fun i=>if i=d then v else st.tm i|none=>st.tm,m⟩
def St.ev(st:St):uk->AV
 | .tmp t=>st.tm t
 | .const v=>ofV v
 | .global _ => .any
 | .func f => .fn (.func f) [] []
structure Pol where
 mt:List Nat:=[]
inductive AEnd where
 |ret (v:AV)
 |pan (v:AV)
def zj(G:Gh)(h:Array Obj)(args:List AV)(vs:Array j3):Prop:=
 vs.size=args.length/\∀(k:Nat) x,args[k]?=some x->VRel G h x (vs.getD k vd)
def zO(P:qf)(f:us):Prop:=∀(args:Array j3) (w:j2),(callFunc f args).run P w = .ok (.enter f args) w
def qK(P:qf)(f:us)(args:List AV)(mu:Mu)(R:AEnd->Mu->Prop):Prop:=zO P f /\
 ∀(G:Gh) (w:j2) (o:Array j3),Sim G mu w.heap->zj G w.heap args o ->
  Calls P f o w fun e i=>∃ j p,Stp G mu w j p i /\
   ((∃ r v,R (.ret r) p/\e = .returned v/\VRel j i.heap r v)\/(∃ r v,R (.pan r) p/\e = .panicked [{ v,recovered:=false }]/\VRel j i.heap r v))
structure w6 (B:Nat) (w w':j2):Prop extends Below B w w' where
 drawn:w.drawn<=w'.drawn
def qd(P:qf)(f:us)(args:List AV)(r:AV):Prop:=zO P f /\
 ∀(i:Nat->Prop) (w:j2) (o:Array j3),Sim ⟨i,[]⟩ [] w.heap->zj ⟨i,[]⟩ w.heap args o ->
  Calls P f o w fun e j=>∃ g v,e = .returned v/\(∀ b,i b->g b)/\(∀ b,g b->b<j.heap.size/\(i b\/w.heap.size<=b))/\w6 w.heap.size w j/\VRel ⟨g,[]⟩ j.heap r v
def pT(P:qf)(f:us)(args:List AV)(r:AV):Prop:=zO P f /\
 ∀(g:Nat->Prop) (w:j2) (o:Array j3),Sim ⟨g,[]⟩ [] w.heap->zj ⟨g,[]⟩ w.heap args o ->
  Calls P f o w fun e i=>∃ j v,e = .returned v/\(∀ b,j b->w.heap.size<=b/\b<i.heap.size)/\w6 w.heap.size w i/\VRel ⟨j,[]⟩ i.heap r v
def HF(x:AV):Prop:=∀(G:Gh) (h:Array Obj) (v:j3),VRel G h x v->VRel ⟨G.imm,[]⟩ h x v
def FL(x:AV):Prop:=∀(G g:Gh) (h i:Array Obj) (v:j3),VRel G h x v->VRel g i x v
theorem HF.any:HF .any:=fun _ _ v _ => .any v
theorem HF.sc(v:j3):HF (.sc v):=fun _ _ u r=>by cases r with|sc _ g=>exact .sc _ g
theorem HF.agg(h:∀ c,c∈cs->HF c):HF (.agg cs):=fun G i u r=>by
 cases r with
 |agg _ o j l=>exact .agg _ _ j (fun k x g=>h x (qY g) G i _ (l k x g))
theorem HF.tup(h:∀ c,c∈cs->HF c):HF (.tup cs):=fun G i u r=>by
 cases r with
 |tup _ o j l=>exact .tup _ _ j (fun k x g=>h x (qY g) G i _ (l k x g))
theorem HF.ip(h:∀ c,c∈cs->HF c):HF (.ip cs):=fun G i u r=>by
 cases r with
 |ip _ a arr e j rd l o p t C=>exact .ip _ a arr e j rd l o p t (fun k x g=>h x (qY g) G i _ (C k x g))
theorem HF.ifc{t:j1}{x:AV}(h:HF x):HF (.ifc t x):=fun G g u r=>by
 cases r with
 |ifc _ _ v i=>exact .ifc _ _ _ (h G g v i)
theorem HF.lst{full:Bool}(h:∀ r,r∈xs->∀ c,c∈r->HF c):HF (.lst full xs):=fun G l u r=>by
 cases r with
 |nil=>exact .nil _
 |emp _ a cap g=>exact .emp _ a cap g
 |lst _ _ j a cap o e p rd t C I g J P R T =>
  refine .lst _ _ j a cap o e p rd t C I g J P R (fun k x i=>?_);obtain⟨row,U,h2⟩:=Jg.1 (qY i);exact h row U x h2 G l _ (T k x i)
theorem HF.fn{f:Fn}{first caps:List AV}(j:∀ c,c∈first->HF c)(l:∀ c,c∈caps->HF c):HF (.fn f first caps):=fun G i u r=>by
 cases r with
 |fn _ _ _ o p t C I J=>exact .fn _ _ _ o p t C (fun k x g=>j x (qY g) G i _ (I k x g)) (fun k x g=>l x (qY g) G i _ (J k x g))
theorem HF.im(h:∀ p,p∈es->HF p.1/\HF p.2):HF (.im es):=fun G j u r=>by
 cases r with
 |im _ i ce clock l o t C I J=>exact .im _ i ce clock l o t (fun k x g=>(h x (qY g)).1 G j _ (C k x g)) (fun k x g=>(h x (qY g)).2 G j _ (I k x g)) J
theorem HF.ims(h:∀ p,p∈es->HF p.1/\HF p.2):HF (.ims es):=fun G C u r=>by
 cases r with
 |ims _ i I J _ g P r =>
  refine .ims _ i I J _ g P (HF.im (fun p l=>?_) G C _ r);obtain⟨j,o⟩:=List.mem_iff_getElem?.1 l;have t:j<es.length:=by rw[<-g.1];exact(qn.1 o).1
  rw[g.back t]at o;exact h p (qY o)
theorem FL.sc(v:j3):FL (.sc v):=fun _ _ _ _ u r=>by cases r with|sc _ g=>exact .sc _ g
theorem FL.agg(h:∀ c,c∈cs->FL c):FL (.agg cs):=fun G j l g u r=>by
 cases r with
 |agg _ o p t=>exact .agg _ _ p (fun k x i=>h x (qY i) G j l g _ (t k x i))
theorem FL.tup(h:∀ c,c∈cs->FL c):FL (.tup cs):=fun G j l g u r=>by
 cases r with
 |tup _ o p t=>exact .tup _ _ p (fun k x i=>h x (qY i) G j l g _ (t k x i))
theorem FL.ifc{t:j1}{x:AV}(h:FL x):FL (.ifc t x):=fun G i j g u r=>by
 cases r with
 |ifc _ _ v l=>exact .ifc _ _ _ (h G i j g v l)
inductive Rd (mu:Mu):AV->AV->Prop
 |hf (x:AV) (h:HF x):Rd mu x x
 |sl (b sz off len:Nat) (cells:List AV) (ys:List (List AV)) (hc:mu[b]?=some (.arr cells)) (hl:off+len*sz<=cells.length) (hn:ys.length=len) (hz:ya sz ys)
   (h:∀(k:Nat) x y,cells[off+k]?=some x->ys.flatten[k]?=some y->Rd mu x y):Rd mu (.sl b sz off len) (.lst false ys)
 |ptr (b off:Nat) (cells ys:List AV) (hc:mu[b]?=some (.arr cells)) (hn:off+ys.length<=cells.length) (h:∀(k:Nat) x y,cells[off+k]?=some x->ys[k]?=some y->Rd mu x y):Rd mu (.ptr b off) (.ip ys)
 |mp (b:Nat) (es fs:List (AV×AV)) (hc:mu[b]?=some (.mp es)) (hn:fs.length=es.length) (hk:∀(k:Nat) x y,es[k]?=some x->fs[k]?=some y->Rd mu x.1 y.1) (hv:∀(k:Nat) x y,es[k]?=some x->fs[k]?=some y->Rd mu x.2 y.2):Rd mu (.mp b) (.im fs)
 |md (b:Nat) (es fs:List (AV×AV)) (hc:mu[b]?=some (.md es)) (hn:fs.length=es.length) (hk:∀(k:Nat) x y,es[k]?=some x->fs[k]?=some y->Rd mu x.1 y.1) (hv:∀(k:Nat) x y,es[k]?=some x->fs[k]?=some y->Rd mu x.2 y.2):Rd mu (.mp b) (.im fs)
 |agg (xs ys:List AV) (hn:ys.length=xs.length) (h:∀(k:Nat) x y,xs[k]?=some x->ys[k]?=some y->Rd mu x y):Rd mu (.agg xs) (.agg ys)
 |tup (xs ys:List AV) (hn:ys.length=xs.length) (h:∀(k:Nat) x y,xs[k]?=some x->ys[k]?=some y->Rd mu x y):Rd mu (.tup xs) (.tup ys)
 |lst (full:Bool) (xs ys:List (List AV)) (hn:ys.length=xs.length) (hz:∀(k:Nat) x y,xs[k]?=some x->ys[k]?=some y->x.length=y.length) (h:∀(k:Nat) x y,xs.flatten[k]?=some x->ys.flatten[k]?=some y->Rd mu x y):Rd mu (.lst full xs) (.lst full ys)
 |fn (f:Fn) (first first' caps caps':List AV) (hn:first'.length=first.length) (hm:caps'.length=caps.length) (h:∀(k:Nat) x y,first[k]?=some x->first'[k]?=some y->Rd mu x y) (h':∀(k:Nat) x y,caps[k]?=some x->caps'[k]?=some y->Rd mu x y) :
   Rd mu (.fn f first caps) (.fn f first' caps')
 |ifc (t:j1) (x y:AV) (h:Rd mu x y):Rd mu (.ifc t x) (.ifc t y)
 |wk (x:AV) (full:Bool) (ys:List (List AV)) (h:Rd mu x (.lst full ys)):Rd mu x (.lst false ys)
 |ims (x:AV) (es es':List (AV×AV)) (σ τ:Nat->Nat) (hp:PIx σ τ es es') (hd:(es.map Prod.fst).Nodup) (h:Rd mu x (.im es')):Rd mu x (.ims es)
theorem Rd.zsc{mu:Mu}(v:j3):Rd mu (.sc v) (.sc v):=.hf _ (HF.sc _)
theorem Wd{ys:List (List AV)}(g:ys.length=xs.length)(i:∀(k:Nat) x y,xs[k]?=some x->ys[k]?=some y->x.length=y.length):xs.flatten.length=ys.flatten.length:=by
 induction xs generalizing ys with
 |nil=>grind
 |cons x xs j =>
  cases ys with
  |nil=>simp at g
  |cons y ys =>
   have p:=i 0 x y rfl rfl;have:=j (ys:=ys) (zUs g) (fun k a b l o=>i (k+1) a b (zUs l) (zUs o))
   grind
theorem Rd.sound{G:Gh}{mu:Mu}{h:Array Obj}(s:Sim G mu h){x y:AV}(r:Rd mu x y):∀{v:j3},VRel G h x v->VRel ⟨fun b=>G.imm b\/Live G mu b,[]⟩ h y v:=by
 have a4:Gh.le ⟨G.imm,[]⟩ ⟨fun b=>G.imm b\/Live G mu b,[]⟩:=⟨fun b h => .inl h,fun _ _ h=>h⟩;induction r with
 |hf x T=>intro v r;exact(T G h v r).le a4
 |sl b j off len cells l P hl hn hz g ih =>
  intro v r;subst hn;cases r with
  |sl _ _ _ _ p C cap R ht a3 =>
  obtain⟨arr,e,h1,h2,h3,h4⟩:=s.arr b cells p C P R;by_cases h0:l=[]
  .subst h0;exact .emp false _ cap zSp
  .have a5:=z2 hz
   have I:∀(k:Nat) y,l.flatten[k]?=some y->∃ x,cells[off+k]?=some x:=by
    grind
   refine .lst false l j ⟨p,off,none⟩ cap arr e (0,0) (fun k=>arr.getD (off+k) vd) h1 rfl a3 zSp (.inr ⟨b,_,C,P,zSp,R⟩) hz ?_ ?_
   .intro k y U
    obtain⟨x,T⟩:=I k y U;have:off+k<arr.size:=by grind
    simp[qB,this]
   grind
 |ptr b off cells l P hn g ih =>
  intro v r;cases r with
  |ptr _ _ p C R =>
  obtain⟨arr,e,h1,h2,h3,h4⟩:=s.arr b cells p C P R;have I:∀(k:Nat) y,l[k]?=some y->∃ x,cells[off+k]?=some x:=by
   grind
  refine .ip l ⟨p,off,none⟩ arr e (0,0) (fun k=>arr.getD (off+k) vd) h1 rfl (.inr ⟨b,_,C,P,zSp,R⟩) ?_ ?_
  .intro k y U
   obtain⟨x,T⟩:=I k y U;have:off+k<arr.size:=by grind
   simp[qB,this]
  grind
 |mp b i fs P hn hk hv a6 a7 =>
  intro v r;cases r with
  |mp _ p C R =>
  obtain⟨ce,cl,h1,h2,h3,h4,h5,h6⟩:=s.mp b i p C P R;have I:∀(k:Nat) y,fs[k]?=some y->∃ x,i[k]?=some x:=by
   grind
  refine .im fs p ce cl h1 (.inr ⟨b,_,C,P,zSp,R⟩) zOm ?_ ?_ (.of h5 h6)
  .grind
  grind
 |md b i fs P hn hk hv a6 a7 =>
  intro v r;cases r with
  |mp _ p C R =>
  obtain⟨ce,cl,h1,h2,h3,h4,h5⟩:=s.md b i p C P R;have I:∀(k:Nat) y,fs[k]?=some y->∃ x,i[k]?=some x:=by
   grind
  refine .im fs p ce cl h1 (.inr ⟨b,_,C,P,zSp,R⟩) zOm ?_ ?_ h5
  .grind
  grind
 |agg J l hn g ih =>
  intro v r;cases r with
  |agg _ o hm hv =>
  refine .agg _ _ zOm (fun k y U=>?_);have hk:k<l.length:=(qn.1 U).1;have T:J[k]?=some (J[k]' zOm):=by grind
  grind
 |tup J l hn g ih =>
  intro v r;cases r with
  |tup _ o hm hv =>
  refine .tup _ _ zOm (fun k y U=>?_);have hk:k<l.length:=(qn.1 U).1;have T:J[k]?=some (J[k]' zOm):=by grind
  grind
 |lst full J l hn hz g ih =>
  intro v r;have a5:=Wd hn hz;cases r with
  |nil=>cases l with
   |nil=>exact .nil _
   |cons=>simp at hn
  |emp _ a cap P=>cases l with
   |nil=>exact .emp _ a cap P
   |cons=>simp at hn
  |lst _ _ j a cap cs e fr rd R hs hl P hi a8 hr hv =>
   rw[<-hn];have I:∀(k:Nat) y,l.flatten[k]?=some y->∃ x,J.flatten[k]?=some x:=by
    grind
   refine .lst full l j a cap cs e fr rd R hs zOm (by rw[hn];exact P) (.inl hi) ?_ ?_ ?_
   .intro r a9
    obtain⟨k,hk⟩:=List.mem_iff_getElem?.1 a9;have ae:k<l.length:=(qn.1 hk).1;have T:J[k]?=some (J[k]' zOm):=by simp[show k<J.length by omega]
    rw[<-hz k _ r T hk];exact a8 _ (qY T)
   .intro k y U
    obtain⟨x,T⟩:=I k y U;exact hr k x T
   grind
 |fn f first a1 a0 a2 hn hm g aa ih ab =>
  intro v r;cases r with
  |fn _ _ _ o ws af ag hv hw =>
  refine .fn f _ _ o ws zOm zOm (fun k y U=>?_) (fun k y U=>?_)
  .have hk:k<a1.length:=(qn.1 U).1
   have T:first[k]?=some (first[k]' zOm):=by simp[show k<first.length by omega]
   grind
  .have hk:k<a2.length:=(qn.1 U).1
   have T:a0[k]?=some (a0[k]' zOm):=by simp[show k<a0.length by omega]
   exact ab k _ y T U (hw k _ T)
 |ifc t x y g ih =>
  intro v r;cases r with
  |ifc _ _ v hv=>exact .ifc t y v (ih hv)
 |wk x full l g ih =>
  intro v r;have:=ih r;cases this with
  |nil=>exact .nil _
  |emp _ a cap P=>exact .emp _ a cap zSp
  |lst _ _ j a cap cs e fr rd R hs hl P hi hz hr hv=>exact .lst _ _ j a cap cs e fr rd R hs hl zSp hi hz hr hv
 |ims x i ad σ τ hp hd g ih =>
  intro v r;exact .ims i ad σ τ v hp hd (ih r)
end
end Go.Ev
namespace Go.Ev
open Go Go.RowKit
section
variable {s x:AV}{K:AV->Mu->Prop}{h:Array Obj}{g:Array j1}{G:Gh}{mu:Mu}{P:qf}{w:j2}
def cutM(keep:Nat->Bool):Mu->Nat->Mu
 | [],_=>[]
 |c :: l,i=>(if keep i=true then c else .dead) :: cutM keep l (i+1)
theorem uV(keep:Nat->Bool):∀(mu:Mu) (i k:Nat),(cutM keep mu k)[i]?=(mu[i]?).map fun c=>if keep (k+i)=true then c else .dead
 | [],i,k=>by simp[cutM]
 |c :: l,0,k=>by simp[cutM]
 |c :: l,i+1,k=>by
  rw[cutM,vh,vh,uV keep l i (k+1)];have:k+1+i=k+(i+1):=zOm;rw[this]
theorem Jq(keep:Nat->Bool):∀(mu:Mu) (k:Nat),(cutM keep mu k).length=mu.length
 | [],_=>rfl
 |c :: l,k=>by simp[cutM,Jq keep l (k+1)]
theorem yF{keep:Nat->Bool}{i:Nat}{c:Cell}(h:(cutM keep mu 0)[i]?=some c)(j:c ≠ .dead):mu[i]?=some c/\keep i=true:=by
 rw[uV]at h;cases g:mu[i]? with
 |none=>grind
 |some l =>
  rw[g]at h;simp only[qU,Nat.zero_add,qj]at h;by_cases o:keep i=true
  .grind
  grind
theorem Live.cut{keep:Nat->Bool}{b:Nat}(h:Live G (cutM keep mu 0) b):Live G mu b:=by
 obtain⟨i,c,g,l,j,o⟩:=h;exact⟨i,c,g,(yF l j).1,j,o⟩
theorem Sim.cut(s:Sim G mu h)(keep:Nat->Bool):Sim G (cutM keep mu 0) h:=by
 refine⟨by rw[Jq];exact s.len,s.imm,fun i c g l r o p=>s.obj i c g l (yF r o).1 o p,fun i c g l r o p=>s.live i c g l (yF r o).1 o p,?_,s.tab⟩;intro i j ci C b I J r o p t P R;exact s.inj i j ci C b I J (yF r p).1 (yF o t).1 p t P R
def frz(G:Gh)(give:Nat->Bool)(mu:Mu):Gh:=⟨fun b=>G.imm b\/Live G (cutM give mu 0) b,G.blk⟩
theorem Jr(s:Sim G mu h)(give:Nat->Bool):Sim (frz G give mu) (cutM (fun i=>!give i) mu 0) h:=by
 have J:G.le (frz G give mu):=⟨fun b C => .inl C,fun _ _ h=>h⟩;refine⟨by rw[Jq];exact s.len,?_,?_,?_,?_,s.tab.mono (fun b h => .inl h) (fun _ _=>rfl)⟩
 .rintro b (C|⟨i,c,g,p,l,r⟩)
  .exact s.imm b C
  .obtain ⟨o,P,_⟩:=s.obj i c b g (yF p l).1 l r
   exact(zw.1 P).1
 .intro i c t g p l r
  obtain⟨o,P,U⟩:=s.obj i c t g (yF p l).1 l r;exact⟨o,P,U.mono J (Ext.refl _ _)⟩
 .rintro i c t g p l r (C|⟨j,c',I,g1,R,g3⟩)
  .exact s.live i c t g (yF p l).1 l r C
  .have e:=s.inj i j c c' t g I (yF p l).1 (yF g1 R).1 l R r g3
   subst e;have a1:=(yF p l).2;have a2:=(yF g1 R).2
   grind
 .intro i j ci cj b ti tj p l r T h5 h6
  exact s.inj i j ci cj b ti tj (yF p r).1 (yF l T).1 r T h5 h6
theorem vP(s:Sim G mu w.heap)(give:Nat->Bool):Stp G mu w (frz G give mu) (cutM (fun i=>!give i) mu 0) w:=by
 refine⟨⟨fun b g => .inl g,fun _ _ h=>h⟩,Jr s give,fun _ _ _=>rfl,qr _,?_,?_,rfl,rfl,rfl,qr _⟩
 .rintro b ⟨i,c,j,o,l,p⟩
  exact .inl ⟨i,c,j,(yF o l).1,l,p⟩
 .rintro b (g|g)
  .exact .inl g
  .exact .inr (.inl g.cut)
theorem Js(s:Sim G mu h)(give:Nat->Bool){x y:AV}{v:j3}(r:Rd (cutM give mu 0) x y)(g:VRel G h x v):VRel (frz G give mu) h y v:=
 VRel.mono (G:=⟨fun b=>G.imm b\/Live G (cutM give mu 0) b,[]⟩) (G':=frz G give mu) ⟨fun _ j=>j,fun i x l=>by simp at l⟩ (Ext.refl _ _) (r.sound (s.cut give) g)
theorem yj.det(h:yj P mu g s x K):∃ v m,yj P mu g s x (fun a b=>a=v/\b=m)/\K v m:=by
 obtain⟨t,C,e,j,I,l,R,T,U,a4,a5,a6,a7,a8,h⟩:=h;rcases h with ⟨J,i,o,p,b4,b5⟩|⟨b,len,cells,i,o,p,b4,b5⟩
 .by_cases r:l=[]
  .exact ⟨_,_,⟨t,C,e,j,I,l,R,T,U,a4,a5,a6,a7,a8,.inl ⟨J,i,o,p,fun _=>⟨rfl,rfl⟩,fun h=>absurd r h⟩⟩,b4 r⟩
  .exact ⟨_,_,⟨t,C,e,j,I,l,R,T,U,a4,a5,a6,a7,a8,.inl ⟨J,i,o,p,fun h=>absurd h r,fun _=>⟨rfl,rfl⟩⟩⟩,b5 r⟩
 .exact ⟨_,_,⟨t,C,e,j,I,l,R,T,U,a4,a5,a6,a7,a8,.inr ⟨b,len,cells,i,o,p,b4,rfl,rfl⟩⟩,b5⟩
theorem yj.mono{i:AV->Mu->Prop}(h:yj P mu g s x K)(o:∀ v m,K v m->i v m):yj P mu g s x i:=by
 obtain⟨t,T,e,j,U,l,a1,a2,a3,a4,a5,a6,a7,a8,h⟩:=h;refine⟨t,T,e,j,U,l,a1,a2,a3,a4,a5,a6,a7,a8,?_⟩;rcases h with ⟨J,p,r,C,I,R⟩|⟨b,len,cells,p,r,C,I,R⟩
 .exact .inl ⟨J,p,r,C,fun h=>o _ _ (I h),fun h=>o _ _ (R h)⟩
 grind
def We(P:qf)(mu:Mu)(l:Array j1)(s x:AV)(K:AV->Mu->Prop):Prop:=
 ∃ t o e j p g n J,l=#[t,o]/\qy P t=some (e,j,p)/\P.underlying o=some (.int .i64)/\qv P e=some g/\g.cells.length=j/\g.cells.all AV.one=true/\j≠0/\p<=16384/\x = .sc (.int .i64 (Int.ofNat n))/\0<n/\s = .lst true J/\za j J/\J.length+n<=4294967296 /\
  K (.sl mu.length j 0 (J.length+n)) (mu++[.arr (J.flatten++(qm (n*j)).map fun i=>g.cells.getD (i % j) .any)])
theorem pU(s:Sim G mu w.heap){I:Array j1}{ty:j1}{sv xv:AV}{vs vx:j3}(rs:VRel G w.heap sv vs)(rx:VRel G w.heap xv vx){K:AV->Mu->Prop}
  (h:We P mu I sv xv K):∃ z p,K z p/\Good P G mu w (Builtin.append_ I ty #[vs,vx]) z p:=by
 obtain⟨t,tn,e,sz,bt,zv,n,J,rfl,aa,ab,ad,R,ae,al,T,rfl,hn,rfl,C,af,hk⟩:=h;obtain⟨i,hu,hi,rfl,rfl⟩:=ji aa;obtain⟨i',z,ag,hz,rfl⟩:=Zz ad;obtain rfl:i=i':=Option.some.inj (hi.symm.trans ag);obtain⟨g,ah⟩:=wX (G:=G) (h:=w.heap) z (fun c hc=>by grind);rw[R]at g;obtain⟨a0,U,l,rfl,a2,_,a3,ao,a4⟩:=ZA (P:=P) s rs (ys:=J) rfl C;have a5:U=J.length:=by
  obtain⟨a1,c1,h1,_,h2,_⟩:=rs.lst_inv;cases h1;exact h2 rfl
 subst a5;cases rx with
 |sc _ _ =>
 have a6:n*i.bytes<=281474976710656:=zu (Nat.mul_le_mul (show n<=4294967296 by omega) T) zOm;have r:=Lib.run_append_grow_zeros w t tn ty e i z .i64 .i64 hu ab hi hz a0 J.length J.length l a4 n hn zOm zOm zOm a6 (Wb zOm af T);have ai:=uU w (J.length+n) J.length e;generalize grownCap w (J.length+n) J.length e=gc at r ai;have aj:=z2 C.ok;have aq:(ze z.cells n).size=n*i.size:=by simp[ze,g]
 have ar:(ze z.cells (gc-(J.length+n))).size=(gc-(J.length+n))*i.size:=by simp[ze,g]
 have a7:∀ j,j<n*i.size->(ze z.cells n).getD j vd=z.cells.getD (j % i.size) vd:=by
  intro j o;have a8:0<i.size:=zOm;simp_all[Nat.mod_lt,ze,qB,getElem!_pos,UR]
 have sd:Sim G mu w.drew.heap:=s;have st:=sB sd (.cells (l.toArray++ze z.cells n++ze z.cells (gc-(J.length+n))) e) (.arr (J.flatten++(qm (n*i.size)).map fun j=>(ofV z).cells.getD (j % i.size) .any)) (gc*i.size) (by
  intro _;have an:J.length*i.size+n*i.size+(gc-(J.length+n))*i.size=gc*i.size:=by
   rw[<-Nat.add_mul,<-Nat.add_mul];congr 1;omega
  refine⟨_,e,rfl,by grind,by grind,fun j y o=>?_⟩;by_cases ak:j<J.flatten.length
  .rw [qT ak]at o
   refine⟨C.one y (qY o),?_⟩;have:=a3 j y o;rw[qB,Array.append_assoc,Array.getElem?_append_left zSo];rw[qS]at this;show VRel G w.heap y _
   grind
  .rw [zo zOm,qZ]at o
   have a9:j-J.flatten.length<n*i.size:=by
    cases hq:(qm (n*i.size))[j-J.flatten.length]? with
    |none=>rw[hq]at o;cases o
    |some q=>have:=(qn.1 hq).1;simpa using this
   rw[List.getElem?_range a9]at o;have a8:0<i.size:=zOm;have hm:(j-J.flatten.length) % i.size<(ofV z).cells.length:=by rw[R];exact Nat.mod_lt _ a8
   simp only[qU,qj]at o;rw[qS,qq hm]at o;subst o;refine⟨by simpa using qu.1 ae _ (List.getElem_mem hm),?_⟩;have e1:(l.toArray++ze z.cells n++ze z.cells (gc-(J.length+n))).getD j vd=(ze z.cells n).getD (j-J.flatten.length) vd:=by
    rw[qB,qB,Array.append_assoc,Array.getElem?_append_right zSo,Array.getElem?_append_left (by simp[a2];omega)];simp[a2,aj]
   rw[e1,a7 _ a9];exact ah _ _ (qq hm))
 refine⟨_,_,hk,_,_,_,r,(Stp.drew s).trans s st,?_⟩;refine .sl _ i.size 0 _ w.heap.size (gc*i.size) gc ?_ zOm zOm;show (G.blk++[_])[mu.length]?=_;rw[<-s.len];simp
def qI(P:qf)(mu:Mu)(g:Array j1)(s x:AV)(K:AV->Mu->Prop):Prop:=
 yj P mu g s x K\/((∃ give j,Rd (cutM give mu 0) x j/\yj P (cutM (fun i=>!give i) mu 0) g s j K)\/We P mu g s x K)
theorem qI.det{i:Array j1}(h:qI P mu i s x K):∃ v m,qI P mu i s x (fun a b=>a=v/\b=m)/\K v m:=by
 rcases h with h|⟨give,l,o,p⟩|⟨t,r,e,j,C,I,n,J,R,T,U,a4,a5,a6,a7,a8,a9,b1,b2,b3,b4,k⟩
 .obtain ⟨v,m,g,k⟩:=h.det;exact⟨v,m,.inl g,k⟩
 .obtain ⟨v,m,g,k⟩:=p.det;exact⟨v,m,.inr (.inl ⟨give,l,o,g⟩),k⟩
 .exact ⟨_,_,.inr (.inr ⟨t,r,e,j,C,I,n,J,R,T,U,a4,a5,a6,a7,a8,a9,b1,b2,b3,b4,rfl,rfl⟩),k⟩
theorem qI.mono{l:AV->Mu->Prop}(h:qI P mu g s x K)(i:∀ v m,K v m->l v m):qI P mu g s x l:=by
 rcases h with h|⟨give,o,p,r⟩|⟨t,C,e,j,I,R,n,J,T,U,a3,a4,a5,a6,a7,a8,a9,b1,b2,b3,b4,k⟩
 .exact .inl (h.mono i)
 .exact .inr (.inl ⟨give,o,p,r.mono i⟩)
 .exact .inr (.inr ⟨t,C,e,j,I,R,n,J,T,U,a3,a4,a5,a6,a7,a8,a9,b1,b2,b3,b4,i _ _ k⟩)
theorem pV(s:Sim G mu w.heap){g:Array j1}{ty:j1}{l o:AV}{vs r:j3}(i:VRel G w.heap l vs)(j:VRel G w.heap o r){K:AV->Mu->Prop}
  (h:qI P mu g l o K):∃ z p,K z p/\Good P G mu w (Builtin.append_ g ty #[vs,r]) z p:=by
 rcases h with h|⟨give,x',t,C⟩|h
 .exact Wc s i j h
 .obtain ⟨z,p,I,v,J,R,g1,T,U⟩:=Wc (ty:=ty) (Jr s give) (i.mono (vP s give).le (Ext.refl _ _)) (Js s give t j) C
  exact⟨z,p,I,v,J,R,g1,(vP s give).trans s T,U⟩
 .exact pU s i j h
inductive Gv (mu:Mu) (give:Nat->Bool):AV->AV->Prop where
 |same (x:AV):Gv mu give x x
 |rd (x y:AV) (h:Rd (cutM give mu 0) x y):Gv mu give x y
 |fn (f:Fn) (first first' caps caps':List AV) (hn:first'.length=first.length) (hm:caps'.length=caps.length) (h:∀(k:Nat) x y,first[k]?=some x->first'[k]?=some y->Gv mu give x y)
   (h':∀(k:Nat) x y,caps[k]?=some x->caps'[k]?=some y->Gv mu give x y):Gv mu give (.fn f first caps) (.fn f first' caps')
theorem Gv.sound(s:Sim G mu h){give:Nat->Bool}{x y:AV}(r:Gv mu give x y):∀{v:j3},VRel G h x v->VRel (frz G give mu) h y v:=by
 have p:G.le (frz G give mu):=⟨fun b C => .inl C,fun _ _ h=>h⟩;induction r with
 |same x=>intro v l;exact l.mono p (Ext.refl _ _)
 |rd x y r=>grind [Js]
 |fn f first g i j hn hm hr I ih J =>
  intro v l;cases l with
  |fn _ _ _ o P R T l hw =>
  refine .fn f _ _ o P zOm zOm (fun k y t=>?_) (fun k y t=>?_)
  .have U:k<g.length:=(qn.1 t).1
   have hx:first[k]?=some (first[k]' zOm):=qq _
   grind
  .have U:k<j.length:=(qn.1 t).1
   have hx:i[k]?=some (i[k]' zOm):=qq _
   grind
end
end Go.Ev
namespace Go.Ev
open Go Go.RowKit
section
variable {x:AV}{h:Array Obj}{G:Gh}{P:qf}{u:j3}{w:j2}
theorem w7{e:j1}{q:IntKind}{cs:Array j3}{i:Nat}{v:j3}(g:P.underlying e=some (.int q))(h:cs[i]?=some v):(part e cs i).run P w = .ok v w:=by
 simp_all[isAgg,run_underlying,part]
theorem w8{xs ys:List AV}{b:Bool}(h:aEqs (x :: xs) ys=some b):∃ k a g i,x = .sc (.int k a)/\ys = .sc (.int k g) :: i/\(((a == g)=true/\aEqs xs i=some b)\/((a == g)=false/\b=false)):=by
 cases x with
 |sc v =>
  cases v with
  |int k a =>
   cases ys with
   |nil=>simp[aEqs]at h
   |cons y ys =>
    cases y with
    |sc u =>
     cases u with
     |int l g =>
      by_cases o:k=l
      .subst o
       cases j:(a == g) with
       |true=>exact⟨k,a,g,ys,rfl,rfl,.inl ⟨j,by grind [aEqs]⟩⟩
       |false=>exact⟨k,a,g,ys,rfl,rfl,.inr ⟨j,by grind [aEqs]⟩⟩
      grind [aEqs]
     |_=>simp[aEqs]at h
    |_=>simp[aEqs]at h
  |_=>simp[aEqs]at h
 |_=>simp[aEqs]at h
theorem pW(d:Nat){e:j1}{q:IntKind}(p:P.underlying e=some (.int q))(vs C:Array j3):∀(xs ys:List AV) (i:Nat) (b:Bool),aEqs xs ys=some b ->
  (∀(k:Nat) x,xs[k]?=some x->∃ v,vs[i+k]?=some v/\VRel G w.heap x v)->(∀(k:Nat) x,ys[k]?=some x->∃ v,C[i+k]?=some v/\VRel G w.heap x v) ->
  (forIn (m:=Sem) (List.range' i xs.length) ((none:Option Bool),()) fun i R=>do
   let a <-part e vs i
   let b <-part e C i
   let c <-Op.equalIn (d+1) e a b
   if (!c)=true then pure (ForInStep.done (some false,())) else pure (ForInStep.yield (none,()))).run P w = .ok (if b then (none,()) else (some false,())) w:=by
 intro xs;induction xs with
 |nil =>
  intro ys i b h _ _;cases ys with
  |nil=>simp_all[aEqs,qj]
  |cons=>simp[aEqs]at h
 |cons x xs T =>
  intro ys i b h I J;have U:=w8 h;clear h;obtain⟨k,a,b',r,rfl,rfl,h⟩:=U;obtain⟨v,g,rv⟩:=I 0 _ rfl;obtain⟨u,l,ru⟩:=J 0 _ rfl;cases rv;cases ru;rw[Nat.add_zero]at g l;simp only[zZ,List.range'_succ,List.forIn_cons,qz,w7 p g,w7 p l,qA,run_equalIn_int w d e k q a b' p];rcases h with ⟨o,h⟩|⟨o,rfl⟩
  .rw [o]
   simp only[Bool.not_true,Bool.false_eq_true,if_false,qW,qA];refine T r (i+1) b h (fun j x t=>?_) (fun j x t=>?_)
   .have:=I (j+1) x (zUs t)
    grind
   .have:=J (j+1) x (zUs t)
    grind
  simp_all
theorem uW{xs:List AV}{vs:Array j3}(g:vs.size=xs.length)(i:∀(k:Nat) x,xs[k]?=some x->VRel G h x (vs.getD k vd)) :
  ∀(k:Nat) x,xs[k]?=some x->∃ v,vs[0+k]?=some v/\VRel G h x v:=by
 simp_all[qn,vd,qB]
theorem Wf(d:Nat){t e:j1}{n:Nat}{q:IntKind}(j:P.underlying t=some (.array n e))(l:P.underlying e=some (.int q))(o:szOf P e=some 1)
  {xs ys:List AV} {vs g:Array j3} (p:xs.length=n) (r:VRel G w.heap (.agg xs) (.agg vs)) (C:VRel G w.heap (.agg ys) (.agg g)) {b:Bool} (h:aEqs xs ys=some b) :
  (Op.equalIn (d+2) t (.agg vs) (.agg g)).run P w = .ok b w:=by
 cases r with
 |agg _ _ I J =>
 cases C with
 |agg _ _ R T =>
 unfold Op.equalIn;simp only[qz,run_underlying j,qA,z9 o,Nat.mul_one,Std.Legacy.Range.forIn_eq_forIn_range'];have i:(Std.Legacy.Range.size [:n])=xs.length:=by simp[Std.Legacy.Range.size,p]
 rw[i];have:=pW (G:=G) d l vs g xs ys 0 b h (uW I J) (uW R T);rw[this];cases b<;>simp
theorem pX(d:Nat)(vs I:Array j3):∀(fs:List Field) (i:Nat) (xs ys:List AV) (b:Bool),uP P fs i=true->xs.length=fs.length->aEqs xs ys=some b ->
  (∀(k:Nat) x,xs[k]?=some x->∃ v,vs[i+k]?=some v/\VRel G w.heap x v)->(∀(k:Nat) x,ys[k]?=some x->∃ v,I[i+k]?=some v/\VRel G w.heap x v) ->
  (Op.eqFields (d+1) vs I fs).run P w = .ok b w:=by
 intro fs;induction fs with
 |nil =>
  intro i xs ys b _ p h _ _;have:xs=[]:=jt (zUs p);subst this;cases ys with
  |nil=>simp only[aEqs,qj]at h;subst h;rfl
  |cons=>simp[aEqs]at h
 |cons f fs T =>
  intro i xs ys b hf p h J R;cases xs with
  |nil=>simp at p
  |cons x xs =>
   simp only[uP,qi,beq_iff_eq,bne_iff_ne,ne_eq]at hf;obtain⟨⟨⟨U,h2⟩,h3⟩,h4⟩:=hf;have h':=w8 h;clear h;obtain⟨k,a,b',r,rfl,rfl,h⟩:=h';obtain⟨v,g,rv⟩:=J 0 _ rfl;obtain⟨u,l,ru⟩:=R 0 _ rfl;cases rv;cases ru;rw[Nat.add_zero]at g l;obtain⟨q,t⟩:∃ q,P.underlying f.type=some (.int q):=by
    grind [UV,absurd]
   rw[Op.eqFields,if_pos h2];simp only[U,qz,w7 t g,w7 t l,qA,run_equalIn_int w d f.type k q a b' t];rcases h with ⟨o,h⟩|⟨o,rfl⟩
   .rw [o]
    simp only[Bool.not_true,Bool.false_eq_true,if_false];refine T (i+1) xs r b h4 (zUs p) h (fun j x C=>?_) (fun j x C=>?_)
    .have:=J (j+1) x (zUs C)
     grind
    .have:=R (j+1) x (zUs C)
     grind
   simp_all
theorem pY(d:Nat){t:j1}{fs:Array Field}(i:P.underlying t=some (.struct fs))(hf:uP P fs.toList 0=true)(l:P.stoodInHeld t=false)
  {xs ys:List AV} {vs g:Array j3} (o:xs.length=fs.size) (p:VRel G w.heap (.agg xs) (.agg vs)) (r:VRel G w.heap (.agg ys) (.agg g)) {b:Bool} (h:aEqs xs ys=some b) :
  (Op.equalIn (d+2) t (.agg vs) (.agg g)).run P w = .ok b w:=by
 have j:P.fieldsOf t=fs:=by simp[Program.fieldsOf,i]
 rw[run_equalIn_agg w (d+1) t vs g (by rw[j];exact i) l,j];cases p with
 |agg _ _ C I =>
 cases r with
 |agg _ _ J R =>
 exact pX d vs g fs.toList 0 xs ys b hf (zUs o) h (uW C I) (uW J R)
inductive KK where
 |now
 |arr (n:Nat)
def keyKind(P:qf)(g:j1):Option KK:=
 match P.underlying g with
 |some (.int _)|some .string|some .bool=>some .now
 |some (.array n e)=>match P.underlying e,szOf P e with
  |some (.int _),some 1=>some (.arr n)
  |_,_=>none
 |_=>none
@[go_sem] def yk(P:qf)(g:j1)(x y:AV):Option Bool:=
 match P.underlying g with
 |some (.int _)=>(match x,y with | .sc (.int k a),.sc (.int i b)=>if k=i then some (a == b) else none|_,_=>none)
 |some .string=>(match x,y with | .sc (.string a),.sc (.string b)=>some (a == b)|_,_=>none)
 |some .bool=>(match x,y with | .sc (.bool a),.sc (.bool b)=>some (a == b)|_,_=>none)
 |some (.array n e)=>(match P.underlying e,szOf P e with
  |some (.int _),some 1=>(match x,y with | .agg J,.agg l=>if J.length=n/\l.length=n then aEqs J l else none|_,_=>none)
  |_,_=>none)
 |_=>none
def qL(P:qf)(g:j1)(k:AV):List (AV×AV)->Nat->Option (Option Nat)
 | [],_=>some none
 |e :: j,i=>match yk P g k e.1 with
  |some true=>some (some i)
  |some false=>qL P g k j (i+1)
  |none=>none
@[go_sem] def uX(q:IntKind):AV->Bool
 | .sc (.int k _)=>k == q
 |_=>false
@[go_sem] def ym(P:qf)(g:j1)(x:AV):Bool:=
 match P.underlying g with
 |some (.int q)=>uX q x
 |some .string=>(match x with | .sc (.string _)=>true|_=>false)
 |some .bool=>(match x with | .sc (.bool _)=>true|_=>false)
 |some (.array n e)=>(match P.underlying e,szOf P e with
  |some (.int q),some 1=>(match x with | .agg J=>J.length == n&&J.all (uX q)|_=>false)
  |_,_=>false)
 |_=>false
theorem pZ(m:Bool)(d:Nat){e:j1}{q:IntKind}(g:P.underlying e=some (.int q))(l:szOf P e=some 1)(vs:Array j3):∀(n i:Nat),i+n<=vs.size ->
    (forIn (m := Sem) (List.range' i n) PUnit.unit fun i o => do
            let j <-Go.sizeOf e
            let x <-part e vs (i*j)
            Instr.checkKey m (d+1) e x
            pure (ForInStep.yield PUnit.unit)).run P w = .ok PUnit.unit w:=by
  intro n;induction n with
  |zero=>intro i _;rfl
  |succ n t =>
    intro i h;have p:vs[i]?=some (vs[i]' zOm):=by grind
    have r:∀ v,(Instr.checkKey m (d+1) e v).run P w = .ok () w:=by
      simp_all[Instr.checkKey,run_underlying]
    simp only[List.range'_succ,List.forIn_cons,qz,z9 l,qA,Nat.mul_one,w7 g p,r,qW]
    grind
theorem w9{g:j1}{v:j3}(m:Bool)(r:VRel G w.heap x v)(h:ym P g x=true):(Instr.checkKey m 10000 g v).run P w = .ok () w:=by
 unfold ym at h;have now:∀ d,P.underlying g=some d->(∀ n e,d ≠ .array n e)->(∀ l,d ≠ .struct l)->(∀ p,d ≠ .interface p)->(Instr.checkKey m 10000 g v).run P w = .ok () w:=by
  intro d i t C I;show (Instr.checkKey m (9999+1) g v).run P w=_;unfold Instr.checkKey;simp only[qz,run_underlying i,qA];cases d<;>first|rfl | (exact absurd rfl (t _ _)) | (exact absurd rfl (C _)) | (exact absurd rfl (I _))
 split at h
 .grind
 .grind
 .grind
 .rename_i n e i
  split at h
  .rename_i R T
   split at h
   .rename_i J
    cases r with
    |agg _ o U hv =>
    have hl:J.length=n:=by
     grind
    show (Instr.checkKey m (9998+2) g (.agg o)).run P w=_;unfold Instr.checkKey;simp only[qz,run_underlying i,qA,Std.Legacy.Range.forIn_eq_forIn_range'];have j:(Std.Legacy.Range.size [:n])=n:=by simp[Std.Legacy.Range.size]
    rw[j,pZ m 9998 R T o n 0 zOm];simp
   grind
  grind
 grind
def zU(G:Gh)(h:Array Obj)(es:List (AV×AV))(ce:List wg):Prop:=ce.length=es.length/\∀(k:Nat) x,es[k]?=some x->∃ e,ce[k]?=some e/\VRel G h x.1 e.key/\VRel G h x.2 e.val
theorem Wg{i:j1}{y:AV}{v:j3}{b:Bool}{d:TypeDesc}(j:P.underlying i=some d)(l:∀ n e,d ≠ .array n e)(o:VRel G h x u)(p:VRel G h y v)(g:yk P i x y=some b) :
  Instr.sameNow d u v=some b:=by
 unfold yk at g;rw[j]at g;cases d<;>simp only at g<;>first | (exact absurd g (by simp;done)) | (exact absurd rfl (l _ _))|skip
 all_goals
  split at g
  .cases o;cases p
   grind [Instr.sameNow,qj,absurd]
  grind
theorem p5{t:j1}{d:TypeDesc}(C:P.underlying t=some d)(I:∀ n e,d ≠ .array n e)(J:VRel G h x u):∀(es:List (AV×AV)) (ce:List wg) (i:Nat) (r:Option Nat),
  zU G h es ce->qL P t x es i=some r->Instr.findNow d u ce i=some (r.map fun j=>(j,(ce.getD (j-i) default).val))/\∀ j,r=some j->i<=j/\j<i+es.length:=by
 intro es;induction es with
 |nil =>
  intro ce i r g hf;have:ce=[]:=jt g.1;subst this;simp only[qL,qj]at hf;subst hf;exact⟨rfl,zSp⟩
 |cons e es T =>
  intro ce i r g hf;cases ce with
  |nil=>have:=g.1;simp at this
  |cons c ce =>
   obtain⟨c',l,R,rv⟩:=g.2 0 e rfl;simp only[Zp,qj]at l;subst l;simp only[qL]at hf;split at hf
   .rename_i o
    simp only[qj]at hf;subst hf;have:=Wg C I J R o
    grind [Instr.findNow]
   .rename_i o
    have:=Wg C I J R o;have p:zU G h es ce:=⟨by have:=g.1;grind,fun k y U=>g.2 (k+1) y (zUs U)⟩;obtain⟨h1,h2⟩:=T ce (i+1) r p hf;refine⟨?_,fun j hj=>?_⟩
    .simp only[Instr.findNow,this,h1]
     cases r with
     |none=>rfl
     |some j =>
      have:=h2 j rfl;simp only[qU];rw[show j-i=(j-(i+1))+1 by omega];simp
    grind
   grind
theorem p6{t e:j1}{n:Nat}{q:IntKind}(U:P.underlying t=some (.array n e))(he:P.underlying e=some (.int q))(hs:szOf P e=some 1){x:AV}{u:j3}(rx:VRel G w.heap x u) :
  ∀(es:List (AV×AV)) (ce:List wg) (i:Nat) (r:Option Nat),zU G w.heap es ce->qL P t x es i=some r ->
   (Instr.findAsking t u ce i).run P w = .ok (r.map fun j=>(j,(ce.getD (j-i) default).val)) w/\∀ j,r=some j->i<=j/\j<i+es.length:=by
 intro es;induction es with
 |nil =>
  intro ce i r g hf;have:ce=[]:=jt g.1;subst this;simp only[qL,qj]at hf;subst hf;exact⟨rfl,zSp⟩
 |cons y es ih =>
  intro ce i r g hf;cases ce with
  |nil=>have:=g.1;simp at this
  |cons c ce =>
   obtain⟨c',C,I,rv⟩:=g.2 0 y rfl;simp only[Zp,qj]at C;subst C;simp only[qL]at hf;have heq:∀ b,yk P t x y.1=some b->(Op.equal t u c.key).run P w = .ok b w:=by
    intro b p;unfold yk at p;rw[U]at p;simp only[he,hs]at p;split at p
    .rename_i J l R
     split at p
     .rename_i hl
      rw[R]at I;generalize hq:c.key=ck at I;cases rx with
      |agg _ o hn hv =>
      cases I with
      |agg _ ws hm hw =>
      exact Wf (G:=G) 9998 U he hs hl.1 (.agg _ _ hn hv) (.agg _ _ hm hw) p
     grind
    grind
   split at hf
   .rename_i hk
    simp only[qj]at hf;subst hf;simp_all[Instr.findAsking]
   .rename_i hk
    have T:zU G w.heap es ce:=⟨by have:=g.1;grind,fun k z hz=>g.2 (k+1) z (zUs hz)⟩;obtain⟨h1,h2⟩:=ih ce (i+1) r T hf;refine⟨?_,fun j hj=>?_⟩
    .simp only[Instr.findAsking,qz,heq _ hk,qA,Bool.false_eq_true,if_false,h1]
     cases r with
     |none=>rfl
     |some j =>
      have:=h2 j rfl;simp only[qU];rw[show j-i=(j-(i+1))+1 by omega];simp
    grind
   grind
theorem vQ{g:j1}(p:VRel G w.heap x u)(l:ym P g x=true){es:List (AV×AV)}{ce:Array wg}{r:Option Nat}(o:zU G w.heap es ce.toList)(hf:qL P g x es 0=some r) :
  (Instr.findKey g u ce.toList).run P w = .ok (r.map fun j=>(j,(ce.getD j default).val)) w/\∀ j,r=some j->j<es.length:=by
 have C:∀ j,ce.toList.getD j default=ce.getD j default:=by
  simp
 unfold ym at l;have now:∀ d,P.underlying g=some d->(∀ n e,d ≠ .array n e)->(Instr.findKey g u ce.toList).run P w = .ok (r.map fun j=>(j,(ce.getD j default).val)) w/\∀ j,r=some j->j<es.length:=by
  intro d i I;obtain⟨t,J⟩:=p5 i I p es ce.toList 0 r o hf;simp_all[Nat.sub_zero,Instr.findKey,run_underlying]
 split at l
 .grind
 .grind
 .grind
 .rename_i n e i
  split at l
  .rename_i R T
   obtain⟨t,J⟩:=p6 i R T p es ce.toList 0 r o hf;simp only[Nat.sub_zero,C]at t;refine⟨?_,fun j hj=>by grind⟩;simp only[Instr.findKey,qz,run_underlying i,qA];cases U:ce.toList with
   |nil =>
    have:r=none:=by
     cases es with
     |nil=>grind [qL]
     |cons=>have:=o.1;rw[U]at this;simp at this
    subst this;simp[Instr.findNow]
   |cons c cs =>
    grind [Instr.findNow,Instr.sameNow]
  grind
 grind
end
end Go.Ev
namespace Go.Ev
open Go Go.RowKit
section
variable {k x y:AV}{h:Array Obj}{G:Gh}{es:List (AV×AV)}{mu:Mu}{P:qf}{g:j1}{w:j2}
def mapT(P:qf)(t:j1):Option (j1×j1):=match P.underlying t with|some (.map k e)=>some (k,e)|_=>none
theorem ug{t k e:j1}(h:mapT P t=some (k,e)):P.underlying t=some (.map k e):=by
 unfold mapT at h;split at h
 .grind
 grind
@[go_sem] def jj(mu:Mu):AV->Option (List (AV×AV))
 | .im i=>some i
 | .mp b=>match mu[b]? with|some (.mp i)=>some i|_=>none
 | .sc (.map none)=>some []
 |_=>none
theorem ZB(ce:Array wg)(k:Nat)(g:k<ce.size):ce.toList[k]?=some (ce.getD k default):=by
 simp[qB,g]
theorem p7(s:Sim G mu w.heap){x:AV}{v:j3}{es:List (AV×AV)}(r:VRel G w.heap x v)(h:jj mu x=some es) :
  (v = .map none/\es=[])\/∃ m ce i,v = .map (some m)/\w.heap[m]?=some (.map ce i)/\zU G w.heap es ce.toList:=by
 unfold jj at h;split at h
 .simp only[qj]at h;subst h
  cases r with
  |im _ g ce clock j P o R T U =>
   refine .inr ⟨g,ce,clock,rfl,j,⟨zUs o,fun k x p=>?_⟩⟩
   grind [qn,ZB]
 .split at h
  .rename_i t C
   simp only[qj]at h;subst h;cases r with
   |mp _ g l j =>
    obtain⟨ce,i,I,J,h3,h4,h5,h6⟩:=s.mp _ _ g l C j;refine .inr ⟨g,ce,i,rfl,I,⟨zUs J,fun k x p=>?_⟩⟩
    grind [qn,ZB]
  grind
 .simp only[qj]at h;subst h
  cases r;exact .inl ⟨rfl,rfl⟩
 grind
@[go_sem] def yn(P:qf)(mu:Mu)(t:j1)(m k:AV)(ok:Bool):Option AV:=
 match mapT P t,jj mu m with
 |some (g,l),some j =>
  if ym P g k=true then
   match qL P g k j 0 with
   |some (some i)=>(j[i]?).map fun e=>if ok then .tup [e.2,.sc (.bool true)] else e.2
   |some none=>(qv P l).map fun z=>if ok then .tup [z,.sc (.bool false)] else z
   |none=>none
  else none
 |_,_=>none
theorem tup2{z:AV}{u v:j3}(i:VRel G h y u)(j:VRel G h z v):VRel G h (.tup [y,z]) (.tuple #[u,v]):=by
 refine .tup _ _ rfl (fun k c g=>?_);cases k with
 |zero=>simp at g;subst g;exact i
 |succ k=>cases k with
  |zero=>simp at g;subst g;exact j
  |succ k=>simp at g
theorem jS{m:Nat}{ce:Array wg}{g:Nat}(h:w.heap[m]?=some (.map ce g)):(getObj m).run P w = .ok (.map ce g) w:=by
 simp[getObj,Sem.run,h]
theorem Wh(s:Sim G mu w.heap){t:j1}{m k z:AV}{ok:Bool}{vm T:j3}(rm:VRel G w.heap m vm)(J:VRel G w.heap k T)(h:yn P mu t m k ok=some z) :
  ∃ u,(Instr.lookup t vm T ok).run P w = .ok u w/\VRel G w.heap z u:=by
 unfold yn at h;split at h
 .rename_i kt et U ht a0
  have I:=ug ht;split at h
  .rename_i o
   have j:∀ b,(Instr.checkKey b 10000 kt T).run P w = .ok () w:=fun b=>w9 b J o
   rcases p7 s rm a0 with ⟨rfl,rfl⟩|⟨mb,ce,cl,rfl,hb,hr⟩
   .simp only[qL]at h
    cases C:qv P et with
    |none=>simp[C]at h
    |some z0 =>
     simp only[C,qU,qj]at h;subst h;obtain⟨p,l,rfl⟩:=ue C w;have g:=(vQ (es:=[]) (ce:=#[]) J o ⟨rfl,zSp⟩ (r:=none) rfl).1;cases ok
     .exact ⟨p,by simp[Instr.lookup,run_underlying I,j,g,l],.ofV p⟩
     .exact ⟨.tuple #[p,.bool false],by simp[Instr.lookup,run_underlying I,j,g,l],tup2 (.ofV p) (.sc _ rfl)⟩
   .have R:=jS (P:=P) hb
    split at h
    .rename_i i hf
     obtain⟨g,a1⟩:=vQ J o hr hf;have hi:=a1 i rfl;have hx:U[i]?=some U[i]:=zP1 hi;rw[hx]at h;simp only[qU,qj]at h;subst h;obtain⟨e,he,h1,h2⟩:=hr.2 i _ hx;have a2:ce.getD i default=e:=by
      simp_all
     simp only[qU,a2]at g;cases ok
     .exact ⟨e.val,by simp[Instr.lookup,run_underlying I,R,j,g],h2⟩
     .exact ⟨.tuple #[e.val,.bool true],by simp[Instr.lookup,run_underlying I,R,j,g],tup2 h2 (.sc _ rfl)⟩
    .rename_i hf
     obtain⟨g,_⟩:=vQ J o hr hf;simp only[Option.map_none]at g;cases C:qv P et with
     |none=>simp[C]at h
     |some z0 =>
      simp only[C,qU,qj]at h;subst h;obtain⟨p,l,rfl⟩:=ue C w;cases ok
      .exact ⟨p,by simp[Instr.lookup,run_underlying I,R,j,g,l],.ofV p⟩
      .exact ⟨.tuple #[p,.bool false],by simp[Instr.lookup,run_underlying I,R,j,g,l],tup2 (.ofV p) (.sc _ rfl)⟩
    grind
  grind
 grind
theorem Wi:∀(xs ys:List AV),aEqs xs ys=some true->xs=ys
 | [],[],_=>rfl
 | [],_ :: _,h=>by simp[aEqs]at h
 |x :: xs,[],h=>by cases x<;>simp[aEqs]at h
 |x :: xs,y :: ys,h=>by
  unfold aEqs at h;split at h
  .rename_i g i;cases g
  .rename_i k a l r b o g i
   simp only[List.cons.injEq]at g i;obtain⟨rfl,rfl⟩:=g;obtain⟨rfl,rfl⟩:=i;split at h
   .rename_i p
    subst p;split at h
    .rename_i j
     have:=beq_iff_eq.1 j;subst this;rw[Wi xs ys h]
    grind
   grind
  grind
theorem Wj(q:IntKind):∀(xs ys:List AV),xs.length=ys.length->xs.all (uX q)=true->ys.all (uX q)=true->∃ b,aEqs xs ys=some b
 | [],[],_,_,_=>⟨true,rfl⟩
 | [],_ :: _,h,_,_=>by simp at h
 |_ :: _,[],h,_,_=>by simp at h
 |x :: xs,y :: ys,h,g,i=>by
  simp only[List.all_cons,qi]at g i;obtain⟨b,t⟩:=Wj q xs ys (zUs h) g.2 i.2;have j:=g.1;have l:=i.1;unfold uX at j l;split at j
  .split at l
   .rename_i C a _ I c
    have o:=beq_iff_eq.1 j;have p:=beq_iff_eq.1 l;subst o;subst p;by_cases r:(a == c)=true
    .simp_all [aEqs]
    simp_all[aEqs]
   grind
  grind
theorem Wk{a b:cD}(h:(a == b)=true):a=b:=by
 obtain⟨x⟩:=a;obtain⟨y⟩:=b;have g:(x == y)=true:=h;rw[beq_iff_eq.1 g]
theorem p8(h:yk P g x y=some true):x=y:=by
 unfold yk at h;split at h
 .grind
 .grind [qj,Wk,absurd]
 .grind
 .grind [Wi,absurd]
 grind
theorem Wl{l:j1}(i:ym P l x=true)(g:ym P l y=true):∃ b,yk P l x y=some b:=by
 unfold ym at i g;unfold yk;split at i
 .rename_i q j
  simp only[j]at g⊢;unfold uX at i g;split at i
  .split at g
   .simp_all
   grind
  grind
 .rename_i j
  simp only[j]at g⊢;split at i
  .split at g
   .exact ⟨_,rfl⟩
   grind
  grind
 .rename_i j
  simp only[j]at g⊢;split at i
  .split at g
   .exact ⟨_,rfl⟩
   grind
  grind
 .rename_i n e j
  simp only[j]at g⊢;split at i
  .rename_i q o p
   simp only[o,p]at g⊢;split at i
   .split at g
    .rw [qi]at i g
     have r:=beq_iff_eq.1 i.1;have t:=beq_iff_eq.1 g.1;simp only;rw[if_pos ⟨r,t⟩]
     grind [Wj]
    grind
   grind
  grind
 grind
theorem Qa:∀{es:List (AV×AV)} {i j:Nat},qL P g k es i=some (some j)->i<=j/\∃ e,es[j-i]?=some e/\k=e.1
 | [],i,j,h=>by simp[qL]at h
 |e :: es,i,j,h=>by
  unfold qL at h;split at h
  .rename_i l
   simp only[qj]at h;subst h;exact⟨qr _,e,zSp,p8 l⟩
  .obtain ⟨o,p,r,t⟩:=Qa h
   grind
  grind
theorem Jt{j:j1}:∀{es:List (AV×AV)} {i:Nat},qL P j k es i=some none->∀ e,e∈es->yk P j k e.1=some false
 | [],_,_=>zSp
 |e :: es,i,h=>by
  unfold qL at h;split at h
  .exact absurd h zSp
  .rename_i l
   intro o g;rcases qp.1 g with rfl|g
   .exact l
   .exact Jt h o g
  grind
theorem Wm(l:ym P g k=true):∀(es:List (AV×AV)) (i:Nat),(∀ e,e∈es->ym P g e.1=true)->∃ r,qL P g k es i=some r
 | [],i,_=>⟨none,rfl⟩
 |e :: es,i,h=>by
  obtain⟨b,p⟩:=Wl l (h e zSp);obtain⟨r,t⟩:=Wm l es (i+1) (fun o j=>h o (zP1 j))
  grind [qL]
theorem PIx.mem{C:Type}{o r:Nat->Nat}{es i:List C}(p:PIx o r es i){x:C}:x∈i↔x∈es:=by
 constructor
 .intro h
  obtain⟨j,l⟩:=List.mem_iff_getElem?.1 h;have g:j<es.length:=by rw[<-p.1];grind
  rw[p.back g]at l
  grind
 .intro h
  obtain⟨j,l⟩:=List.mem_iff_getElem?.1 h;have g:j<es.length:=(qn.1 l).1;rw[<-(p.2 j g).2.2.2.2]at l
  grind
theorem p9(h:(es.map Prod.fst).Nodup){x y:AV×AV}(g:x∈es)(i:y∈es)(e:x.1=y.1):x=y:=by
 induction es with
 |nil=>simp at g
 |cons z es j =>
  grind
theorem Wn(h:yk P g x y=some false):x≠y:=by
 rintro rfl;unfold yk at h;have agg:∀ J:List AV,aEqs J J≠some false:=by
  intro J;induction J with
  |nil=>simp[aEqs]
  |cons x J j =>
   intro h;obtain⟨k,a,o,i,rfl,p,h⟩:=w8 h
   grind
 have ba:∀ a:cD,(a == a)=true:=fun a=>by obtain⟨l⟩:=a;exact(beq_self_eq_true l)
 split at h
 .grind
 .grind
 .grind
 .grind
 grind
theorem ge{t T et:j1}{p:List (AV×AV)}{z:AV}{ok:Bool}{σ τ:Nat->Nat}(ht:mapT P t=some (T,et))(I:PIx σ τ es p)(hd:(es.map Prod.fst).Nodup)
  (ho:∀ e,e∈es->ym P T e.1=true) (h:yn P mu t (.im es) k ok=some z):yn P mu t (.im p) k ok=some z:=by
 unfold yn at *
 simp only[ht,jj]at h⊢;split at h
 .rename_i U
  rw[if_pos U];obtain⟨r',o⟩:=Wm U p 0 (fun e r=>ho e (I.mem.1 r));rw[o];split at h
  .rename_i i J
   obtain⟨_,e,r,C⟩:=Qa J;simp only[Nat.sub_zero]at r;rw[r]at h;cases r' with
   |none=>exact absurd C (Wn (Jt o e (I.mem.2 (qY r))))
   |some j =>
    obtain⟨_,R,g,l⟩:=Qa o;simp only[Nat.sub_zero]at g;have:R=e:=p9 hd (I.mem.1 (qY g)) (qY r) (by rw[<-C,<-l])
    grind
  .rename_i J
   cases r' with
   |none=>exact h
   |some j =>
    obtain⟨_,R,g,l⟩:=Qa o;simp only[Nat.sub_zero]at g;exact absurd l (Wn (Jt J R (I.mem.1 (qY g))))
  grind
 grind
def z5(P:qf)(mu:Mu)(t:j1)(m k:AV)(ok:Bool):Option AV:=
 match m with
 | .ims i=>(match mapT P t with
  |some (g,_)=>if (i.all fun e=>ym P g e.1)=true then yn P mu t (.im i) k ok else none
  |none=>none)
 |m=>yn P mu t m k ok
@[go_sem] theorem qf6(P:qf)(mu:Mu)(t:j1)(es:List (AV×AV))(k:AV)(ok:Bool):z5 P mu t (.ims es) k ok=(match mapT P t with
  |some (g,_)=>if (es.all fun e=>ym P g e.1)=true then yn P mu t (.im es) k ok else none
  |none=>none):=rfl
@[go_sem] theorem qf7(P:qf)(mu:Mu)(t:j1)(es:List (AV×AV))(k:AV)(ok:Bool):z5 P mu t (.im es) k ok=yn P mu t (.im es) k ok:=rfl
@[go_sem] theorem qf8(P:qf)(mu:Mu)(t:j1)(b:Nat)(k:AV)(ok:Bool):z5 P mu t (.mp b) k ok=yn P mu t (.mp b) k ok:=rfl
@[go_sem] theorem qf9(P:qf)(mu:Mu)(t:j1)(v:j3)(k:AV)(ok:Bool):z5 P mu t (.sc v) k ok=yn P mu t (.sc v) k ok:=rfl
theorem gg(s:Sim G mu w.heap){t:j1}{m k z:AV}{ok:Bool}{g j:j3}(l:VRel G w.heap m g)(o:VRel G w.heap k j)(h:z5 P mu t m k ok=some z) :
  ∃ u,(Instr.lookup t g j ok).run P w = .ok u w/\VRel G w.heap z u:=by
 unfold z5 at h;split at h
 .rename_i i
  split at h
  .rename_i R T p
   split at h
   .rename_i U
    cases l with
    |ims _ C σ τ _ I J r =>
     exact Wh s r o (ge p I J (fun e he=>by grind) h)
   grind
  grind
 .exact Wh s l o h
theorem gh:∀(xs ys:List AV) (vs g:List j3) (n:Nat),aEqs xs ys=some true->vs.length=xs.length->g.length=ys.length->(∀(k:Nat) x,xs[k]?=some x->∃ v,vs[k]?=some v/\VRel G h x v) ->
  (∀(k:Nat) x,ys[k]?=some x->∃ v,g[k]?=some v/\VRel G h x v)->vs.length=g.length/\((vs.zip g).all fun (x,y)=>Instr.sameBits n x y)=true:=by
 intro xs;induction xs with
 |nil =>
  intro ys vs g n l o p _ _;cases ys with
  |nil=>simp_all
  |cons=>simp[aEqs]at l
 |cons x xs P =>
  intro ys vs g n l o p C i;have R:=w8 l;clear l;obtain⟨k,a,b',r,rfl,rfl,h⟩:=R;rcases h with ⟨T,h⟩|⟨_,h⟩
  .cases vs with
   |nil=>simp at o
   |cons v vs =>
    cases g with
    |nil=>simp at p
    |cons u g =>
     obtain⟨v',I,U⟩:=C 0 _ rfl;obtain⟨u',J,r2⟩:=i 0 _ rfl;simp at I J;subst I;subst J;cases U;cases r2;obtain⟨g1,g2⟩:=P r vs g n h (zUs o) (zUs p) (fun j y t=>C (j+1) y (zUs t)) (fun j y t=>i (j+1) y (zUs t));refine⟨by simp[g1],?_⟩;simp_all[List.zip_cons_cons,List.all_cons,Instr.sameBits]
  grind
theorem Ju{kt:j1}{u v:j3}(R:VRel G h x u)(T:VRel G h y v)(g:yk P kt x y=some true):Instr.sameBits 10000 v u=true:=by
 unfold yk at g;split at g
 .split at g
  .cases R;cases T
   split at g
   .simp_all [qj,beq_iff_eq,Instr.sameBits]
   grind
  grind
 .split at g
  .cases R;cases T
   simp_all[Option.some.inj,Instr.sameBits,beq_toListBytes,beq_iff_eq]
  grind
 .split at g
  .cases R;cases T
   have g:=Option.some.inj g;simp_all[Instr.sameBits,beq_iff_eq]
  grind
 .split at g
  .split at g
   .rename_i J j
    split at g
    .rename_i hl
     cases R with
     |agg _ o U hv =>
     cases T with
     |agg _ p hm hw =>
     have g1:=uW U hv;have g2:=uW hm hw;have:=gh (G:=G) (h:=h) J j o.toList p.toList 9999 g (zUs U) (zUs hm) (fun k x hx=>by have:=g1 k x hx;simpa using this) (fun k x hx=>by have:=g2 k x hx;simpa using this);have t:∀(a b:List j3),a.length=b.length->((a.zip b).all fun (x,y)=>Instr.sameBits 9999 x y)=true->(∀ c,c∈a->∃ k n,c = .int k n)->(∀ c,c∈b->∃ k n,c = .int k n)->((b.zip a).all fun (x,y)=>Instr.sameBits 9999 x y)=true:=by
      intro a;induction a with
      |nil=>intro b _ _ _ _;simp
      |cons c a ih =>
       intro b hl h ha hb;cases b with
       |nil=>simp at hl
       |cons d b =>
        obtain⟨k1,n1,rfl⟩:=ha c zSp;obtain⟨k2,n2,rfl⟩:=hb d zSp;simp only[List.zip_cons_cons,List.all_cons,qi]at h⊢;refine⟨?_,ih b (zUs hl) h.2 (fun c i=>ha c (zP1 i)) (fun c i=>hb c (zP1 i))⟩;simp only[Instr.sameBits,qi,beq_iff_eq]at h⊢;exact⟨h.1.1.symm,h.1.2.symm⟩
     have ints:∀(J j:List AV),aEqs J j=some true->(∀ c,c∈J->∃ k n,c = .sc (.int k n))/\(∀ c,c∈j->∃ k n,c = .sc (.int k n)):=by
      intro J;induction J with
      |nil=>intro j h;cases j with
       |nil=>simp
       |cons=>simp[aEqs]at h
      |cons x J ih =>
       intro j h;have h':=w8 h;clear h;obtain⟨k,a,b',a0,rfl,rfl,h⟩:=h';rcases h with ⟨_,h⟩|⟨_,h⟩
       .obtain ⟨g1,g2⟩:=ih a0 h
        refine⟨fun c i=>?_,fun c i=>?_⟩
        .rcases qp.1 i with rfl|i
         .exact ⟨k,a,rfl⟩
         .exact g1 c i
        .rcases qp.1 i with rfl|i
         .exact ⟨k,b',rfl⟩
         .exact g2 c i
       .exact absurd h zSp
     obtain⟨i1,i2⟩:=ints J j g;have val:∀(l:List AV) (C:Array j3),C.size=l.length->(∀(k:Nat) x,l[k]?=some x->VRel G h x (C.getD k vd))->(∀ c,c∈l->∃ k n,c = .sc (.int k n))->∀ c,c∈C.toList->∃ k n,c = .int k n:=by
      intro l C U hv hi c i;obtain⟨k,g⟩:=List.mem_iff_getElem?.1 i;have I:C[k]?=some c:=zUs g;have a1:k<l.length:=by have:=(zw.1 I).1;omega
      obtain⟨q,n,e⟩:=hi l[k] zSp;have r:=hv k l[k] (zP1 a1);rw[e,pr I]at r;cases r;exact⟨q,n,rfl⟩
     have hs:=t o.toList p.toList this.1 this.2 (val J o U hv i1) (val j p hm hw i2);show (p.size == o.size&&(p.toList.zip o.toList).all fun (x,y)=>Instr.sameBits 9999 x y)=true
     grind
    grind
   grind
  grind
 grind
theorem Jv:∀(es:List (AV×AV)) (i j:Nat),qL P g k es i=some (some j)->i<=j/\∃ e,es[j-i]?=some e/\yk P g k e.1=some true:=by
 intro es;induction es with
 |nil=>intro i j h;simp[qL]at h
 |cons e es l =>
  intro i j h;simp only[qL]at h;split at h
  .grind
  .grind
  grind
end
end Go.Ev
namespace Go.Ev
open Go Go.RowKit
section
variable {ce:Array wg}{h:Array Obj}{G:Gh}{es:List (AV×AV)}{mu p:Mu}{g:Nat}{P:qf}{w:j2}
@[go_sem] def Wo(es:List (AV×AV))(i:Option Nat)(k v:AV):List (AV×AV):=
 match i with
 |some i=>es.set i (k,v)
 |none=>es++[(k,v)]
theorem vo{r:Nat}(h:w.heap[r]?=some (.map ce g))(o:Obj):(setObj r o).run P w = .ok () { w with heap:=w.heap.setIfInBounds r o }:=by
 simp[setObj,Sem.run,h]
theorem Jw(w:j2)(r:Nat)(o:Obj)(h:r<w.heap.size):({ w with heap:=w.heap.setIfInBounds r o }:j2).heap[r]?=some o:=by
 simp[h]
theorem Jx(w:j2)(r k:Nat)(o:Obj)(h:k≠r):({ w with heap:=w.heap.setIfInBounds r o }:j2).heap[k]?=w.heap[k]?:=by
 grind
theorem ZC(s:Sim G mu w.heap){b:Nat}{v:j3}{es:List (AV×AV)}(r:VRel G w.heap (.mp b) v)(l:mu[b]?=some (.mp es)) :
  ∃ m g ce,v = .map (some m)/\G.blk[b]?=some (m,g)/\w.heap[m]?=some (.map ce ce.size)/\zU G w.heap es ce.toList/\(∀(k:Nat) (e:wg),ce[k]?=some e->e.born=k):=by
 cases r with
 |mp _ i g j =>
  obtain⟨ce,I,o,p,J,P,t,C⟩:=s.mp _ _ i g l j;subst t;refine⟨i,g,ce,rfl,j,o,⟨zUs p,fun k x R=>?_⟩,C⟩
  grind [qn,ZB]
theorem gi(i:zU G h es ce.toList)(l:∀(k:Nat) (e:wg),ce[k]?=some e->e.born=k):jh G h g (.map ce ce.size) (.mp es):=by
 refine⟨ce,ce.size,rfl,by simpa using i.1,fun k x j=>?_,fun k x j=>?_,rfl,l⟩
 .obtain ⟨e,o,p,r⟩:=i.2 k x j
  simp_all
 .obtain ⟨e,o,p,r⟩:=i.2 k x j
  simp_all
theorem Wp(g:zU G h es ce.toList){i:Nat}(C:i<es.length){k v:AV}{o p:j3}(I:VRel G h k o)(J:VRel G h v p) :
  zU G h (es.set i (k,v)) (ce.modify i fun e=>{ e with key:=o,val:=p }).toList:=by
 refine⟨by simpa using g.1,fun j x l=>?_⟩;rcases yY l with ⟨rfl,rfl⟩|⟨r,l⟩
 .have t:j<ce.size:=by have:=g.1;simp at this;omega
  simp_all
 .obtain ⟨e,P,R,T⟩:=g.2 j x l
  grind
theorem Jy(i:zU G h es ce.toList){k v:AV}{l o:j3}(t:VRel G h k l)(C:VRel G h v o)(n:Nat) :
  zU G h (es++[(k,v)]) (ce.push { key:=l,val:=o,born:=n }).toList:=by
 have r:ce.size=es.length:=by simpa using i.1
 refine⟨zP1 r,fun j x g=>?_⟩;rcases zr g with ⟨I,g⟩|⟨rfl,rfl⟩
 .obtain ⟨e,J,P,R⟩:=i.2 j x g
  grind
 simp_all
theorem Jz(g:∀(k:Nat) (e:wg),ce[k]?=some e->e.born=k)(i:Nat)(f:wg->wg)(hf:∀ e,(f e).born=e.born):∀(k:Nat) (e:wg),(ce.modify i f)[k]?=some e->e.born=k:=by
 grind
theorem Wq(g:∀(k:Nat) (e:wg),ce[k]?=some e->e.born=k)(x:wg)(i:x.born=ce.size):∀(k:Nat) (e:wg),(ce.push x)[k]?=some e->e.born=k:=by
 grind
theorem sJ(s:Sim G mu w.heap){b m j:Nat}{es i:List (AV×AV)}{ce g:Array wg}(o:mu[b]?=some (.mp es))(p:G.blk[b]?=some (m,j))(r:w.heap[m]?=some (.map ce ce.size))
  (t:zU G w.heap i g.toList) (l:∀(k:Nat) (e:wg),g[k]?=some e->e.born=k):Stp G mu w G (mu.set b (.mp i)) { w with heap:=w.heap.setIfInBounds m (.map g g.size) }:=by
 grind [zw,sR,Jw,Jx,gi]
theorem gj(s:Sim G mu w.heap){b:Nat}{v:j3}{es:List (AV×AV)}(r:VRel G w.heap (.mp b) v)(o:mu[b]?=some (.md es)) :
  ∃ m g ce j,v = .map (some m)/\G.blk[b]?=some (m,g)/\w.heap[m]?=some (.map ce j)/\zU G w.heap es ce.toList/\yE ce j:=by
 cases r with
 |mp _ i g l =>
  obtain⟨ce,j,p,t,I,J,C⟩:=s.md _ _ i g o l;refine⟨i,g,ce,j,rfl,l,p,⟨zUs t,fun k x P=>?_⟩,C⟩
  grind [qn,ZB]
theorem gk{i:Nat}(j:zU G h es ce.toList)(o:yE ce g):jh G h i (.map ce g) (.md es):=by
 refine⟨ce,g,rfl,by simpa using j.1,fun k x l=>?_,fun k x l=>?_,o⟩
 .obtain ⟨e,p,r,t⟩:=j.2 k x l
  simp_all
 .obtain ⟨e,p,r,t⟩:=j.2 k x l
  simp_all
theorem sL(s:Sim G mu w.heap){b m j:Nat}{c:Cell}{i:List (AV×AV)}{o:Obj}{g:Array wg}{p:Nat}(r:mu[b]?=some c)(t:c ≠ .dead)(C:G.blk[b]?=some (m,j))(I:w.heap[m]?=some o)
  (J:zU G w.heap i g.toList) (l:yE g p):Stp G mu w G (mu.set b (.md i)) { w with heap:=w.heap.setIfInBounds m (.map g p) }:=by
 grind [zw,sR,Jw,Jx,gk]
theorem gl{l:Nat}(o:yE ce l)(i:Nat)(f:wg->wg)(hf:∀ e,(f e).born=e.born):yE (ce.modify i f) l:=by
 have key:∀(k:Nat) (e:wg),(ce.modify i f)[k]?=some e->∃ g,ce[k]?=some g/\g.born=e.born:=by
  grind
 refine⟨fun k e h=>?_,fun j k e p r t T=>?_⟩
 .obtain ⟨g,C,I⟩:=key k e h
  rw[<-I];exact o.1 k g C
 .obtain ⟨J,g1,U⟩:=key j e r
  obtain⟨P,R,g4⟩:=key k p t;exact o.2 j k J P g1 R zOm
theorem gp{i:Nat}(g:yE ce i)(x:wg)(I:x.born=i):yE (ce.push x) (i+1):=by
 have key:∀(k:Nat) (e:wg),(ce.push x)[k]?=some e->(k=ce.size/\e=x)\/ce[k]?=some e:=by
  grind
 refine⟨fun k e h=>?_,fun j k e l r t C=>?_⟩
 .rcases key k e h with ⟨_,rfl⟩|h
  .omega
  .have:=g.1 k e h;omega
 .rcases key j e r with ⟨o,rfl⟩|o<;>rcases key k l t with ⟨p,rfl⟩|p
  .omega
  .have:=g.1 k l p;omega
  .have:=g.1 j e o;omega
  .exact g.2 j k e l o p C
theorem gt{l:Nat}(o:yE ce l)(i:Nat):yE (ce.eraseIdxIfInBounds i) l:=by
 have key:∀ k:Nat,∃ j:Nat,(ce.eraseIdxIfInBounds i)[k]?=ce[j]?/\j=if k<i then k else if i<ce.size then k+1 else k:=by
  grind
 refine⟨fun k e h=>?_,fun j k e t p r C=>?_⟩
 .obtain ⟨j,g,_⟩:=key k
  rw[g]at h;exact o.1 j e h
 .obtain ⟨I,g,R⟩:=key j
  obtain⟨J,P,T⟩:=key k;rw[g]at p;rw[P]at r;have:=o.2 I J e t p r C
  grind
theorem gu(j:zU G h es ce.toList){i:Nat}(t:i<es.length):zU G h (es.eraseIdx i) (ce.eraseIdxIfInBounds i).toList:=by
 have o:ce.size=es.length:=by simpa using j.1
 have e:(ce.eraseIdxIfInBounds i).toList=ce.toList.eraseIdx i:=by
  simp_all
 rw[e];refine⟨by simp[List.length_eraseIdx,o],fun k x g=>?_⟩;rw[List.getElem?_eraseIdx]at g;by_cases l:k<i
 .rw [if_pos l]at g
  obtain⟨c,p,r⟩:=j.2 k x g
  grind
 .rw [if_neg l]at g
  obtain⟨c,p,r⟩:=j.2 (k+1) x g
  grind
@[go_sem] def uh(P:qf)(mu:Mu)(t:j1)(m k v:AV):Option Mu:=
 match m,mapT P t with
 | .mp b,some (g,_)=>match mu[b]? with
  |some (.mp i)=>if ym P g k=true then (qL P g k i 0).map fun r=>mu.set b (.mp (Wo i r k v)) else none
  |some (.md i)=>if ym P g k=true then (qL P g k i 0).map fun r=>mu.set b (.md (Wo i r k v)) else none
  |_=>none
 |_,_=>none
theorem JA{o n:j3}(h:Instr.sameBits 10000 o n=true):(Instr.keyThatStays o n).run P w = .ok n w:=by
 simp[Instr.keyThatStays,h]
theorem Wr(s:Sim G mu w.heap){t:j1}{m k v:AV}{vm vk vv:j3}(rm:VRel G w.heap m vm)(rk:VRel G w.heap k vk)(rv:VRel G w.heap v vv)(h:uh P mu t m k v=some p) :
  ∃ w',(Instr.mapUpdate t vm vk vv).run P w = .ok () w'/\Stp G mu w G p w':=by
 unfold uh at h;split at h
 .rename_i b kt et ht
  have hu:=ug ht;split at h
  .rename_i es hm
   split at h
   .rename_i I
    obtain⟨mb,a4,ce,rfl,hb,J,R,g⟩:=ZC s rm hm;have T:(Instr.checkKey false 10000 kt vk).run P w = .ok () w:=w9 false rk I;have hg:=jS (P:=P) J;have a5:ce.size=es.length:=by simpa using R.1
    cases hf:qL P kt k es 0 with
    |none=>simp[hf]at h
    |some r =>
     simp only[hf,qU,qj]at h;subst h;obtain⟨j,a0⟩:=vQ rk I R hf;cases r with
     |none =>
      have l:=Jy R rk rv ce.size;have o:=Wq g { key:=vk,val:=vv,born:=ce.size } rfl;refine⟨_,?_,sJ s hm hb J l o⟩;simp only[Option.map_none]at j;simp[Instr.mapUpdate,run_underlying hu,hg,T,j,vo J]
     |some i =>
      obtain⟨_,e,he,U⟩:=Jv es 0 i hf;rw[Nat.sub_zero]at he;obtain⟨c,hc,a1,a6⟩:=R.2 i e he;have a2:ce[i]?=some c:=zUs hc;have C:=Ju rk a1 U;have l:=Wp R (a0 i rfl) rk rv;have o:=Jz g i (fun e=>{ e with key:=vk,val:=vv }) (fun _=>rfl);refine⟨_,?_,sJ s hm hb J l o⟩;simp only[qU]at j;simp[Instr.mapUpdate,run_underlying hu,hg,T,j,a2,JA C,vo J]
   grind
  .rename_i es hm
   split at h
   .rename_i I
    obtain⟨mb,a4,ce,cl,rfl,hb,J,R,g⟩:=gj s rm hm;have T:(Instr.checkKey false 10000 kt vk).run P w = .ok () w:=w9 false rk I;have hg:=jS (P:=P) J;have a5:ce.size=es.length:=by simpa using R.1
    cases hf:qL P kt k es 0 with
    |none=>simp[hf]at h
    |some r =>
     simp only[hf,qU,qj]at h;subst h;obtain⟨j,a0⟩:=vQ rk I R hf;cases r with
     |none =>
      have l:=Jy R rk rv cl;have o:=gp g { key:=vk,val:=vv,born:=cl } rfl;refine⟨_,?_,sL s hm zSp hb J l o⟩;simp only[Option.map_none]at j;simp[Instr.mapUpdate,run_underlying hu,hg,T,j,vo J]
     |some i =>
      obtain⟨_,e,he,U⟩:=Jv es 0 i hf;rw[Nat.sub_zero]at he;obtain⟨c,hc,a1,a6⟩:=R.2 i e he;have a2:ce[i]?=some c:=zUs hc;have C:=Ju rk a1 U;have l:=Wp R (a0 i rfl) rk rv;have o:=gl g i (fun e=>{ e with key:=vk,val:=vv }) (fun _=>rfl);refine⟨_,?_,sL s hm zSp hb J l o⟩;simp only[qU]at j;simp[Instr.mapUpdate,run_underlying hu,hg,T,j,a2,JA C,vo J]
   grind
  grind
 grind
@[go_sem] def ui(P:qf)(mu:Mu)(t:j1)(m k:AV):Option (AV×Mu):=
 match m,mapT P t with
 | .mp b,some (j,l)=>match mu[b]? with
  |some (.mp g)=>if ym P j k=true then
    match qL P j k g 0 with
    |some (some i)=>(g[i]?).map fun e=>(.tup [e.2,.sc (.int .i64 i)],mu.set b (.mp (g.set i (k,e.2))))
    |some none=>(qv P l).map fun z=>(.tup [z,.sc (.int .i64 g.length)],mu.set b (.mp (g++[(k,z)])))
    |none=>none
   else none
  |_=>none
 |_,_=>none
theorem gw(s:Sim G mu w.heap){t:j1}{m k z:AV}{vm T:j3}(rm:VRel G w.heap m vm)(U:VRel G w.heap k T)(h:ui P mu t m k=some (z,p)) :
  Good P G mu w (Instr.mapEntry t vm T) z p:=by
 unfold ui at h;split at h
 .rename_i b kt et ht
  have hu:=ug ht;split at h
  .rename_i es hm
   split at h
   .rename_i o
    obtain⟨mb,a9,ce,rfl,hb,hh,r,g⟩:=ZC s rm hm;have a0:(Instr.checkKey false 10000 kt T).run P w = .ok () w:=w9 false U o;have hg:=jS (P:=P) hh;have a2:ce.size=es.length:=by simpa using r.1
    split at h
    .rename_i i hf
     obtain⟨l,aa⟩:=vQ U o r hf;obtain⟨_,e,he,a1⟩:=Jv es 0 i hf;rw[Nat.sub_zero]at he;rw[he]at h;simp only[qU,qj,jO]at h;obtain⟨rfl,rfl⟩:=h;obtain⟨c,hc,a3,a4⟩:=r.2 i e he;have C:ce[i]?=some c:=zUs hc;have I:=Ju U a3 a1;have a5:ce.getD i default=c:=by simp[qB,C]
     have J:zU G w.heap (es.set i (k,e.2)) (ce.modify i fun e=>{ e with key:=T }).toList:=by
      refine⟨by simpa using r.1,fun j x hx=>?_⟩;rcases yY hx with ⟨rfl,rfl⟩|⟨ab,hx⟩
      .grind
      .obtain ⟨e',ad,h1,h2⟩:=r.2 j x hx
       grind
     have R:=Jz g i (fun e=>{ e with key:=T }) (fun _=>rfl);have a6:c.born=i:=g i c C;have st:=sJ s hm hb hh J R;refine⟨.tuple #[c.val,.int .i64 i],_,G,?_,st,tup2 (st.vrel s a4) (.sc _ rfl)⟩;simp only[qU,a5]at l;simp[Instr.mapEntry,run_underlying hu,hg,a0,l,C,JA I,vo hh,goInt,a6]
    .rename_i hf
     obtain⟨l,_⟩:=vQ U o r hf;cases hz:qv P et with
     |none=>simp[hz]at h
     |some z0 =>
      simp only[hz,qU,qj,jO]at h;obtain⟨rfl,rfl⟩:=h;obtain⟨zv,a7,rfl⟩:=ue hz w;have J:=Jy r U (VRel.ofV (G:=G) (h:=w.heap) zv) ce.size;have R:=Wq g { key:=T,val:=zv,born:=ce.size } rfl;have st:=sJ s hm hb hh J R;refine⟨.tuple #[zv,.int .i64 es.length],_,G,?_,st,tup2 (.ofV zv) (.sc _ rfl)⟩;simp only[Option.map_none]at l;simp[Instr.mapEntry,run_underlying hu,hg,a0,l,a7,vo hh,goInt,a2]
    grind
   grind
  grind
 grind
@[go_sem] def ZD(mu:Mu)(m g v:AV):Option Mu:=
 match m,g with
 | .mp b,.sc (.int _ i)=>match mu[b]? with
  |some (.mp j)=>if 0<=i then (j[i.toNat]?).map fun e=>mu.set b (.mp (j.set i.toNat (e.1,v))) else none
  |_=>none
 |_,_=>none
theorem gx(s:Sim G mu w.heap){t:j1}{m st v:AV}{vm vs o:j3}(rm:VRel G w.heap m vm)(rs:VRel G w.heap st vs)(rv:VRel G w.heap v o)(h:ZD mu m st v=some p) :
  ∃ w',(Instr.entryStore t vm vs o).run P w = .ok () w'/\Stp G mu w G p w':=by
 unfold ZD at h;split at h
 .rename_i b q i
  split at h
  .rename_i es hm
   split at h
   .rename_i a1
    cases r:es[i.toNat]? with
    |none=>simp[r]at h
    |some e =>
     simp only[r,qU,qj]at h;subst h;obtain⟨mb,a2,ce,rfl,hb,C,I,g⟩:=ZC s rm hm;cases rs;have hg:=jS (P:=P) C;obtain⟨c,hc,a3,a4⟩:=I.2 _ e r;have J:ce[i.toNat]?=some c:=zUs hc;have R:i.toNat<ce.size:=(zw.1 J).1;have l:ce.findIdx? (fun e=>(e.born:Int) == i)=some i.toNat:=by
      rw[Array.findIdx?_eq_some_iff_getElem];refine⟨R,?_,fun j hj=>?_⟩
      .grind
      .have:ce[j].born=j:=g j _ (by simp[show j<ce.size by omega])
       simp[this];omega
     have T:zU G w.heap (es.set i.toNat (e.1,v)) (ce.modify i.toNat fun e=>{ e with val:=o }).toList:=by
      refine⟨by simpa using I.1,fun j x U=>?_⟩;rcases yY U with ⟨rfl,rfl⟩|⟨a5,U⟩
      .grind
      .obtain ⟨e',a6,h1,h2⟩:=I.2 j x U
       grind
     have a0:=Jz g i.toNat (fun e=>{ e with val:=o }) (fun _=>rfl);refine⟨_,?_,sJ s hm hb C T a0⟩;simp[Instr.entryStore,hg,asInt,asIntOf,l,vo C]
   grind
  grind
 grind
theorem gy(s:Sim G mu w.heap){t:j1}:Good P G mu w (Instr.makeMap t none) (.mp mu.length) (mu++[.mp []]):=by
 have st:=sB s (.map #[] 0) (.mp []) 0 (fun _=>⟨#[],0,rfl,rfl,zSp,zSp,rfl,zSp⟩);refine⟨.map (some w.heap.size),_,_,?_,st,.mp _ w.heap.size 0 ?_⟩
 .simp [Instr.makeMap]
 .show (G.blk++[_])[mu.length]?=_
  rw[<-s.len];simp
@[go_sem] def ZE(P:qf)(mu:Mu)(t:j1)(m:AV):Option (AV×Mu):=
 match mapT P t,m with
 |some _,.im i=>some (.ptr mu.length 0,mu++[.it i []])
 |some _,.ims i=>some (.ptr mu.length 0,mu++[.it i []])
 |some _,.sc (.map none)=>some (.ptr mu.length 0,mu++[.it [] []])
 |_,_=>none
theorem gz(s:Sim G mu w.heap){t:j1}{m z:AV}{U:j3}(j:VRel G w.heap m U)(h:ZE P mu t m=some (z,p)):Good P G mu w (Instr.range t U) z p:=by
 unfold ZE at h;split at h
 .rename_i o i r
  obtain⟨kt,et⟩:=o;have C:=ug r;simp only[qj,jO]at h;obtain⟨rfl,rfl⟩:=h;have l:=j;cases j with
  |im _ g ce clock I J hn hk hv hd =>
  have st:=sB s (.mapIter (some g) clock #[] clock) (.it i []) 0 (fun h => .inl ⟨g,i,id,id,ce,clock,l,I,J,PIx.refl i,zSp,zSp⟩);refine⟨.pointer (some ⟨w.heap.size,0,none⟩),_,_,?_,st,.ptr _ 0 w.heap.size 0 ?_⟩
  .have R:=jS (P:=P) I
   simp[Instr.range,run_underlying C,R]
  .show (G.blk++[_])[mu.length]?=_
   rw[<-s.len];simp
 .rename_i o i r
  obtain⟨kt,et⟩:=o;have C:=ug r;simp only[qj,jO]at h;obtain⟨rfl,rfl⟩:=h;cases j with
  |ims _ T σ τ _ hp a0 j =>
  have l:=j;cases j with
  |im _ g ce clock I J hn hk hv hd =>
  have st:=sB s (.mapIter (some g) clock #[] clock) (.it i []) 0 (fun h => .inl ⟨g,T,σ,τ,ce,clock,l,I,J,hp,zSp,zSp⟩);refine⟨.pointer (some ⟨w.heap.size,0,none⟩),_,_,?_,st,.ptr _ 0 w.heap.size 0 ?_⟩
  .have R:=jS (P:=P) I
   simp[Instr.range,run_underlying C,R]
  .show (G.blk++[_])[mu.length]?=_
   rw[<-s.len];simp
 .rename_i o r
  obtain⟨kt,et⟩:=o;have C:=ug r;simp only[qj,jO]at h;obtain⟨rfl,rfl⟩:=h;cases j;have st:=sB s (.mapIter none 0 #[] 0) (.it [] []) 0 (fun _ => .inr ⟨rfl,rfl⟩);refine⟨.pointer (some ⟨w.heap.size,0,none⟩),_,_,?_,st,.ptr _ 0 w.heap.size 0 ?_⟩
  .simp [Instr.range,run_underlying C]
  .show (G.blk++[_])[mu.length]?=_
   rw[<-s.len];simp
 grind
def JD(mu:Mu)(j:AV)(K:AV->Mu->Prop):Prop:=
 ∃ b g seen,j = .ptr b 0/\mu[b]?=some (.it g seen) /\
  (∀(i:Nat) e,g[i]?=some e->i ∉ seen->K (.tup [.sc (.bool true),e.1,e.2]) (mu.set b (.it g (seen++[i])))) /\
  ((∀ i,i<g.length->i∈seen)->K (.tup [.sc (.bool false)]) mu)
theorem tup1{y:AV}{u:j3}(i:VRel G h y u):VRel G h (.tup [y]) (.tuple #[u]):=by
 refine .tup _ _ rfl (fun k c g=>?_);cases k with
 |zero=>simp at g;subst g;exact i
 |succ k=>simp at g
theorem tup3{x y z:AV}{t u v:j3}(i:VRel G h x t)(j:VRel G h y u)(l:VRel G h z v):VRel G h (.tup [x,y,z]) (.tuple #[t,u,v]):=by
 refine .tup _ _ rfl (fun k c g=>?_)
 match k,g with
 | 0,g=>simp at g;subst g;exact i
 | 1,g=>simp at g;subst g;exact j
 | 2,g=>simp at g;subst g;exact l
 |k+3,g=>simp at g
theorem gA(s:Sim G mu w.heap){al:AV}{vi:j3}{ty:j1}(ri:VRel G w.heap al vi){K:AV->Mu->Prop}(h:JD mu al K) :
  ∃ z p,K z p/\Good P G mu w (Instr.next vi false ty) z p:=by
 obtain⟨b,es,seen,rfl,hm,h1,h2⟩:=h;cases ri with
 |ptr _ _ r an hb =>
 obtain⟨o,ho,af⟩:=s.obj b _ r an hm zSp hb;have b1:r<w.heap.size:=(zw.1 ho).1;rcases af with ⟨m,a0,σ,τ,g,l,rm,a5,hi,I,a1,rfl⟩|⟨rfl,rfl⟩
 .cases rm with
  |im _ _ ce clock aa a6 ao hk hv hd =>
  rw[a5]at aa;obtain⟨rfl,rfl⟩:g=ce/\l=clock:=zUs aa;have hn:g.size=es.length:=by rw[ao];exact I.1
  have aq:∀ j,j<es.length->g[j]?=some (g.getD j default):=fun j hj=>by
   simp_all
  generalize ar:(seen.map fun i=>(g.getD (σ i) default).born)=sn at ho;have ab:∀ j,j<es.length->((g.getD j default).born∈sn↔τ j∈seen):=by
   intro j hj;rw[<-ar,qs];constructor
   .rintro ⟨i,a6,b2⟩
    have h1:=I.2 i (a1 i a6);have:=hd.2 _ _ _ _ (aq _ h1.1) (aq j hj) b2
    grind
   .intro b3
    exact⟨τ j,b3,by simp only[(I.2 j hj).2.2.2.1]⟩
  have a2:(getObj r).run P w = .ok (.mapIter (some m) l sn.toArray l) w:=by simp[getObj,Sem.run,ho]
  have ag:=jS (P:=P) a5;have J:(!sn.toArray.isEmpty&&!g.isEmpty&&g.all fun e=>decide (e.born>=l))=false:=by
   by_cases b9:g.size=0
   .grind
   .have:(g.all fun e=>decide (e.born>=l))=false:=by
     cases hq:(g.all fun e=>decide (e.born>=l)) with
     |false=>rfl
     |true =>
      have h0:g[0]?=some (g[0]' zOm):=by simp[show 0<g.size by omega]
      have:=(Array.all_eq_true'.1 hq) _ (Array.mem_of_getElem? h0);have bb:=hd.1 0 _ h0
      grind
    rw[this];simp
  have au:∀(a:Array wg),(∀ e,e∈a->e∈g)->(a.filter fun e=>decide (e.born<l))=a/\(a.filter fun e=>decide (e.born>=l))=#[]:=by
   intro a ha;have hb:∀ e,e∈a->e.born<l:=by
    intro e he;obtain⟨k,hk⟩:=Array.mem_iff_getElem?.1 (ha e he);exact hd.1 k e hk
   simp_all
  obtain⟨ah,ai⟩:=au (g.filter fun e=>!sn.toArray.contains e.born) (fun e he=>(Array.mem_filter.1 he).1);generalize C:(g.filter fun e=>!sn.toArray.contains e.born)=left at ah ai;have U:∀ e,e∈left->∃(k:Nat) (x:AV×AV),es[k]?=some x/\k ∉ seen/\e.born=(g.getD (σ k) default).born/\VRel G w.heap x.1 e.key/\VRel G w.heap x.2 e.val:=by
   intro e he;rw[<-C,Array.mem_filter]at he;obtain⟨k,av⟩:=Array.mem_iff_getElem?.1 he.1;have a7:k<g.size:=(zw.1 av).1;have a3:k<es.length:=zOm;have hx:a0[k]?=some (a0[k]' zOm):=by simp[show k<a0.length by omega]
   have a8:g.getD k default=e:=by simp[qB,av]
   refine⟨τ k,_,by rw[<-I.back a3];exact hx,?_,by rw[(I.2 k a3).2.2.2.1,a8],by have:=hk k _ hx;rwa[a8]at this,by have:=hv k _ hx;rwa[a8]at this⟩;intro hs;have:=he.2;have h3:=(ab k a3).2 hs;rw[a8]at h3;simp[h3]at this
  by_cases a4:left=#[]
  ·
   have aw:∀ i,i<es.length->i∈seen:=by
    intro i hi;refine Classical.byContradiction fun aj=>?_
    obtain⟨q1,q2,q3,q4,q5⟩:=I.2 i hi;have a6:σ i<g.size:=zOm;have:g[σ i]∈left:=by
     rw[<-C,Array.mem_filter];refine⟨zSp,?_⟩;have h4:g.getD (σ i) default=g[σ i]:=by simp[qB,a6]
     have h3:g[σ i].born ∉ sn:=fun h=>aj (by rw[<-h4]at h;have:=(ab _ q1).1 h;rwa[q3]at this)
     simp[h3]
    rw[a4]at this;simp at this
   refine⟨_,_,h2 aw,?_⟩;refine sX s (v := .tuple #[.bool false]) ?_ (tup1 (.sc _ rfl));simp only[Instr.next,qz,a2,qA,ag,J,Bool.false_eq_true,if_false,C,a4];simp[Question.forced]
  .have R:0<left.size:=by
    rcases Nat.eq_zero_or_pos left.size with h|h
    .exact absurd (Array.eq_empty_of_size_eq_zero h) a4
    .exact h
   have ax:left.isEmpty=false:=by simp[Array.isEmpty];omega
   have ad:∀(n:Nat) (h:n<left.size),left[n]?=some left[n]:=fun n h=>zP1 h
   have key:∀(n:Nat) (T:j2) (b4:n<left.size),T.heap=w.heap->Stp G mu w G mu T->∃ z p,K z p/\∃ v w' G',((do
     setObj r (.mapIter (some m) l (sn.toArray.push left[n].born) l)
     pure (.tuple #[.bool true,left[n].key,left[n].val]):Sem j3)).run P T = .ok v w'/\Stp G mu w G' p w'/\VRel G' w'.heap z v:=by
    intro n T b4 a9 ak;obtain⟨k,x,hx,aj,b5,r1,r2⟩:=U left[n] zSp;have b6:T.heap[r]?=some (.mapIter (some m) l sn.toArray l):=by rw[a9];exact ho
    have ay:r<T.heap.size:=by rw[a9];exact b1
    have b7:VRel G T.heap (.im a0) (.map (some m)):=by rw[a9];exact .im _ m g _ a5 hi ao hk hv hd
    have a3:k<es.length:=(qn.1 hx).1;have st:=sR ak.sim b (.it es seen) (.it es (seen++[k])) r an (.mapIter (some m) l (sn++[(g.getD (σ k) default).born]).toArray l) hm zSp zSp hb (w':={ T with heap:=T.heap.setIfInBounds r (.mapIter (some m) l (sn++[(g.getD (σ k) default).born]).toArray l) }) zSp
     (Jw T r _ ay) (fun j hj=>Jx T r j _ hj) rfl rfl rfl (.inl ⟨m,a0,σ,τ,g,l,b7,by rw[a9];exact a5,hi,I,fun i hi=>by
      rcases List.mem_append.1 hi with h|h
      .exact a1 i h
      .simp at h;subst h;exact a3,by rw[yv,ar,List.map_singleton]⟩)
    have az:(setObj r (.mapIter (some m) l (sn.toArray.push left[n].born) l)).run P T = .ok () { T with heap:=T.heap.setIfInBounds r (.mapIter (some m) l (sn++[(g.getD (σ k) default).born]).toArray l) }:=by
     simp[setObj,Sem.run,b6,b5]
    refine⟨_,_,h1 k x hx aj,.tuple #[.bool true,left[n].key,left[n].val],_,G,?_,ak.trans s st,?_⟩
    .simp only[qz,az,qA,qW]
    .have t:=ak.trans s st
     exact tup3 (.sc _ rfl) (t.vrel s r1) (t.vrel s r2)
   have b8:∀(z:AV) (p:Mu),True:=fun _ _=>trivial
   by_cases ae:left.size<=1
   .obtain ⟨z,p,a7,v,w',G',g1,g2,g3⟩:=key 0 w R rfl (Stp.refl s)
    refine⟨z,p,a7,v,w',G',?_,g2,g3⟩;rw[<-g1];simp only[Instr.next,qz,a2,qA,ag,J,Bool.false_eq_true,if_false,C,ah,ai,ax];simp[Question.forced,ae,ad 0 R]
   .obtain ⟨z,p,a7,v,w',G',g1,g2,g3⟩:=key (w.tape w.drawn (.mapNext left.size) % left.size) w.drew (Nat.mod_lt _ R) rfl (Stp.drew s)
    refine⟨z,p,a7,v,w',G',?_,g2,g3⟩;rw[<-g1];simp only[Instr.next,qz,a2,qA,ag,J,Bool.false_eq_true,if_false,C,ah,ai,ax];have b0:=Nat.mod_lt (w.tape w.drawn (.mapNext left.size)) R;simp[Question.forced,Question.cut,ae,ad _ b0]
 .have a2:(getObj r).run P w = .ok (.mapIter none 0 #[] 0) w:=by simp[getObj,Sem.run,ho]
  refine⟨_,_,h2 (fun i hi=>by simp at hi),sX s (v := .tuple #[.bool false]) ?_ (tup1 (.sc _ rfl))⟩;simp[Instr.next,a2]
@[go_sem] def uj(mu:Mu)(g:AV):Option AV:=
 match g with
 | .ptr b 0=>match mu[b]? with
  |some (.it j seen)=>match seen.getLast? with
   |some i=>(j[i]?).map fun e => .tup [e.1,e.2]
   |none=>none
  |_=>none
 |_=>none
theorem gB(s:Sim G mu w.heap){J z:AV}{vi:j3}(ri:VRel G w.heap J vi)(h:uj mu J=some z) :
  ∃ u,(Instr.entry vi).run P w = .ok u w/\VRel G w.heap z u:=by
 unfold uj at h;split at h
 .rename_i b
  split at h
  .rename_i es seen hm
   split at h
   .rename_i i hi
    cases R:es[i]? with
    |none=>simp[R]at h
    |some x =>
     simp only[R,qU,qj]at h;subst h;cases ri with
     |ptr _ _ T a2 hb =>
     obtain⟨o,ho,r⟩:=s.obj b _ T a2 hm zSp hb;rcases r with ⟨m,a3,U,τ,g,t,rm,a0,aa,a1,a4,rfl⟩|⟨rfl,rfl⟩
     .cases rm with
      |im _ _ ce clock p a5 a6 hk hv hd =>
      rw[a0]at p;obtain⟨rfl,rfl⟩:g=ce/\t=clock:=zUs p;have hn:g.size=es.length:=by rw[a6];exact a1.1
      obtain⟨q1,q2,q3,q4,q5⟩:=a1.2 i (qn.1 R).1;have C:a3[U i]?=some x:=by rw[q5];exact R
      have l:(seen.map fun i=>(g.getD (U i) default).born).toArray.back?=some ((g.getD (U i) default).born):=zP1 hi;generalize (seen.map fun i=>(g.getD (U i) default).born)=sn at ho l;generalize U i=i at C l q1;have ab:(getObj T).run P w = .ok (.mapIter (some m) t sn.toArray t) w:=by simp[getObj,Sem.run,ho]
      have ad:=jS (P:=P) a0;have I:i<g.size:=zOm;have a7:g.getD i default=g[i]:=by simp[qB,I]
      rw[a7]at l;have a8:g.find? (fun e=>e.born == g[i].born)=some g[i]:=by
       rw[Array.find?_eq_some_iff_getElem];refine⟨zSp,i,I,rfl,fun j hj=>?_⟩;have a9:j<g.size:=zOm;have:g[j].born≠g[i].born:=fun h=>by
        have:=hd.2 j i _ _ (zP1 a9) (zP1 I) h;omega
       simp[this]
      have r1:=hk i x C;have r2:=hv i x C;simp_all[Instr.entry,tup2]
     .simp at R
   grind
  grind
 grind
end
end Go.Ev
namespace Go.Ev
open Go Go.RowKit
section
variable {mu:Mu}{w:j2}
theorem gC{P:qf}{G:Gh}(s:Sim G mu w.heap){x:AV}{v:j3}{ys:List (List AV)}{sz:Nat}(r:VRel G w.heap x v)(h:qE mu x=some ys)(hz:za sz ys)(n:Nat)(hn:n<=ys.length) :
  ∃(news:List j3),news.length=n*sz/\(∀ u∈news,u.oneCell'=true)/\(∀(k:Nat) y,(ys.take n).flatten[k]?=some y->VRel G w.heap y (news.getD k vd)) /\
   (Builtin.lenOf v).run P w = .ok ys.length w/\(Builtin.firstCells sz n v).run P w = .ok news.toArray w:=by
 have l:za sz (ys.take n):=fun r hr=>hz r (jg hr)
 have a2:(ys.take n).flatten.length=n*sz:=by rw[z2 l.ok];simp[Nat.min_eq_left hn]
 have o:∀(k:Nat) y,(ys.take n).flatten[k]?=some y->ys.flatten[k]?=some y:=by
  grind [List.flatten_append,uN,qT,qn]
 have fin:∀(a:Addr) (cap:Nat) (rd:Nat->j3),(∀(k:Nat) y,ys.flatten[k]?=some y->w.cell? (a.add k)=some (rd k)/\VRel G w.heap y (rd k))->v = .slice (some a) ys.length cap ->
   ∃(news:List j3),news.length=n*sz/\(∀ u∈news,u.oneCell'=true)/\(∀(k:Nat) y,(ys.take n).flatten[k]?=some y->VRel G w.heap y (news.getD k vd)) /\
   (Builtin.lenOf v).run P w = .ok ys.length w/\(Builtin.firstCells sz n v).run P w = .ok news.toArray w:=by
  intro a cap rd R T;subst T;have p:∀ k,k<n*sz->∃ y,(ys.take n).flatten[k]?=some y:=fun k hk=>⟨(ys.take n).flatten[k]' zOm,zSp⟩
  refine⟨(qm (n*sz)).map rd,zSp,?_,?_,by simp[Builtin.lenOf],?_⟩
  .intro u hu
   obtain⟨k,hk,rfl⟩:=qs.1 hu;obtain⟨y,i⟩:=p k (zUs hk);exact(R k y (o k y i)).2.one (l.one y (qY i))
  .grind
  grind [Builtin.firstCells,run_loadCells]
 unfold qE at h;split at h
 .rename_i full J
  simp only[qj]at h;subst h;cases r with
  |nil =>
   simp_all[List.length_nil,Nat.le_zero,Builtin.lenOf,Builtin.firstCells]
  |emp _ a cap U=>simp_all
  |lst _ _ g a cap cs e fr rd hb hs hl U hi a4 hr T =>
   exact fin a cap rd (fun k y i=>⟨by grind [uf],T k y i⟩) rfl
 .rename_i b g off len
  split at h
  .rename_i cells U
   split at h
   .rename_i a5
    simp only[qj]at h;cases r with
    |sl _ _ _ _ j a0 cap hb ht hl =>
    obtain⟨arr,e,h1,h2,h3,h4⟩:=s.arr b cells j a0 U hb;have t:ys.length=len:=by rw[<-h];simp
    subst t;by_cases h0:ys.length=0
    .simp_all
    .have C:g=sz:=by
      have I:0<ys.length:=zOm;have hm:(cells.drop (off+0*g)).take g∈ys:=by
       rw[<-h];exact qs.2 ⟨0,zUs I,rfl⟩
      have:=(hz _ hm).1;have a3:g<=ys.length*g:=Nat.le_mul_of_pos_left _ I;simp at this;omega
     subst C;have a1:ys.flatten=(cells.drop off).take (ys.length*g):=by
      grind [Jp,List.drop_drop]
     refine fin ⟨j,off,none⟩ cap (fun k=>arr.getD (off+k) vd) (fun k y i=>?_) rfl;rw[a1,z8]at i;split at i
     .rw [js]at i
      refine⟨?_,(h4 _ y i).2⟩;rw[uf (a:=⟨j,off,none⟩) h1 rfl];have a6:off+k<cells.length:=(qn.1 i).1;have:off+k<arr.size:=zOm;simp[qB,this]
     grind
   grind
  grind
 grind
theorem sQ{G:Gh}(s:Sim G mu w.heap){b off g i:Nat}{cells xs:List AV}{arr:Array j3}{e:j1}{news:List j3}(t:mu[b]?=some (.arr cells))(C:G.blk[b]?=some (g,i))
  (I:w.heap[g]?=some (.cells arr e (0,0))) (T:arr.size=i) (U:cells.length<=i) (h4:∀(j:Nat) x,cells[j]?=some x->x.one=true/\VRel G w.heap x (arr.getD j vd))
  (l:off+xs.length<=cells.length) (hn:news.length=xs.length) (p:∀ x,x∈xs->x.one=true) (hx:∀(k:Nat) x,xs[k]?=some x->VRel G w.heap x (news.getD k vd)) :
  Stp G mu w G (mu.set b (.arr (qH cells off xs))) (w.setRow g (arr.toList.take off++news++arr.toList.drop (off+news.length)).toArray):=by
 refine sR s b (.arr cells) _ g i (.cells (arr.toList.take off++news++arr.toList.drop (off+news.length)).toArray e (0,0)) t zSp zSp C zSp (setRow_heap w g arr _ e _ I)
  (fun k J=>setRow_other w g k _ J) rfl rfl rfl ?_
 refine⟨_,e,rfl,zSo,by grind [y0],?_⟩;intro j y r;rw[y0 _ _ _ l,zJ]at r;rw[Jo,qS,zJ];have P:(arr.toList.take off).length=off:=zSo;have R:(cells.take off).length=off:=zSo;by_cases o:j<off
 .rw [zGa,z8,if_pos o]at r
  rw[zGa,z8,if_pos o,vK,<-qB]
  grind
 grind [zo,qT,qY,qB]
def delE(es:List (AV×AV)):Option Nat->List (AV×AV)
 |some i=>es.eraseIdx i
 |none=>es
inductive ExtB (P:qf) (mu:Mu):Builtin->Array j1->List AV->AV->Mu->Prop where
 |copy {t t' e:j1} {sz sz0 bt b off len:Nat} {cells:List AV} {ys:List (List AV)} {x:AV} (hs:qy P t=some (e,sz,bt)) (hc:mu[b]?=some (.arr cells)) (hl:off+len*sz<=cells.length)
   (hr:qE mu x=some ys) (hw:za sz ys) :
   ExtB P mu .copy #[t,t'] [.sl b sz0 off len,x] (.sc (.int .i64 ((min ys.length len:Nat):Int))) (mu.set b (.arr (qH cells off (ys.take len).flatten)))
 |clear {t e:j1} {sz bt b off len:Nat} {cells:List AV} {zv:AV} (hs:qy P t=some (e,sz,bt)) (hz:qv P e=some zv) (hz1:zv.cells.length=sz) (hz2:zv.cells.all AV.one=true) (hz0:sz≠0) (hc:mu[b]?=some (.arr cells)) (hl:off+len*sz<=cells.length) (hp:0<len) :
   ExtB P mu .clear #[t] [.sl b sz off len] (.tup []) (mu.set b (.arr (qH cells off ((qm (len*sz)).map fun i=>zv.cells.getD (i % sz) .any))))
 |delete {t t' kt et:j1} {b:Nat} {es:List (AV×AV)} {k:AV} {r:Option Nat} (ht:mapT P t=some (kt,et)) (hc:mu[b]?=some (.mp es)) (hk:ym P kt k=true) (hf:qL P kt k es 0=some r) :
   ExtB P mu .delete #[t,t'] [.mp b,k] (.tup []) (mu.set b (.md (delE es r)))
theorem gD{P:qf}{G:Gh}{p:Mu}(s:Sim G mu w.heap){b:Builtin}{a6:Array j1}{ty:j1}{cs:Array Bool}{args:List AV}{vs:Array j3}{z:AV}
  (hn:vs.size=args.length) (hr:∀(k:Nat) x,args[k]?=some x->VRel G w.heap x (vs.getD k vd)) (h:ExtB P mu b a6 args z p) :
  ∃ u w',(builtin b a6 ty cs vs).run P w = .ok (.value u) w'/\Stp G mu w G p w'/\VRel G w'.heap z u:=by
 cases h with
 | @copy t t' e j b0 bt b off len cells o x hs T hl ah hw =>
  have r0:=hr 0 _ rfl;have r1:=hr 1 _ rfl;have C:vs=#[vs.getD 0 vd,vs.getD 1 vd]:=by
   have U:vs.size=2:=zUs hn;apply Array.ext
   .simpa using U
   .intro i hi ai
    have:i=0\/i=1:=zOm;rcases this with rfl|rfl<;>simp[qB,hi]
  generalize vs.getD 0 vd=u0 at *
  generalize vs.getD 1 vd=u1 at *
  subst C;obtain⟨aj,hu,a7,ak,al⟩:=ji hs;have b1:szOf P e=some j:=by grind [szOf]
  obtain⟨g,a8,a2,a9,av,aw⟩:=gC (P:=P) s r1 ah hw (min o.length len) (Nat.min_le_left _ _);have a3:o.take (min o.length len)=o.take len:=by
   rcases Nat.le_total o.length len with h|h
   .grind
   .rw [Nat.min_eq_right h]
  rw[a3]at a9;have aa:za j (o.take len):=fun r hr=>hw r (jg hr)
  have ax:(o.take len).flatten.length=min o.length len*j:=by
   rw[z2 aa.ok,vM,Nat.min_comm]
  cases r0 with
  |sl _ _ _ _ I a0 cap hb ht an =>
   obtain⟨arr,el,h1,U,h3,h4⟩:=s.arr b cells I a0 T hb;have b2:min o.length len*j<=len*j:=Nat.mul_le_mul_right _ (Nat.min_le_right _ _);have st:=sQ s (off:=off) (xs:=(o.take len).flatten) (news:=g) T hb h1 U h3 h4 zOm zOm aa.one a9;have R:=run_storeCells_at P I off el g 0 arr w h1 zOm a2;simp only[Nat.add_zero]at R;refine⟨_,_,?_,st,.sc _ rfl⟩;have ay:Nat.min o.length len=min o.length len:=rfl;simp only[builtin,Builtin.copy_,qz,qW,goInt];simp_all[ju,Zp,vh,run_underlying,z9]
 | @clear t e j bt b off len cells zv hs hz ao b3 b4 T hl hp =>
  have r0:=hr 0 _ rfl;have C:vs=#[vs.getD 0 vd]:=by
   have U:vs.size=1:=zUs hn;apply Array.ext
   .simpa using U
   simp_all
  generalize vs.getD 0 vd=u0 at *
  subst C;obtain⟨aj,hu,a7,ak,al⟩:=ji hs;obtain⟨z,b5,rfl⟩:=ue hz w;have ab:∀ c,c∈(ofV z).cells->c.one=true:=fun c T=>by grind
  obtain⟨c1,c2,c3⟩:=(VRel.ofV (G:=G) (h:=w.heap) z).cells ab;have aq:z.cells.size=j:=by rw[c1,ao]
  have a8:(ze z.cells len).toList.length=len*j:=by simp[ze,aq]
  have az:∀ i:Nat,i % j<j:=fun i=>Nat.mod_lt i zOm
  have ad:∀ i,i<len*j->(ze z.cells len).toList.getD i vd=z.cells.getD (i % j) vd:=by
   simp_all[ze,qS,qB,getElem!_pos,UR]
  cases r0 with
  |sl _ _ _ _ I a0 cap hb ht an =>
   obtain⟨arr,el,h1,U,h3,h4⟩:=s.arr b cells I a0 T hb;have a2:∀ v,v∈(ze z.cells len).toList->v.oneCell'=true:=by
    intro v hv;obtain⟨i,hi⟩:=List.mem_iff_getElem?.1 hv;have ar:i<len*j:=by grind
    have:=ad i ar;rw[qS,hi]at this;simp only[Option.getD_some]at this;simp_all
   have b6:∀(k:Nat) x,((qm (len*j)).map fun i=>(ofV z).cells.getD (i % j) .any)[k]?=some x->k<len*j/\(ofV z).cells[k % j]?=some x:=by
    grind
   have st:=sQ s (off:=off) (xs:=(qm (len*j)).map fun i=>(ofV z).cells.getD (i % j) .any) (news:=(ze z.cells len).toList) T hb h1 U h3 h4 (zUs hl) (by rw[a8];simp)
    (fun x hx=>by
     grind)
    (fun k x hx=>by
     grind)
   have R:=run_storeCells_at P I off el (ze z.cells len).toList 0 arr w h1 zOm a2;simp only[Nat.add_zero]at R;refine⟨_,_,?_,st,.tup [] #[] rfl zSp⟩;obtain⟨l,rfl⟩:∃ l,len=l+1:=⟨len-1,zOm⟩;simp_all[builtin,Builtin.clear_,qz,ju,Zp,run_underlying]
 | @delete t t' kt et b es k r ht T ae hf =>
  have r0:=hr 0 _ rfl;have r1:=hr 1 _ rfl;have C:vs=#[vs.getD 0 vd,vs.getD 1 vd]:=by
   have U:vs.size=2:=zUs hn;apply Array.ext
   .simpa using U
   .intro i hi ai
    have:i=0\/i=1:=zOm;rcases this with rfl|rfl<;>simp[qB,hi]
  generalize vs.getD 0 vd=u0 at *
  generalize vs.getD 1 vd=u1 at *
  subst C;have hu:=ug ht;obtain⟨mb,a0,ce,rfl,hb,hh,a4,a5⟩:=ZC s r0 T;have af:(Instr.checkKey ce.isEmpty 10000 kt u1).run P w = .ok () w:=w9 _ r1 ae;have hg:=jS (P:=P) hh;obtain⟨a1,au⟩:=vQ r1 ae a4 hf;have ag:yE ce ce.size := .of rfl a5;cases r with
  |none =>
   refine⟨_,_,?_,sL s T zSp hb hh a4 ag,.tup [] #[] rfl zSp⟩;simp only[Option.map_none]at a1;simp[builtin,Builtin.delete_,run_underlying hu,hg,af,a1,vo hh]
  |some i =>
   refine⟨_,_,?_,sL s T zSp hb hh (gu a4 (au i rfl)) (gt ag i),.tup [] #[] rfl zSp⟩;simp only[qU]at a1;simp[builtin,Builtin.delete_,run_underlying hu,hg,af,a1,vo hh]
end
end Go.Ev
namespace Go.Ev
open Go Go.RowKit
section
variable {P:qf}
theorem Ws{g:j1}{k:AV}{x:AV×AV}:∀{es:List (AV×AV)} {i:Nat} {r:Option Nat},qL P g k es i=some r->(r.isSome=true->qL P g k (es++[x]) i=some r)/\(r=none->qL P g k (es++[x]) i=qL P g k [x] (i+es.length))
 | [],i,r,h=>by
  grind [qL]
 |e :: es,i,r,h=>by
  unfold qL at h;split at h
  .rename_i j
   simp only[qj]at h;subst h;refine⟨fun _=>?_,fun h=>absurd h zSp⟩;rw[yS,qL,j]
  .rename_i j
   obtain⟨o,p⟩:=Ws (x:=x) h;refine⟨fun l=>?_,fun l=>?_⟩
   .rw [yS,qL,j];exact o l
   .rw [yS,qL,j]
    simp only;rw[p l,zZ];congr 1;omega
  .exact absurd h zSp
theorem Wt{mu p:Mu}{t:j1}{m k z o R v:AV}(h:ui P mu t m k=some (z,p))(l:yn P mu t o R false=some v):yn P p t o R false=some v:=by
 unfold ui at h;split at h
 .rename_i b kt et ht
  split at h
  .rename_i g hm
   split at h
   .rename_i T
    split at h
    ·
     rename_i i hf;obtain⟨_,e,he,U⟩:=Qa hf;simp only[Nat.sub_zero]at he;simp only[he,qU,qj,jO]at h;have e1:g.set i (k,e.2)=g:=by
      rw[U];apply zT
      grind
     rw[e1]at h;have e2:mu.set b (.mp g)=mu:=by
      apply zT
      grind
     grind
    .rename_i hf
     cases hz:qv P et with
     |none=>simp[hz]at h
     |some J =>
      simp only[hz,qU,qj,jO]at h;obtain⟨_,rfl⟩:=h;have a0:b<mu.length:=(qn.1 hm).1;unfold yn at l⊢;rw[ht]at l⊢
      have key:jj (mu.set b (.mp (g++[(k,J)]))) o=jj mu o\/(jj mu o=some g/\jj (mu.set b (.mp (g++[(k,J)]))) o=some (g++[(k,J)])):=by
       unfold jj;split
       .exact .inl rfl
       .rename_i b'
        by_cases C:b=b'
        .grind
        grind
       .exact .inl rfl
       .exact .inl rfl
      rcases key with key|⟨k1,k2⟩
      .grind
      .rw [k1]at l
       rw[k2];simp only at l⊢;split at l
       .rename_i j
        rw[if_pos j];cases I:qL P kt R g 0 with
        |none=>grind
        |some r =>
         rw[I]at l;obtain⟨a1,a2⟩:=Ws (x:=(k,J)) I;cases r with
         |some i =>
          rw[a1 rfl]
          grind
         |none =>
          rw[a2 rfl];simp only[hz,qU]at l;obtain⟨bb,C⟩:=Wl j T;rw[qL,C];cases bb with
          |true =>
           grind
          |false =>
           grind [qL]
       grind
    grind
   grind
  grind
 grind
theorem gE{mu p:Mu}{t:j1}{m k z j l v:AV}(h:ui P mu t m k=some (z,p))(g:z5 P mu t j l false=some v):z5 P p t j l false=some v:=by
 cases j with
 |ims i =>
  simp only[z5]at g⊢;cases o:mapT P t with
  |none=>grind
  |some q =>
   rw[o]at g;simp only at g⊢;split at g
   .rename_i r
    rw[if_pos r];exact Wt h g
   grind
 |_=>exact Wt h g
end
end Go.Ev
namespace Go.Ev
open Go Go.RowKit
section
variable {x:AV}{K:AV->Prop}{h:Array Obj}{vs:Array j3}{G:Gh}{xs:List (List AV)}{mu:Mu}{P:qf}{t:j1}{w:j2}
@[go_sem] def vp(P:qf)(op:BinOp)(t:j1)(x y:AV):Option AV:=
 match x,y with
 | .agg J,.agg l=>match Zw P t with
  |some n=>if J.length=n then (match op with
   | .eql=>(aEqs J l).map fun b => .sc (.bool b)
   | .neq=>(aEqs J l).map fun b => .sc (.bool !b)
   |_=>none) else none
  |none=>none
 |x,y=>aBin P op t x y
theorem gF{n:Nat}(h:Zw P t=some n):P.eqGuardType P.depth t=false/\((∃ e q,P.underlying t=some (.array n e)/\P.underlying e=some (.int q)/\szOf P e=some 1) \/
  ∃ fs,P.underlying t=some (.struct fs)/\uP P fs.toList 0=true/\P.stoodInHeld t=false/\fs.size=n):=by
 unfold Zw at h;split at h
 .grind
 .grind
 grind
theorem gG{op:BinOp}{y z:AV}{ox oy:uk}{u v:j3}(p:VRel G w.heap x u)(C:VRel G w.heap y v)(h:vp P op t x y=some z) :
    ∃ r,(do eqGuard op t ox oy u v;binOp op t u v:Sem j3).run P w = .ok r w/\VRel G w.heap z r:=by
  unfold vp at h;split at h
  · rename_i J l
    split at h
    · rename_i n I
      obtain⟨hg,I⟩:=gF I;split at h
      · rename_i hl
        have g:=p;have i:=C;cases p with
        |agg _ o hn hv =>
        cases C with
        |agg _ R hm hw =>
        have T:(eqGuard op t ox oy (.agg o) (.agg R)).run P w = .ok () w:=run_eqGuard_agg w op t ox oy o R hg;simp only[qz,T,qA];have heq:∀ b,aEqs J l=some b->(Op.equal t (.agg o) (.agg R)).run P w = .ok b w:=fun b j=>by
          rcases I with ⟨e,q,U,he,hs⟩|⟨fs,U,hf,hp,a0⟩
          · exact Wf (G:=G) 9998 U he hs hl g i j
          · exact pY (G:=G) 9998 U hf hp zOm g i j
        cases op<;>simp only at h<;>first
          | (simp at h;done)
          | (cases j:aEqs J l with
             |none=>simp[j]at h
             |some b =>
               simp only[j,qU,qj]at h;subst h;refine⟨_,?_,.sc _ rfl⟩;simp_all[binOp])
      grind
    grind
  · exact pB p C h
def jT:uk->Bool
 | .const (.slice none 0 0)=>true
 |_=>false
def yx(P:qf)(det:Bool)(op:BinOp)(t:j1)(x:AV)(K:AV->Prop):Prop:=
 (qy P t).isSome=true/\(op = .eql\/op = .neq) /\
 match x with
 | .lst _ []=>det=false/\K (.sc (.bool true))/\K (.sc (.bool false))
 | .lst _ (_ :: _) | .sl .. => K (.sc (.bool (decide (op = .neq))))
 |_=>False
theorem gH(d:Nat){t e:j1}(g:P.underlying t=some (.slice e))(b:Option Addr)(len cap:Nat) :
  (Op.equalIn (d+1) t (.slice b len cap) (.slice none 0 0)).run P w = .ok b.isNone w:=by
 cases b<;>simp[Op.equalIn,run_underlying g]
theorem yx.sound{det:Bool}{op:BinOp}{ox oy:uk}{u:j3}(C:VRel G w.heap x u)(h:yx P det op t x K) :
  ∃ z r,K z/\(do eqGuard op t ox oy u (.slice none 0 0);binOp op t u (.slice none 0 0):Sem j3).run P w = .ok r w/\VRel G w.heap z r:=by
 obtain⟨hs,I,h⟩:=h;obtain⟨e,R⟩:∃ e,P.underlying t=some (.slice e):=by
  grind [qy,ji]
 have key:∀(b:Option Addr) (len cap:Nat),u = .slice b len cap->(do eqGuard op t ox oy u (.slice none 0 0);binOp op t u (.slice none 0 0):Sem j3).run P w = .ok (.bool (if op = .neq then b.isSome else b.isNone)) w:=by
  intro b len cap i;subst i;have T:(eqGuard op t ox oy (.slice b len cap) (.slice none 0 0)).run P w = .ok () w:=by
   simp_all[eqGuard]
  have U:(Op.equal t (.slice b len cap) (.slice none 0 0)).run P w = .ok b.isNone w:=gH 9999 R b len cap;rcases I with rfl|rfl
  .simp [T,binOp,U]
  simp_all[binOp]
 have fin:∀(b:Bool),K (.sc (.bool b))->∀(c:Option Addr) (len cap:Nat),u = .slice c len cap->(if op = .neq then c.isSome else c.isNone)=b ->
   ∃ z r,K z/\(do eqGuard op t ox oy u (.slice none 0 0);binOp op t u (.slice none 0 0):Sem j3).run P w = .ok r w/\VRel G w.heap z r:=
  fun b hk c len cap i e2=>⟨_,_,hk,key c len cap i,by rw[e2];exact .sc _ rfl⟩
 cases C with
 |nil full =>
  obtain⟨_,o,p⟩:=h;by_cases g:op = .neq
  .grind
  grind
 |emp full a cap hc =>
  obtain⟨_,o,p⟩:=h;by_cases g:op = .neq
  .grind
  grind
 |lst full J j a cap cs e' fr rd hb a0 hl hc hi hz hr hv =>
  cases J with
  |nil =>
   obtain⟨_,o,p⟩:=h;by_cases g:op = .neq
   .grind
   grind
  |cons y l =>
   refine fin _ h (some a) _ cap rfl ?_;by_cases g:op = .neq
   .simp
   simp
 |sl b j off len a1 a2 cap hb ht hl =>
  refine fin _ h (some _) _ cap rfl ?_;by_cases g:op = .neq
  .simp
  simp
 |_=>exact h.elim
theorem yx.det{op:BinOp}(h:yx P true op t x K):∃ z,K z/\∀ g:AV->Prop,g z->yx P true op t x g:=by
 obtain⟨j,i,h⟩:=h;unfold yx;split at h
 .grind
 .grind
 .grind
 grind
theorem yx.mono{det:Bool}{op:BinOp}{i:AV->Prop}(h:yx P det op t x K)(j:∀ z,K z->i z):yx P det op t x i:=by
 obtain⟨l,g,h⟩:=h;unfold yx;refine⟨l,g,?_⟩;split at h
 .grind
 .exact j _ h
 .exact j _ h
 omega
theorem gJ{y:uk}(h:jT y=true):y = .const (.slice none 0 0):=by
 grind [jT,absurd]
def WK(x y:AV):Prop:=∀(G:Gh) (h:Array Obj) (v:j3),VRel G h x v->VRel ⟨G.imm,[]⟩ h y v
theorem WK.hf(h:HF x):WK x x:=h
theorem sZ{full:Bool}{v:j3}(r:VRel G h (.lst full xs) v):VRel G h (.lst false xs) v:=by
 cases r with
 |nil=>exact .nil _
 |emp _ a cap g=>exact .emp _ a cap zSp
 |lst _ _ j a cap i e l rd o p t g C I J P=>exact .lst _ _ j a cap i e l rd o p t zSp C I J P
theorem WK.lst{full:Bool}(h:∀ r,r∈xs->∀ c,c∈r->HF c):WK (.lst full xs) (.lst false xs):=fun G g v r=>sZ (HF.lst h G g v r)
theorem WK.agg{xs ys:List AV}(p:ys.length=xs.length)(h:∀(k:Nat) x y,xs[k]?=some x->ys[k]?=some y->WK x y):WK (.agg xs) (.agg ys):=fun G j v r=>by
 cases r with
 |agg _ o t l =>
  refine .agg _ _ zOm (fun k y g=>?_);have C:k<ys.length:=(qn.1 g).1;have i:xs[k]?=some (xs[k]' zOm):=by grind
  exact h k _ y i g G j _ (l k _ i)
def WKs:List AV->List AV->Prop
 | [],[]=>True
 |x :: J,y :: l=>WK x y/\WKs J l
 |_,_=>False
theorem WKs.get:∀{xs ys:List AV},WKs xs ys->ys.length=xs.length/\∀(k:Nat) x y,xs[k]?=some x->ys[k]?=some y->WK x y
 | [],[],_=>⟨rfl,zSp⟩
 |x :: xs,y :: ys,⟨h,t⟩=>by
  obtain⟨j,l⟩:=WKs.get t;refine⟨zP1 j,fun k a b g i=>?_⟩;cases k with
  |zero=>simp at g i;subst g;subst i;exact h
  |succ k=>exact l k a b (zUs g) (zUs i)
 | [],_ :: _,h=>h.elim
 |_ :: _,[],h=>h.elim
def Rds(mu:Mu):List AV->List AV->Prop
 | [],[]=>True
 |x :: J,y :: l=>Rd mu x y/\Rds mu J l
 |_,_=>False
theorem Rds.get:∀{xs ys:List AV},Rds mu xs ys->ys.length=xs.length/\∀(k:Nat) x y,xs[k]?=some x->ys[k]?=some y->Rd mu x y
 | [],[],_=>⟨rfl,zSp⟩
 |x :: xs,y :: ys,⟨h,t⟩=>by
  obtain⟨j,l⟩:=Rds.get t;refine⟨zP1 j,fun k a b g i=>?_⟩;cases k with
  |zero=>simp at g i;subst g;subst i;exact h
  |succ k=>exact l k a b (zUs g) (zUs i)
 | [],_ :: _,h=>h.elim
 |_ :: _,[],h=>h.elim
def MuLe(mu p:Mu):Prop:=∀(b:Nat) c,mu[b]?=some c->p[b]?=some c
theorem MuLe.push(mu:Mu)(c:Cell):MuLe mu (mu++[c]):=fun b x h=>by grind
def Qb(P:qf)(mu:Mu)(f:AV)(args:List AV)(v:AV):Prop:=
 (∃ g first j i,f = .fn (.func g) first j/\qd P g i v/\(WKs (first++args++j) i\/(Rds mu (first++args++j) i/\FL v))) \/
 ∃ g first j i,f = .fn (.func g) first j/\pT P g i v/\Rds mu (first++args++j) i
def vR(P:qf)(i:Nat)(args:List AV)(mu:Mu)(R:Bool->Mu->Prop):Prop:=
 ∀(G:Gh) (w:j2) (o:Array j3),Sim G mu w.heap->zj G w.heap args o->∀(l r:Nat),G.blk[i]?=some (l,r) ->
  ∃ fn g assign j,(Instr.yield l o).run P w = .ok (.round l fn g assign j) w /\
   RoundIn Fence.wide 0 P l fn g assign j w fun e t=>∃ b C p,e = .returned (.bool b)/\Stp G mu w C p t/\R b p
def qc(P:qf)(det:Bool)(mu:Mu)(f:AV)(args:List AV)(K l:AV->Mu->Prop):Prop:=
 (∃ v,Qb P mu f args v/\K v mu) \/
 (det=false/\((∃ g first j R,f = .fn (.func g) first j/\qK P g (first++args++j) mu R/\(∀ r p,R (.ret r) p->K r p)/\(∀ r p,R (.pan r) p->l r p)) \/
  ∃ i R,f = .yl i/\vR P i args mu R/\∀ b p,R b p->K (.sc (.bool b)) p))
def OptK{C:Type}(o:Option C)(k:C->Prop):Prop:=∃ v,o=some v/\k v
@[go_sem] def lenA(P:qf)(mu:Mu)(t:j1):AV->Option AV
 | .lst _ J=>if (qy P t).isSome then some (.sc (.int .i64 J.length)) else none
 | .sl _ _ _ len=>if (qy P t).isSome then some (.sc (.int .i64 len)) else none
 | .sc (.string s)=>match P.underlying t with|some .string=>some (.sc (.int .i64 s.size))|_=>none
 | .im i=>match P.underlying t with|some (.map _ _)=>some (.sc (.int .i64 i.length))|_=>none
 | .ims i=>match P.underlying t with|some (.map _ _)=>some (.sc (.int .i64 i.length))|_=>none
 | .mp b=>match P.underlying t,mu[b]? with|some (.map _ _),some (.mp i)=>some (.sc (.int .i64 i.length))|_,_=>none
 |_=>none
@[go_sem] def minA:AV->AV->Option AV
 | .sc (.int k x),.sc (.int _ y)=>some (.sc (.int k (if y<x then y else x)))
 |_,_=>none
@[go_sem] def maxA:AV->AV->Option AV
 | .sc (.int k x),.sc (.int _ y)=>some (.sc (.int k (if y > x then y else x)))
 |_,_=>none
@[go_sem] def jU(P:qf)(mu:Mu)(b:Builtin)(g:Array j1)(args:List AV):Option AV:=
 match b,args,g[0]? with
 | .len,[x],some t=>lenA P mu t x
 | .cap,[.lst true J],some t=>if (qy P t).isSome then some (.sc (.int .i64 J.length)) else none
 | .min,[x,y],_=>minA x y
 | .max,[x,y],_=>maxA x y
 |_,_,_=>none
theorem JH(h:(qy P t).isSome=true):∃ e,P.underlying t=some (.slice e):=by
 grind [qy,ji]
theorem zj.one_inv(r:zj G h [x] vs):∃ v,vs=#[v]/\VRel G h x v:=by
 obtain⟨i,j⟩:=r;have:=j 0 x rfl;refine⟨vs.getD 0 vd,?_,this⟩;have g:vs.size=1:=zUs i;apply Array.ext
 .simpa using g
 simp_all
theorem zj.two_inv{y:AV}(r:zj G h [x,y] vs):∃ u v,vs=#[u,v]/\VRel G h x u/\VRel G h y v:=by
 obtain⟨l,j⟩:=r;have a:=j 0 x rfl;have b:=j 1 y rfl;refine⟨vs.getD 0 vd,vs.getD 1 vd,?_,a,b⟩;have g:vs.size=2:=zUs l;apply Array.ext
 .simpa using g
 .intro i o p
  have:i=0\/i=1:=zOm;rcases this with rfl|rfl<;>simp[qB,o]
theorem gK(s:Sim G mu w.heap){t ty:j1}{x z:AV}{v:j3}(r:VRel G w.heap x v)(h:lenA P mu t x=some z)(l:Array j1)(p:l[0]?=some t) :
  ∃ u,(Builtin.len_ l ty #[v]).run P w = .ok u w/\VRel G w.heap z u:=by
 unfold lenA at h;split at h
 .split at h
  .rename_i C
   simp only[qj]at h;subst h;obtain⟨e,j⟩:=JH C;obtain⟨a,cap,rfl,_⟩:=r.lst_inv;exact⟨_,by simp[Builtin.len_,p,run_underlying j,goInt],.sc _ rfl⟩
  grind
 .split at h
  .rename_i C
   simp only[qj]at h;subst h;obtain⟨e,j⟩:=JH C;cases r;exact⟨_,by simp[Builtin.len_,p,run_underlying j,goInt],.sc _ rfl⟩
  grind
 .split at h
  .rename_i j
   simp only[qj]at h;subst h;cases r;exact⟨_,by simp[Builtin.len_,p,run_underlying j,goInt],.sc _ rfl⟩
  grind
 .split at h
  .rename_i j
   simp only[qj]at h;subst h;cases r with
   |im _ g ce clock o T R U hv hd =>
   have I:(getObj g).run P w = .ok (.map ce clock) w:=by simp[getObj,Sem.run,o]
   exact⟨_,by simp_all[Builtin.len_,run_underlying,goInt],.sc _ rfl⟩
  grind
 .split at h
  .rename_i j
   simp only[qj]at h;subst h;cases r with
   |ims _ a0 σ τ _ hp hd r =>
   cases r with
   |im _ g ce clock o T R U hv a1 =>
   have I:(getObj g).run P w = .ok (.map ce clock) w:=by simp[getObj,Sem.run,o]
   exact⟨_,by simp[Builtin.len_,p,run_underlying j,goInt,I,R,hp.1],.sc _ rfl⟩
  grind
 .split at h
  .rename_i i j hm
   simp only[qj]at h;subst h;cases r with
   |mp _ g J o =>
   obtain⟨ce,cl,h1,h2,_⟩:=s.mp _ i g J hm o;have I:(getObj g).run P w = .ok (.map ce cl) w:=by simp[getObj,Sem.run,h1]
   exact⟨_,by simp_all[Builtin.len_,run_underlying,goInt],.sc _ rfl⟩
  grind
 grind
theorem gL(s:Sim G mu w.heap){b:Builtin}{g:Array j1}{ty:j1}{cs:Array Bool}{args:List AV}{vs:Array j3}{z:AV}(r:zj G w.heap args vs)
  (h:jU P mu b g args=some z):∃ u,(builtin b g ty cs vs).run P w = .ok (.value u) w/\VRel G w.heap z u:=by
 unfold jU at h;split at h
 .rename_i j
  obtain⟨v,rfl,i⟩:=r.one_inv;obtain⟨u,C,I⟩:=gK s i h g j (ty:=ty);simp_all[builtin]
 .rename_i j
  obtain⟨v,rfl,i⟩:=r.one_inv;split at h
  .rename_i o
   simp only[qj]at h;subst h;obtain⟨e,p⟩:=JH o;obtain⟨a,cap,rfl,_,t,_⟩:=i.lst_inv;have:=t rfl;subst this;exact⟨_,by simp[builtin,Builtin.cap_,j,run_underlying p,goInt],.sc _ rfl⟩
  grind
 .obtain ⟨u,v,rfl,l,i⟩:=r.two_inv
  unfold minA at h;split at h
  .simp only[qj]at h;subst h
   cases l;cases i;exact⟨_,by simp[builtin,Builtin.min_,Builtin.min2],.sc _ rfl⟩
  grind
 .obtain ⟨u,v,rfl,l,i⟩:=r.two_inv
  unfold maxA at h;split at h
  .simp only[qj]at h;subst h
   cases l;cases i;exact⟨_,by simp[builtin,Builtin.max_,Builtin.max2],.sc _ rfl⟩
  grind
 grind
end
end Go.Ev
