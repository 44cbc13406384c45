/-
  Own library, part 1: an abstract reading of values and a calculus over it; contracts of functions; plain lemmas.
-/
import GoSem.Claim
import Derived.WalkKit
import Derived.Laws.AppendOwn
import Derived.Laws.CopyRow
import Derived.Below
import Derived.RangeFuncRecord
import Derived.Laws.BytesString
import Derived.IntWalk
import Derived.Lib.AppendZerosOnto
set_option linter.unusedVariables false
set_option linter.unusedSimpArgs false
set_option maxRecDepth 100000
open Go renaming Value->uk,World->j3,TypeId->j2,MapEntry->xc,undef->xa,Program->j1,Operand->us,FuncId->wh
open Go.IntKind renaming i64->qj
open List renaming getElem?_eq_some_iff->qk,getElem?_append_left->qo,mem_map->qr,mem_cons->qt,range->qu,getElem?_eq_getElem->qA,all_eq_true->qI,mem_of_getElem?->qV,replicate->qZ,length_append->zc,getElem?_append_right->zf,getElem?_map->zu,map_append->zx,append_assoc->zE,length_cons->zG,getD_eq_getElem?_getD->zT,take_of_length_le->ye,length_map->yI,cons_append->jd,getElem?_eq_none->jj,getElem?_take->jp,getElem?_drop->jF,getElem?_cons_succ->j7,length_take->vM,take_append_drop->uf,eq_nil_of_length_eq_zero->ug,ext_getElem?->ui,getElem?_range->uH,mem_of_mem_take->uK,flatten_cons->wt,getElem?_toArray->Qf,getElem?_cons_zero->Yy,mem_flatten->K7,getElem?_set->K9
open Nat renaming le_refl->qm,le_trans->zP,zero_add->yy
open Option.some renaming injEq->qp
open Bool renaming and_eq_true->qB
open Array renaming getD_eq_getD_getElem?->qH,getElem?_eq_some_iff->yf,getElem?_toList->uI,getElem?_eq_getElem->uM
open Go.Sem renaming run_bind->qT,run_pure->zD
open Go.Result renaming andThen_ok->qW
open Option renaming map_some->zd,map_eq_some_iff->j8
open Go.Builtin renaming zeroCells->yO
open Prod.mk renaming injEq->ul
namespace Go
section
variable {a b p:Prop}
theorem zOm(h:p:=by omega):p:=h
theorem zSi(h:p:=by simp[go_sem]):p:=h
theorem zS1(x:a)(h:a->p:=by intro x;simp[go_sem,x]):p:=h x
theorem zS2(x:a)(y:b)(h:a->b->p:=by intro x y;simp[go_sem,x,y]):p:=h x y
theorem zS3{c:Prop}(x:a)(y:b)(z:c)(h:a->b->c->p:=by intro x y z;simp[go_sem,x,y,z]):p:=h x y z
theorem zKr(h:p:=by kernel_rfl):p:=h
theorem zSp(h:p:=by simp):p:=h
theorem zP1(x:a)(h:a->p:=by intro x;simp[x]):p:=h x
theorem zSo(h:p:=by simp;omega):p:=h
theorem zUs(x:a)(h:a->p:=by intro x;simpa using x):p:=h x
theorem zVs(x:a)(h:a->p:=by intro x;simpa[go_sem] using x):p:=h x
theorem zW1(x:a)(h:a->p:=by intro x;omega):p:=h x
theorem zW2(x:a)(y:b)(h:a->b->p:=by intro x y;omega):p:=h x y
theorem zDe(h:p:=by decide):p:=h
end
end Go
namespace Go.Ev
open Go
def tabs:List (Nat×List uk):=[(0,[.int .u64 1,.int .u64 10,.int .u64 100,.int .u64 1000,.int .u64 10000,.int .u64 100000,.int .u64 1000000,.int .u64 10000000,.int .u64 100000000,.int .u64 1000000000,.int .u64 10000000000,.int .u64 100000000000,.int .u64 1000000000000,.int .u64 10000000000000,.int .u64 100000000000000,.int .u64 1000000000000000,.int .u64 10000000000000000,.int .u64 100000000000000000,.int .u64 1000000000000000000,.int .u64 10000000000000000000])]
end Go.Ev
namespace Go.Ev
open Go
section
variable {J:Type}{h h':Array Obj}{w:j3}
inductive AV where
 |any
 |sc (v:uk)
 |lst (full:Bool) (xs:List (List AV))
 |sl (b sz off len:Nat)
 |agg (cs:List AV)
 |tup (vs:List AV)
 |ip (cs:List AV)
 |ptr (b off:Nat)
 |mp (b:Nat)
 |im (es:List (AV×AV))
 |ims (es:List (AV×AV))
 |fn (f:Fn) (first caps:List AV)
 |ifc (t:j2) (v:AV)
 |yl (b:Nat)
 deriving Inhabited
def kc:uk->Bool
 | .bool _ | .int _ _ | .float _ _ | .complex _ _ _ | .string _ | .pointer none | .map none | .chan none | .nilFunc | .nilIface=>true
 | .tuple ⟨[]⟩=>true
 |_=>false
def ofC:uk->AV
 | .slice none 0 0 => .lst true []
 | .func f ⟨[]⟩ ⟨[]⟩ => .fn f [] []
 |v=>if kc v then .sc v else .any
def ofV:uk->AV
 | .agg g => .agg (g.toList.map ofC)
 |v=>ofC v
def AV.cells:AV->List AV
 | .agg g=>g
 |v=>[v]
def AV.one:AV->Bool
 | .any | .agg _ | .tup _=>false
 | .sc v=>v.oneCell'
 |_=>true
structure Gh where
 imm:Nat->Prop
 blk:List (Nat×Nat)
variable {G G':Gh}
structure Gh.le (G G':Gh):Prop where
 imm:∀ b,G.imm b->G'.imm b
 blk:∀(i:Nat) (x:Nat×Nat),G.blk[i]?=some x->G'.blk[i]?=some x
theorem Gh.le.refl(G:Gh):G.le G:=⟨fun _ h=>h,fun _ _ h=>h⟩
theorem Gh.le.trans{A B C:Gh}(h:A.le B)(k:B.le C):A.le C:=⟨fun b x=>k.imm b (h.imm b x),fun i x y=>k.blk i x (h.blk i x y)⟩
structure Ext (G:Gh) (h h':Array Obj):Prop where
 size:h.size<=h'.size
 keep:∀ b,G.imm b->h'[b]?=h[b]?
theorem Ext.refl(G:Gh)(h:Array Obj):Ext G h h:=⟨qm _,fun _ _=>rfl⟩
def PIx(i j:Nat->Nat)(es g:List J):Prop:=g.length=es.length/\∀ k,k<es.length->i k<es.length/\j k<es.length/\j (i k)=k/\i (j k)=k/\g[i k]?=es[k]?
theorem PIx.refl(es:List J):PIx id id es es:=⟨rfl,fun k h=>⟨h,h,rfl,rfl,rfl⟩⟩
theorem PIx.back{l i:Nat->Nat}{es g:List J}(p:PIx l i es g){j:Nat}(h:j<es.length):g[j]?=es[i j]?:=by
 obtain⟨r,o,t,C,I⟩:=p.2 j h;have:=(p.2 (i j) o).2.2.2.2
 grind
def jU(ce:Array xc)(clock:Nat):Prop:=(∀(k:Nat) (e:xc),ce[k]?=some e->e.born<clock)/\∀(j k:Nat) (e f:xc),ce[j]?=some e->ce[k]?=some f->e.born=f.born->j=k
theorem jU.of{ce:Array xc}{clock:Nat}(p:clock=ce.size)(g:∀(k:Nat) (e:xc),ce[k]?=some e->e.born=k):jU ce clock:=
 ⟨fun k e h=>by grind,fun j k e f i l o=>by rw[<-g j e i,<-g k f l,o]⟩
inductive VRel (G:Gh) (h:Array Obj):AV->uk->Prop
 |any (v:uk):VRel G h .any v
 |sc (v:uk) (hv:kc v=true):VRel G h (.sc v) v
 |nil (full:Bool):VRel G h (.lst full []) (.slice none 0 0)
 |emp (full:Bool) (a:Addr) (cap:Nat) (hc:full=true->cap=0):VRel G h (.lst full []) (.slice (some a) 0 cap)
 |lst (full:Bool) (xs:List (List AV)) (sz:Nat) (a:Addr) (cap:Nat) (cs:Array uk) (e:j2) (fr:Nat×Nat) (rd:Nat->uk)
   (hb:h[a.block]?=some (.cells cs e fr)) (hs:a.spot=none) (hl:xs.length<=cap) (hc:full=true->cap=xs.length) (hi:G.imm a.block)
   (hz:∀ r,r∈xs->r.length=sz)
   (hr:∀(k:Nat) x,xs.flatten[k]?=some x->cs[a.off+k]?=some (rd k))
   (hv:∀(k:Nat) x,xs.flatten[k]?=some x->VRel G h x (rd k)):VRel G h (.lst full xs) (.slice (some a) xs.length cap)
 |sl (b sz off len blk tot cap:Nat) (hb:G.blk[b]?=some (blk,tot)) (ht:off+cap*sz<=tot) (hl:len<=cap) :
   VRel G h (.sl b sz off len) (.slice (some ⟨blk,off,none⟩) len cap)
 |agg (cs:List AV) (vs:Array uk) (hn:vs.size=cs.length) (hv:∀(k:Nat) x,cs[k]?=some x->VRel G h x (vs.getD k xa)):VRel G h (.agg cs) (.agg vs)
 |tup (cs:List AV) (vs:Array uk) (hn:vs.size=cs.length) (hv:∀(k:Nat) x,cs[k]?=some x->VRel G h x (vs.getD k xa)):VRel G h (.tup cs) (.tuple vs)
 |ip (cs:List AV) (a:Addr) (arr:Array uk) (e:j2) (fr:Nat×Nat) (rd:Nat->uk)
   (hb:h[a.block]?=some (.cells arr e fr)) (hs:a.spot=none) (hi:G.imm a.block)
   (hr:∀(k:Nat) x,cs[k]?=some x->arr[a.off+k]?=some (rd k))
   (hv:∀(k:Nat) x,cs[k]?=some x->VRel G h x (rd k)):VRel G h (.ip cs) (.pointer (some a))
 |ptr (b off blk tot:Nat) (hb:G.blk[b]?=some (blk,tot)):VRel G h (.ptr b off) (.pointer (some ⟨blk,off,none⟩))
 |mp (b blk tot:Nat) (hb:G.blk[b]?=some (blk,tot)):VRel G h (.mp b) (.map (some blk))
 |im (es:List (AV×AV)) (blk:Nat) (ce:Array xc) (clock:Nat) (hb:h[blk]?=some (.map ce clock)) (hi:G.imm blk) (hn:ce.size=es.length)
   (hk:∀(k:Nat) x,es[k]?=some x->VRel G h x.1 (ce.getD k default).key) (hv:∀(k:Nat) x,es[k]?=some x->VRel G h x.2 (ce.getD k default).val)
   (hd:jU ce clock):VRel G h (.im es) (.map (some blk))
 |ims (es es':List (AV×AV)) (σ τ:Nat->Nat) (v:uk) (hp:PIx σ τ es es') (hd:(es.map Prod.fst).Nodup) (r:VRel G h (.im es') v):VRel G h (.ims es) v
 |fn (f:Fn) (first caps:List AV) (vs ws:Array uk) (hn:vs.size=first.length) (hm:ws.size=caps.length)
   (hv:∀(k:Nat) x,first[k]?=some x->VRel G h x (vs.getD k xa)) (hw:∀(k:Nat) x,caps[k]?=some x->VRel G h x (ws.getD k xa)):VRel G h (.fn f first caps) (.func f vs ws)
 |ifc (t:j2) (x:AV) (v:uk) (hv:VRel G h x v):VRel G h (.ifc t x) (.iface t v)
 |yl (b blk tot:Nat) (hb:G.blk[b]?=some (blk,tot)):VRel G h (.yl b) (.func (.yield blk) #[] #[])
theorem VRel.mono(hg:G.le G')(he:Ext G h h'){x:AV}{v:uk}(r:VRel G h x v):VRel G' h' x v:=by
 induction r with
 |any v=>exact .any v
 |sc v C=>exact .sc v C
 |nil full=>exact .nil full
 |emp full a cap hc=>exact .emp full a cap hc
 |lst full p l a cap P e fr rd j hs hl hc J hz hr C o=>exact .lst full p l a cap P e fr rd (by rw[he.keep _ J];exact j) hs hl hc (hg.imm _ J) hz hr o
 |sl b l off len g i cap j ht hl=>exact .sl b l off len g i cap (hg.blk _ _ j) ht hl
 |agg P U R C o=>exact .agg P U R o
 |tup P U R C o=>exact .tup P U R o
 |ip P a arr e fr rd j hs J hr C o=>exact .ip P a arr e fr rd (by rw[he.keep _ J];exact j) hs (hg.imm _ J) hr o
 |ptr b off g i j=>exact .ptr b off g i (hg.blk _ _ j)
 |mp b g i j=>exact .mp b g i (hg.blk _ _ j)
 |im I g ce clock j J R hk C hd a1 T=>exact .im I g ce clock (by rw[he.keep _ J];exact j) (hg.imm _ J) R a1 T hd
 |ims I a2 σ τ v hp hd r o=>exact .ims I a2 σ τ v hp hd o
 |fn f first a0 U ws R hm C hw T a3=>exact .fn f first a0 U ws R hm T a3
 |ifc t x v C o=>exact .ifc t x v o
 |yl b g i j=>exact .yl b g i (hg.blk _ _ j)
theorem VRel.le(hg:G.le G'){x:AV}{v:uk}(r:VRel G h x v):VRel G' h x v:=r.mono hg (.refl _ _)
theorem VRel.ofC(v:uk):VRel G h (ofC v) v:=by
 unfold Ev.ofC;split
 .exact .nil true
 .exact .fn _ [] [] _ _ rfl rfl zSp zSp
 .split
  .rename_i g;exact .sc v g
  .exact .any v
theorem VRel.ofV(v:uk):VRel G h (ofV v) v:=by
 unfold Ev.ofV;split
 .rename_i g
  refine .agg _ _ zSp ?_;intro k x hx;simp only[zu,j8,uI]at hx;obtain⟨v,i,rfl⟩:=hx;have:g.getD k xa=v:=by simp[qH,i]
  rw[this];exact .ofC v
 .exact .ofC v
theorem VRel.one{x:AV}{v:uk}(r:VRel G h x v)(hx:x.one=true):v.oneCell'=true:=by
 cases r with
 |ims _ _ _ _ _ _ _ r=>cases r;rfl
 |_=>simp_all[AV.one,Value.oneCell']
theorem qcL{v:uk}(h:v.oneCell'=true):v.cells=#[v]:=by
 cases v<;>simp_all[Value.cells,Value.oneCell']
theorem VRel.cells{x:AV}{v:uk}(r:VRel G h x v)(hx:∀ c,c∈x.cells->c.one=true) :
  v.cells.size=x.cells.length/\(∀(k:Nat) c,x.cells[k]?=some c->VRel G h c (v.cells.getD k xa))/\(∀ u,u∈v.cells.toList->u.oneCell'=true):=by
 by_cases t:∃ j,x = .agg j
 .obtain ⟨j,rfl⟩:=t
  cases r with
  |agg _ C I o =>
   refine⟨by simpa[Value.cells,AV.cells] using I,by simpa[Value.cells,AV.cells] using o,?_⟩;intro u p;simp only[Value.cells]at p;obtain⟨k,g⟩:=List.mem_iff_getElem?.1 p;rw[uI]at g;have l:k<j.length:=by
    grind
   have i:=o k j[k] (zP1 l);have:C.getD k xa=u:=by simp[qH,g]
   rw[this]at i;exact i.one (hx _ (by simp[AV.cells]))
 .have e:x.cells=[x]:=by cases x<;>simp_all[AV.cells]
  have i:=r.one (hx x (zP1 e));rw[qcL i,e];refine⟨rfl,?_,zP1 i⟩;intro k c g;cases k with
  |zero=>simp at g;subst g;simpa using r
  |succ k=>simp at g
inductive Cell where
 |arr (cells:List AV)
 |mp (es:List (AV×AV))
 |md (es:List (AV×AV))
 |it (es:List (AV×AV)) (seen:List Nat)
 |lp (r:Loop) (tm:Nat->AV)
 |dead
 deriving Inhabited
abbrev Mu:=List Cell
variable {mu:Mu}
def Live(G:Gh)(mu:Mu)(b:Nat):Prop:=∃(i:Nat) (c:Cell) (g:Nat),mu[i]?=some c/\c ≠ .dead/\G.blk[i]?=some (b,g)
def vP(G:Gh)(h:Array Obj)(l:Nat)(o:Obj):Cell->Prop
 | .arr cells=>∃ t e,o = .cells t e (0,0)/\t.size=l/\cells.length<=l/\∀(j:Nat) x,cells[j]?=some x->x.one=true/\VRel G h x (t.getD j xa)
 | .mp I=>∃ ce clock,o = .map ce clock/\ce.size=I.length/\(∀(k:Nat) x,I[k]?=some x->VRel G h x.1 (ce.getD k default).key)/\(∀(k:Nat) x,I[k]?=some x->VRel G h x.2 (ce.getD k default).val) /\
   clock=ce.size/\(∀(k:Nat) (e:xc),ce[k]?=some e->e.born=k)
 | .md I=>∃ ce clock,o = .map ce clock/\ce.size=I.length/\(∀(k:Nat) x,I[k]?=some x->VRel G h x.1 (ce.getD k default).key)/\(∀(k:Nat) x,I[k]?=some x->VRel G h x.2 (ce.getD k default).val)/\jU ce clock
 | .it I seen=>(∃ m p C J ce g,VRel G h (.im p) (.map (some m))/\h[m]?=some (.map ce g)/\G.imm m/\PIx C J I p/\(∀ i,i∈seen->i<I.length)/\o = .mapIter (some m) g (seen.map fun i=>(ce.getD (C i) default).born).toArray g)\/(I=[]/\o = .mapIter none 0 #[] 0)
 | .lp r P=>o = .loop r/\∀ i,VRel G h (P i) (r.tmps.getD i xa)
 | .dead=>True
theorem vP.mono(hg:G.le G')(g:Ext G h h'){J:Nat}{o:Obj}{c:Cell}(r:vP G h J o c):vP G' h' J o c:=by
  cases c with
  |arr cells=>obtain⟨cs,e,t,C,l,p⟩:=r;exact⟨cs,e,t,C,l,fun j x hx=>⟨(p j x hx).1,(p j x hx).2.mono hg g⟩⟩
  |mp I=>obtain⟨ce,P,t,C,l,p,R⟩:=r;exact⟨ce,P,t,C,fun k x hx=>(l k x hx).mono hg g,fun k x hx=>(p k x hx).mono hg g,R⟩
  |md I=>obtain⟨ce,P,t,C,l,p,R⟩:=r;exact⟨ce,P,t,C,fun k x hx=>(l k x hx).mono hg g,fun k x hx=>(p k x hx).mono hg g,R⟩
  | it I seen =>
                  rcases r with ⟨m,T,σ,τ,ce,U,t,C,l,p⟩|r
                  · exact .inl ⟨m,T,σ,τ,ce,U,t.mono hg g,by rw[g.keep _ l];exact C,hg.imm _ l,p⟩
                  · exact .inr r
  |lp r1 tm=>exact⟨r.1,fun i=>(r.2 i).mono hg g⟩
  |dead=>trivial
theorem vP.le(hg:G.le G'){g:Nat}{o:Obj}{c:Cell}(r:vP G h g o c):vP G' h g o c:=r.mono hg (.refl _ _)
def Zf(g:Nat->Prop)(h:Array Obj):Prop:=∀ x,x∈tabs->g x.1/\∃ e i,h[x.1]?=some (.cells x.2.toArray e i)
theorem Zf.mono{i g:Nat->Prop}{j:Array Obj}(t:Zf i h)(l:∀ b,i b->g b)(o:∀ b,i b->j[b]?=h[b]?):Zf g j:=fun x hx=>by
 obtain⟨p,e,r,C⟩:=t x hx
 grind
structure Sim (G:Gh) (mu:Mu) (h:Array Obj):Prop where
 len:G.blk.length=mu.length
 imm:∀ b,G.imm b->b<h.size
 obj:∀(i:Nat) (c:Cell) blk tot,mu[i]?=some c->c ≠ .dead->G.blk[i]?=some (blk,tot)->∃ o,h[blk]?=some o/\vP G h tot o c
 live:∀(i:Nat) (c:Cell) blk tot,mu[i]?=some c->c ≠ .dead->G.blk[i]?=some (blk,tot)->¬G.imm blk
 inj:∀(i j:Nat) (ci cj:Cell) b ti tj,mu[i]?=some ci->mu[j]?=some cj->ci ≠ .dead->cj ≠ .dead->G.blk[i]?=some (b,ti)->G.blk[j]?=some (b,tj)->i=j
 tab:Zf G.imm h
theorem Sim.bare(s:Sim G mu h):Sim ⟨G.imm,[]⟩ [] h:=
 ⟨rfl,s.imm,fun i c b t h=>by simp at h,fun i c b t h=>by simp at h,fun i j ci g b t l h=>by simp at h,s.tab⟩
theorem Sim.arr(s:Sim G mu h)(i:Nat)(cells:List AV)(l g:Nat)(p:mu[i]?=some (.arr cells))(r:G.blk[i]?=some (l,g)) :
  ∃ cs e,h[l]?=some (.cells cs e (0,0))/\cs.size=g/\cells.length<=g/\∀(j:Nat) x,cells[j]?=some x->x.one=true/\VRel G h x (cs.getD j xa):=by
 obtain⟨o,t,cs,e,rfl,h⟩:=s.obj i _ l g p zSp r;exact⟨cs,e,t,h⟩
theorem Sim.mp(s:Sim G mu h)(i:Nat)(es:List (AV×AV))(g j:Nat)(l:mu[i]?=some (.mp es))(p:G.blk[i]?=some (g,j)) :
  ∃ ce clock,h[g]?=some (.map ce clock)/\ce.size=es.length/\(∀(k:Nat) x,es[k]?=some x->VRel G h x.1 (ce.getD k default).key)/\(∀(k:Nat) x,es[k]?=some x->VRel G h x.2 (ce.getD k default).val) /\
   clock=ce.size/\(∀(k:Nat) (e:xc),ce[k]?=some e->e.born=k):=by
 obtain⟨o,r,ce,t,rfl,h⟩:=s.obj i _ g j l zSp p;exact⟨ce,t,r,h⟩
theorem Sim.md(s:Sim G mu h)(i:Nat)(es:List (AV×AV))(g j:Nat)(l:mu[i]?=some (.md es))(p:G.blk[i]?=some (g,j)) :
  ∃ ce clock,h[g]?=some (.map ce clock)/\ce.size=es.length/\(∀(k:Nat) x,es[k]?=some x->VRel G h x.1 (ce.getD k default).key)/\(∀(k:Nat) x,es[k]?=some x->VRel G h x.2 (ce.getD k default).val)/\jU ce clock:=by
 obtain⟨o,r,ce,t,rfl,h⟩:=s.obj i _ g j l zSp p;exact⟨ce,t,r,h⟩
theorem Sim.livesize(s:Sim G mu h){b:Nat}(l:Live G mu b):b<h.size:=by
 obtain⟨i,c,g,j,p,r⟩:=l;obtain⟨o,t,_⟩:=s.obj i c b g j p r
 grind
theorem Sim.all(s:Sim G mu h):Sim ⟨fun b=>G.imm b\/Live G mu b,[]⟩ [] h:=
 ⟨rfl,fun b h=>h.elim (s.imm b) (fun l=>s.livesize l),fun i c b t h=>by simp at h,fun i c b t h=>by simp at h,fun i j ci g b t o h=>by simp at h,s.tab.mono (fun b h => .inl h) (fun b h=>rfl)⟩
structure Stp (G:Gh) (mu:Mu) (w:j3) (G':Gh) (mu':Mu) (w':j3):Prop where
 le:G.le G'
 sim:Sim G' mu' w'.heap
 keep:∀ b,b<w.heap.size->¬Live G mu b->w'.heap[b]?=w.heap[b]?
 size:w.heap.size<=w'.heap.size
 live:∀ b,Live G' mu' b->Live G mu b\/w.heap.size<=b
 inew:∀ b,G'.imm b->G.imm b\/Live G mu b\/w.heap.size<=b
 tape:w'.tape=w.tape
 os:w'.os=w.os
 output:w'.output=w.output
 drawn:w.drawn<=w'.drawn
theorem Stp.ext{mu':Mu}{w':j3}(s:Sim G mu w.heap)(t:Stp G mu w G' mu' w'):Ext G w.heap w'.heap:=
 ⟨t.size,fun b j=>t.keep b (s.imm b j) (fun⟨i,c,g,l,o,p⟩=>s.live i c b g l o p j)⟩
theorem Stp.vrel{mu':Mu}{w':j3}(s:Sim G mu w.heap)(t:Stp G mu w G' mu' w'){x:AV}{v:uk}(r:VRel G w.heap x v):VRel G' w'.heap x v:=
 r.mono t.le (t.ext s)
theorem Stp.refl(s:Sim G mu w.heap):Stp G mu w G mu w:=
 ⟨.refl G,s,fun _ _ _=>rfl,qm _,fun _ h => .inl h,fun _ h => .inl h,rfl,rfl,rfl,qm _⟩
theorem Stp.trans{A B C:Gh}{a b c:Mu}{u v:j3}(s:Sim A a u.heap)(h:Stp A a u B b v)(k:Stp B b v C c w):Stp A a u C c w:=by
 refine⟨h.le.trans k.le,k.sim,?_,zP h.size k.size,?_,?_,k.tape.trans h.tape,k.os.trans h.os,k.output.trans h.output,zP h.drawn k.drawn⟩
 .intro x hx i
  rw[k.keep x (Nat.lt_of_lt_of_le hx h.size) (fun l=>(h.live x l).elim i (fun g=>absurd hx (Nat.not_lt.2 g))),h.keep x hx i]
 .intro x hx
  rcases k.live x hx with l|l
  .exact h.live x l
  .exact .inr (zP h.size l)
 .intro x hx
  rcases k.inew x hx with l|l|l
  .exact h.inew x l
  .exact .inr (h.live x l)
  .exact .inr (.inr (zP h.size l))
theorem Stp.drew(s:Sim G mu w.heap):Stp G mu w G mu w.drew:=
 ⟨.refl G,s,fun _ _ _=>rfl,qm _,fun _ h => .inl h,fun _ h => .inl h,rfl,rfl,rfl,Nat.le_succ _⟩
end
end Go.Ev
namespace Go.Ev
open Go Go.RowKit
section
variable {G:Gh}{mu:Mu}{w:j3}
theorem z6{J:Type}{l:List J}{a x:J}{i:Nat}(h:(l++[a])[i]?=some x):(i<l.length/\l[i]?=some x)\/(i=l.length/\x=a):=by
 rcases Nat.lt_trichotomy i l.length with g|g|g
 .rw [qo g]at h;exact .inl ⟨g,h⟩
 .subst g;simp at h;exact .inr ⟨rfl,h.symm⟩
 .rw [jj zSo]at h;exact absurd h zSp
theorem Zg(w:j3)(o:Obj)(b:Nat)(g:b<w.heap.size):(w.alloc o).heap[b]?=w.heap[b]?:=Below.heap_alloc w o b g
theorem J2(w:j3)(o:Obj):(w.alloc o).heap[w.heap.size]?=some o:=by
 show (w.heap.push o)[w.heap.size]?=some o;simp
theorem UX(s:Sim G mu w.heap)(o:Obj):Ext G w.heap (w.alloc o).heap:=
 ⟨zSp,fun b g=>Zg w o b (s.imm b g)⟩
theorem Stp.allocImm(s:Sim G mu w.heap)(o:Obj) :
  Stp G mu w ⟨fun b=>G.imm b\/b=w.heap.size,G.blk⟩ mu (w.alloc o):=by
 have p:G.le ⟨fun b=>G.imm b\/b=w.heap.size,G.blk⟩:=⟨fun b h => .inl h,fun _ _ h=>h⟩;have J:=UX s o;have key:∀ b,Live G mu b->(w.alloc o).heap[b]?=w.heap[b]?:=fun b l=>Zg w o b (s.livesize l)
 refine⟨p,⟨s.len,?_,?_,?_,s.inj,s.tab.mono p.imm J.keep⟩,fun b l _=>Zg w o b l,zSp,fun b h => .inl h,fun b h=>h.elim .inl (fun e => .inr (.inr zOm)),rfl,rfl,rfl,qm _⟩
 .intro b l
  rcases l with l|l
  .have:=s.imm b l;simp;omega
  .simp;omega
 .intro i c j g r t C
  obtain⟨P,R,T⟩:=s.obj i c j g r t C;exact⟨P,by rw[key j ⟨i,_,g,r,t,C⟩];exact R,T.mono p J⟩
 .intro i c j g r t C I
  rcases I with I|I
  .exact s.live i c j g r t C I
  .have:=s.livesize ⟨i,c,g,r,t,C⟩;omega
theorem Stp.allocNew(s:Sim G mu w.heap)(o:Obj)(c:Cell)(t:Nat)
  (ha:c ≠ .dead->vP G w.heap t o c) :
  Stp G mu w ⟨G.imm,G.blk++[(w.heap.size,t)]⟩ (mu++[c]) (w.alloc o):=by
 have C:G.le ⟨G.imm,G.blk++[(w.heap.size,t)]⟩:=⟨fun b h=>h,fun i x h=>by
  have:i<G.blk.length:=(qk.1 h).1;show (G.blk++[_])[i]?=_;rw[qo this];exact h⟩
 have he:=UX s o;have key:∀ b,Live G mu b->(w.alloc o).heap[b]?=w.heap[b]?:=fun b P=>Zg w o b (s.livesize P)
 have a7:=s.len;refine⟨C,⟨by simp[s.len],?_,?_,?_,?_,s.tab.mono C.imm he.keep⟩,fun b P _=>Zg w o b P,zSp,?_,fun b h => .inl h,rfl,rfl,rfl,qm _⟩
 .intro b P
  have:=s.imm b P;simp;omega
 .intro i c' r g hc R I
  rcases z6 hc with ⟨T,p⟩|⟨T,p⟩
  .have l:G.blk[i]?=some (r,g):=by
    rcases z6 I with ⟨_,h⟩|⟨h,_⟩
    .exact h
    .omega
   obtain⟨o',h1,h2⟩:=s.obj i c' r g p R l;exact⟨o',by rw[key r ⟨i,_,g,p,R,l⟩];exact h1,h2.mono C he⟩
  .have l:(r,g)=(w.heap.size,t):=by
    rcases z6 I with ⟨h,_⟩|⟨_,h⟩
    .omega
    .exact h
   obtain⟨rfl,rfl⟩:=Prod.mk.inj l;subst p;exact⟨o,J2 w _,(ha R).mono C he⟩
 .intro i c' r g hc R I J
  rcases z6 hc with ⟨T,p⟩|⟨T,p⟩
  .have l:G.blk[i]?=some (r,g):=by
    rcases z6 I with ⟨_,h⟩|⟨h,_⟩
    .exact h
    .omega
   exact s.live i c' r g p R l J
  .have l:(r,g)=(w.heap.size,t):=by
    rcases z6 I with ⟨h,_⟩|⟨_,h⟩
    .omega
    .exact h
   have:=s.imm r J;obtain⟨rfl,_⟩:=Prod.mk.inj l;omega
 .intro i j ci cj b ti tj T hj a3 a4 U a0
  rcases z6 T with ⟨a5,a1⟩|⟨a5,a1⟩<;>rcases z6 hj with ⟨a6,a2⟩|⟨a6,a2⟩
  .have a:G.blk[i]?=some (b,ti):=by
    rcases z6 U with ⟨_,h⟩|⟨h,_⟩
    .exact h
    .omega
   have c:G.blk[j]?=some (b,tj):=by
    rcases z6 a0 with ⟨_,h⟩|⟨h,_⟩
    .exact h
    .omega
   exact s.inj i j ci cj b ti tj a1 a2 a3 a4 a c
  .have a:G.blk[i]?=some (b,ti):=by
    rcases z6 U with ⟨_,h⟩|⟨h,_⟩
    .exact h
    .omega
   have c:(b,tj)=(w.heap.size,t):=by
    rcases z6 a0 with ⟨h,_⟩|⟨_,h⟩
    .omega
    .exact h
   have:=s.livesize ⟨i,ci,ti,a1,a3,a⟩;have:=(Prod.mk.inj c).1;omega
  .have a:G.blk[j]?=some (b,tj):=by
    rcases z6 a0 with ⟨_,h⟩|⟨h,_⟩
    .exact h
    .omega
   have c:(b,ti)=(w.heap.size,t):=by
    rcases z6 U with ⟨h,_⟩|⟨_,h⟩
    .omega
    .exact h
   have:=s.livesize ⟨j,cj,tj,a2,a4,a⟩;have:=(Prod.mk.inj c).1;omega
  .omega
 .intro b P
  obtain⟨i,c',t',hc,R,I⟩:=P;rcases z6 hc with ⟨T,p⟩|⟨T,p⟩
  .have l:G.blk[i]?=some (b,t'):=by
    rcases z6 I with ⟨_,h⟩|⟨h,_⟩
    .exact h
    .omega
   exact .inl ⟨i,c',t',p,R,l⟩
  .have l:(b,t')=(w.heap.size,t):=by
    rcases z6 I with ⟨h,_⟩|⟨_,h⟩
    .omega
    .exact h
   exact .inr (zW1 ((Prod.mk.inj l).1))
theorem vd{J:Type}{l:List J}{a x:J}{i j:Nat}(h:(l.set i a)[j]?=some x):(j=i/\x=a)\/(j≠i/\l[j]?=some x):=by
 rw[K9]at h;by_cases g:i=j
 .subst g
  rw[if_pos rfl]at h;split at h
  .exact .inl ⟨rfl,(Option.some.inj h).symm⟩
  .exact absurd h zSp
 .rw [if_neg g]at h;exact .inr ⟨fun e=>g e.symm,h⟩
theorem Stp.write{w':j3}(s:Sim G mu w.heap)(i:Nat)(c:Cell)(c':Cell)(C I:Nat)(o:Obj)
  (R:mu[i]?=some c) (T:c ≠ .dead) (a9:c' ≠ .dead) (hk:G.blk[i]?=some (C,I))
  (hw:w'.heap.size=w.heap.size) (ho:w'.heap[C]?=some o) (l:∀ b,b≠C->w'.heap[b]?=w.heap[b]?)
  (ht:w'.tape=w.tape) (a4:w'.os=w.os) (a1:w'.output=w.output)
  (ha:vP G w.heap I o c') (hdr:w.drawn<=w'.drawn:=by exact qm _) :
  Stp G mu w G (mu.set i c') w':=by
 have a5:Live G mu C:=⟨i,c,I,R,T,hk⟩;have he:Ext G w.heap w'.heap:=⟨zOm,fun b hb=>l b (fun e=>by subst e;exact s.live i c b I R T hk hb)⟩;have a6:∀(j:Nat) (P:Cell) b t,j≠i->mu[j]?=some P->P ≠ .dead->G.blk[j]?=some (b,t)->b≠C:=by
  intro j P b t hj r p g e;subst e;exact hj (s.inj j i P c b t I r R p T g hk)
 refine⟨.refl G,⟨by simpa using s.len,?_,?_,?_,?_,s.tab.mono (fun _ h=>h) he.keep⟩,?_,zOm,?_,fun b h => .inl h,ht,a4,a1,hdr⟩
 .intro b hb;have:=s.imm b hb;omega
 .intro j P b t r p g
  rcases vd r with ⟨rfl,hx⟩|⟨hj,hx⟩
  .rw [hk]at g
   obtain⟨rfl,rfl⟩:=Prod.mk.inj (Option.some.inj g);subst hx;exact⟨o,ho,ha.mono (.refl G) he⟩
  .obtain ⟨o',h1,h2⟩:=s.obj j P b t hx p g
   exact⟨o',by rw[l b (a6 j _ b t hj hx p g)];exact h1,h2.mono (.refl G) he⟩
 .intro j P b t r p g
  rcases vd r with ⟨rfl,hx⟩|⟨hj,hx⟩
  .rw [hk]at g
   obtain⟨rfl,rfl⟩:=Prod.mk.inj (Option.some.inj g);exact s.live j c _ _ R T hk
  .exact s.live j P b t hx p g
 .intro a b ca cb J ta tb a7 a8 a2 a3 U a0
  rcases vd a7 with ⟨rfl,hx⟩|⟨hj,hx⟩<;>rcases vd a8 with ⟨rfl,hy⟩|⟨aa,hy⟩
  .rfl
  .exact s.inj a b c cb J ta tb R hy T a3 U a0
  .exact s.inj a b ca c J ta tb hx R a2 T U a0
  .exact s.inj a b ca cb J ta tb hx hy a2 a3 U a0
 .intro b hb hl
  exact l b (fun e=>hl (e ▸ a5))
 .intro b hb
  obtain⟨j,P,t,r,p,g⟩:=hb;rcases vd r with ⟨rfl,hx⟩|⟨hj,hx⟩
  .exact .inl ⟨j,c,t,R,T,g⟩
  .exact .inl ⟨j,P,t,hx,p,g⟩
theorem Stp.kill(s:Sim G mu w.heap)(i:Nat):Stp G mu w G (mu.set i .dead) w:=by
 refine⟨.refl G,⟨by simpa using s.len,s.imm,?_,?_,?_,s.tab⟩,fun _ _ _=>rfl,qm _,?_,fun b h => .inl h,rfl,rfl,rfl,qm _⟩
 .intro j p b t l g o
  rcases vd l with ⟨rfl,hx⟩|⟨J,hx⟩
  .exact absurd hx g
  .exact s.obj j p b t hx g o
 .intro j p b t l g o hi
  rcases vd l with ⟨rfl,hx⟩|⟨J,hx⟩
  .exact g hx
  .exact s.live j p b t hx g o hi
 .intro a b ca cb r ta tb P R C I T U
  rcases vd P with ⟨rfl,hx⟩|⟨J,hx⟩
  .exact absurd hx C
  .rcases vd R with ⟨rfl,hy⟩|⟨a0,hy⟩
   .exact absurd hy I
   .exact s.inj a b ca cb r ta tb hx hy C I T U
 .intro b hb
  obtain⟨j,p,t,l,g,o⟩:=hb;rcases vd l with ⟨rfl,hx⟩|⟨J,hx⟩
  .exact absurd hx g
  .exact .inl ⟨j,p,t,hx,g,o⟩
end
end Go.Ev
namespace Go.Ev
open Go Go.RowKit
section
variable {cs:Array uk}{mu:Mu}{P:j1}{t:j2}{w:j3}
def szOf(P:j1)(t:j2):Option Nat:=(P.info? t).map (·.size)
def zg(P:j1)(t:j2):Option Bool:=(P.underlying t).map fun | .struct _ | .array .. => true|_=>false
def qC(P:j1)(t:j2):Option AV:=((P.info? t).bind (·.zero)).map ofV
def qN(P:j1)(t:j2):Option (j2×Nat×Nat):=
 match P.underlying t with
 |some (.slice e)=>(P.info? e).map fun i=>(e,i.size,i.bytes)
 |_=>none
def qG(P:j1)(s f:Nat):Option (Nat×j2×Nat):=
 match P.underlying s with
 |some (.struct i)=>(i[f]?).bind fun g=>match szOf P g.type with|some (n+1)=>some (g.offset,g.type,n+1)|_=>none
 |_=>none
def ZO(P:j1)(t:j2):Option (Nat×j2×Nat):=
 match P.underlying t with
 |some (.array n e)=>(szOf P e).map fun k=>(n,e,k)
 |_=>none
theorem J3{b:Bool}(h:zg P t=some b)(w:j3):(isAgg t).run P w = .ok b w:=by
 unfold zg at h;cases g:P.underlying t with
 |none=>simp[g]at h
 |some d =>
  simp only[g,zd,qp]at h;subst h;simp only[isAgg,qT,run_underlying g,Result.andThen];cases d<;>rfl
theorem jk{n:Nat}(h:szOf P t=some n)(w:j3):(sizeOf t).run P w = .ok n w:=by
 unfold szOf at h;cases g:P.info? t with
 |none=>simp[g]at h
 |some d =>
  simp only[g,zd,qp]at h;subst h;simp[sizeOf,typeInfo,g]
theorem Zh{x:AV}(h:qC P t=some x)(w:j3):∃ v,(zeroValue t).run P w = .ok v w/\x=ofV v:=by
 unfold qC at h;cases g:P.info? t with
 |none=>simp[g]at h
 |some d =>
  simp only[g,Option.bind_some,j8]at h;obtain⟨v,i,rfl⟩:=h;exact⟨v,by simp[zeroValue,typeInfo,g,i],rfl⟩
theorem Zi{a:Addr}{e:j2}{i:Nat×Nat}(g:w.heap[a.block]?=some (.cells cs e i))(j:a.spot=none)(k:Nat) :
  w.cell? (a.add k)=cs[a.off+k]?:=by
 unfold Addr.add;split
 .rename_i h;subst h;simp[World.cell?,g,j]
 .simp [World.cell?,g]
@[go_sem] def vw(mu:Mu):AV->Nat->Option (List AV)
 | .ip g,n=>if n<=g.length then some (g.take n) else none
 | .ptr b off,n=>match mu[b]? with
  |some (.arr cells)=>if off+n<=cells.length then some ((cells.drop off).take n) else none
  |_=>none
 |_,_=>none
theorem kf{G:Gh}(s:Sim G mu w.heap){p:AV}{v:uk}(r:VRel G w.heap p v){n:Nat}{cs:List AV}(h:vw mu p n=some cs) :
  ∃(a:Addr) (rd:Nat->uk),v = .pointer (some a)/\cs.length=n/\∀(k:Nat) x,cs[k]?=some x->w.cell? (a.add k)=some (rd k)/\VRel G w.heap x (rd k):=by
 cases r with
 |ip j a arr e fr rd l t hi C I =>
  simp only[vw]at h;split at h
  .rename_i J
   simp only[qp]at h;subst h;refine⟨a,rd,rfl,zSo,fun k x hx=>?_⟩;have g:j[k]?=some x:=by
    rw[jp]at hx;split at hx
    .exact hx
    .exact absurd hx zSp
   exact⟨by rw[Zi l t];exact C k x g,I k x g⟩
  .exact absurd h zSp
 |ptr b off i o l =>
  simp only[vw]at h;split at h
  .rename_i cells P
   obtain⟨arr,e,R,h2,h3,T⟩:=s.arr b cells i o P l;split at h
   .rename_i J
    simp only[qp]at h;subst h;refine⟨⟨i,off,none⟩,fun k=>arr.getD (off+k) xa,rfl,zSo,fun k x hx=>?_⟩;have g:cells[off+k]?=some x:=by
     rw[jp]at hx;split at hx
     .rwa [jF]at hx
     .exact absurd hx zSp
    refine⟨?_,(T _ _ g).2⟩;rw[Zi (a:=⟨i,off,none⟩) R rfl];have U:off+k<cells.length:=(qk.1 g).1;have:off+k<arr.size:=zOm;simp[qH,this]
   .exact absurd h zSp
  .exact absurd h zSp
 |_=>exact absurd h (by simp[vw])
@[go_sem] def wu(P:j1)(mu:Mu)(t:j2)(p:AV):Option AV:=
 match zg P t,szOf P t with
 |some true,some n=>(vw mu p n).map .agg
 |some false,some _=>(vw mu p 1).bind fun | [x]=>some x|_=>none
 |_,_=>none
theorem kh{G:Gh}(s:Sim G mu w.heap){t:j2}{p:AV}{v:uk}(r:VRel G w.heap p v){x:AV}(h:wu P mu t p=some x) :
  ∃ a u,v = .pointer (some a)/\(loadVar t a).run P w = .ok u w/\VRel G w.heap x u:=by
 unfold wu at h;split at h
 .rename_i n C T
  cases g:vw mu p n with
  |none=>simp[g]at h
  |some I =>
   simp only[g,zd,qp]at h;subst h;obtain⟨a,rd,rfl,l,o⟩:=kf s r g;have i:=run_loadCells (P:=P) w a n rd (fun j U=>(o j I[j] (by simp[l,U])).1);refine⟨a,.agg ((qu n).map rd).toArray,rfl,?_,?_⟩
   .simp [loadVar,J3 C,jk T,i]
   .refine .agg _ _ (zP1 l) (fun k x hx=>?_)
    have J:k<n:=by rw[<-l];exact(qk.1 hx).1
    have:(((qu n).map rd).toArray).getD k xa=rd k:=by simp[qH,J]
    rw[this];exact(o k x hx).2
 .rename_i n C T
  cases g:vw mu p 1 with
  |none=>simp[g]at h
  |some I =>
   simp only[g,Option.bind_some]at h
   match I,g,h with
   | [y],g,h =>
    simp only[qp]at h;subst h;obtain⟨a,rd,rfl,l,o⟩:=kf s r g;have R:=o 0 y rfl;rw[show a.add 0=a by simp[Addr.add]]at R;exact⟨a,rd 0,rfl,by simp[loadVar,J3 C,R.1],R.2⟩
 .exact absurd h zSp
def putCells(cells:List AV)(off:Nat)(xs:List AV):List AV:=
 match xs with
 | [x]=>cells.set off x
 |xs=>cells.take off++xs++cells.drop (off+xs.length)
@[go_sem] theorem qo5(z:List AV)(o:Nat)(x:AV):putCells z o [x]=z.set o x:=rfl
@[go_sem] theorem qo6(z:List AV)(o:Nat)(x y:AV)(l:List AV):putCells z o (x :: y :: l)=z.take o++(x :: y :: l)++z.drop (o+(x :: y :: l).length):=rfl
@[go_sem] theorem qo7(z:List AV)(o:Nat):putCells z o []=z.take o++[]++z.drop (o+0):=rfl
theorem jl(cells:List AV)(off:Nat)(xs:List AV)(h:off+xs.length<=cells.length):putCells cells off xs=cells.take off++xs++cells.drop (off+xs.length):=by
 unfold putCells;split
 .rename_i x
  simp at h;rw[List.set_eq_take_append_cons_drop,if_pos zOm];simp
 .rfl
@[go_sem] def J4(P:j1)(mu:Mu)(t:j2)(p x:AV):Option Mu:=
 match p,szOf P t with
 | .ptr b off,some n=>match mu[b]? with
  |some (.arr cells)=>if x.cells.length=n/\off+n<=cells.length/\x.cells.all AV.one=true then some (mu.set b (.arr (putCells cells off x.cells))) else none
  |_=>none
 |_,_=>none
theorem qcM{k:Nat}{v:uk}(h:cs[k]?=some v):cs.getD k xa=v:=by simp[qH,h]
theorem qcN{G:Gh}{mu':Mu}(s:Sim G mu w.heap){t:j2}{p x:AV}{v u:uk}(r:VRel G w.heap p v)(rx:VRel G w.heap x u)(h:J4 P mu t p x=some mu') :
  ∃ a w',v = .pointer (some a)/\(storeVar t a u).run P w = .ok () w'/\Stp G mu w G mu' w':=by
 unfold J4 at h;split at h
 .rename_i b off n hn
  split at h
  .rename_i cells hc
   split at h
   .rename_i J
    obtain⟨R,a5,C⟩:=J;simp only[qp]at h;subst h;cases r with
    |ptr _ _ g U hb =>
     obtain⟨arr,e,h1,h2,h3,h4⟩:=s.arr b cells g U hc hb;obtain⟨l,o,T⟩:=rx.cells (fun c a2=>by simpa using qI.1 C c a2);have I:=run_storeCells_at P g off e u.cells.toList 0 arr w h1 (by simp[l];omega) T;simp only[Nat.add_zero]at I;refine⟨⟨g,off,none⟩,w.setRow g (arr.toList.take off++u.cells.toList++arr.toList.drop (off+u.cells.toList.length)).toArray,rfl,?_,?_⟩
     .simp only[storeVar,qT,jk hn,qW]
      rw[if_neg (by rw[l,R];simp)];simpa using I
     .refine Stp.write s b (.arr cells) _ g U (.cells (arr.toList.take off++u.cells.toList++arr.toList.drop (off+u.cells.toList.length)).toArray e (0,0)) hc zSp zSp hb zSp (setRow_heap w g arr _ e _ h1)
       (fun k hk=>setRow_other w g k _ hk) rfl rfl rfl ?_
      have a3:u.cells.toList.length=n:=by simp[l,R]
      refine⟨_,e,rfl,by simp[l];omega,by rw[jl _ _ _ zOm];simp;omega,?_⟩;intro j y i;rw[jl _ _ _ zOm]at i;rw[zE]at i;by_cases a0:j<off
      .rw [qo zSo,jp,if_pos a0]at i
       have:=h4 j y i;refine⟨this.1,?_⟩;have e1:(((arr.toList.take off++u.cells.toList++arr.toList.drop (off+u.cells.toList.length)).toArray).getD j xa)=arr.getD j xa:=by
        simp only[qH,Qf,zE];rw[qo zSo,jp,if_pos a0,uI]
       rw[e1];exact this.2
      .rw [zf zSo]at i
       have a1:(cells.take off).length=off:=zSo;rw[a1]at i;by_cases a6:j-off<n
       .rw [qo zOm]at i
        refine⟨by simpa using qI.1 C y (qV i),?_⟩;have:=o (j-off) y i;have e1:(((arr.toList.take off++u.cells.toList++arr.toList.drop (off+u.cells.toList.length)).toArray).getD j xa)=u.cells.getD (j-off) xa:=by
         simp only[qH,Qf,zE];rw[zf zSo];have:(arr.toList.take off).length=off:=zSo;rw[this,qo zOm,uI]
        rw[e1];exact this
       .rw [zf zOm,jF,R]at i
        have a4:cells[j]?=some y:=by rw[<-i];congr 1;omega
        have:=h4 j y a4;refine⟨this.1,?_⟩;have e1:(((arr.toList.take off++u.cells.toList++arr.toList.drop (off+u.cells.toList.length)).toArray).getD j xa)=arr.getD j xa:=by
         simp only[qH,Qf,zE];rw[zf zSo];have:(arr.toList.take off).length=off:=zSo;rw[this,zf zOm,jF,uI,a3];congr 2;omega
        rw[e1];exact this.2
   .exact absurd h zSp
  .exact absurd h zSp
 .exact absurd h zSp
end
end Go.Ev
namespace Go.Ev
open Go Go.RowKit
section
variable {x z:AV}{h:Array Obj}{G:Gh}{xs:List (List AV)}{sz:Nat}{P:j1}{t:j2}{u:uk}{w:j3}
def Good(P:j1)(G:Gh)(mu:Mu)(w:j3)(s:Sem uk)(x:AV)(mu':Mu):Prop:=
 ∃ v g i,s.run P w = .ok v g/\Stp G mu w i mu' g/\VRel i g.heap x v
theorem Good.quiet{mu:Mu}(s:Sim G mu w.heap){c:Sem uk}{x:AV}{v:uk}(h:c.run P w = .ok v w)(r:VRel G w.heap x v):Good P G mu w c x mu:=
 ⟨v,w,G,h,.refl s,r⟩
theorem UY:(∀ r,r∈xs->r.length=sz)->∀{i k:Nat} {r:List AV} {x:AV},xs[i]?=some r->r[k]?=some x->xs.flatten[i*sz+k]?=some x:=by
 induction xs with
 |nil=>intro _ i k r x h;simp at h
 |cons y j l =>
  intro g i k r x h hx;have o:=g y zSp;cases i with
  |zero =>
   grind
  |succ i =>
   grind
theorem jG(h:∀ r,r∈xs->r.length=sz):xs.flatten.length=xs.length*sz:=by
 induction xs with
 |nil=>simp
 |cons y j g =>
  grind
@[go_sem] def aInt(op:BinOp)(k:IntKind)(a b:Int):Option AV:=
 match op with
 | .add=>some (.sc (.int k (k.wrap (a+b))))
 | .sub=>some (.sc (.int k (k.wrap (a-b))))
 | .mul=>some (.sc (.int k (k.wrap (a*b))))
 | .quo=>if b=0 then none else some (.sc (.int k (k.wrap (a.tdiv b))))
 | .rem=>if b=0 then none else some (.sc (.int k (a.tmod b)))
 | .eql=>some (.sc (.bool (a == b)))
 | .neq=>some (.sc (.bool (a != b)))
 | .lss=>some (.sc (.bool (decide (a<b))))
 | .leq=>some (.sc (.bool (decide (a<=b))))
 | .gtr=>some (.sc (.bool (decide (a > b))))
 | .geq=>some (.sc (.bool (decide (a>=b))))
 |_=>none
@[go_sem] def aStr(op:BinOp)(x y:ByteArray):Option AV:=
 match op with
 | .eql=>some (.sc (.bool (x.toList == y.toList)))
 | .neq=>some (.sc (.bool (!(x.toList == y.toList))))
 | .lss=>some (.sc (.bool (Op.bytesLess x.toList y.toList)))
 | .add=>if x.size+y.size<=9223372036854775807 then some (.sc (.string (x++y))) else none
 |_=>none
@[go_sem] def aEqs:List AV->List AV->Option Bool
 | [],[]=>some true
 | .sc (.int k a) :: p,.sc (.int g b) :: j=>if k=g then (if a == b then aEqs p j else some false) else none
 |_,_=>none
def UZ(P:j1)(t:j2):Bool:=match P.underlying t with|some .bool=>true|_=>false
def ki(P:j1)(t:j2):Bool:=match P.underlying t with|some (.int _)=>true|_=>false
def ZP(P:j1):List Field->Nat->Bool
  | [],_=>true
  | f :: g, i => f.offset == i && f.name != "_" && ki P f.type && ZP P g (i + 1)
def U0(P:j1)(t:j2):Option Nat:=
 match P.underlying t with
 |some (.struct g)=>if ZP P g.toList 0=true/\P.stoodInHeld t=false/\P.eqGuardType P.depth t=false then some g.size else none
 |some (.array n e)=>match P.underlying e,szOf P e with
  |some (.int _),some 1=>if P.eqGuardType P.depth t=false then some n else none
  |_,_=>none
 |_=>none
def U1(P:j1)(t:j2):Bool:=match P.underlying t with|some (.interface _)=>true|_=>false
def U2(P:j1)(t:j2):Bool:=match P.underlying t with|some (.interface g)=>g.isEmpty|_=>false
def Qg(P:j1)(t:j2):Bool:=match P.underlying t with|some (.pointer _)=>true|_=>false
@[go_sem] def kj(op:BinOp)(k:IntKind)(a b:Int):Option AV:=
 if b<0 then none else match op with
  | .shl=>some (.sc (.int k (k.wrap (a*2 ^ (min b.toNat k.bits)))))
  | .shr=>some (.sc (.int k (a.fdiv (2 ^ (min b.toNat k.bits)))))
  |_=>none
@[go_sem] def aBin(P:j1)(op:BinOp)(t:j2)(x y:AV):Option AV:=
 match x,y with
 | .sc (.int k a),.sc (.int g b)=>if op = .shl\/op = .shr then kj op k a b else if k=g then aInt op k a b else none
 | .sc (.bool a),.sc (.bool b)=>if UZ P t=true then (match op with | .eql=>some (.sc (.bool (a == b))) | .neq=>some (.sc (.bool (!(a == b))))|_=>none) else none
 | .sc (.string a),.sc (.string b)=>aStr op a b
 | .ifc _ _,.sc .nilIface=>if U1 P t=true then (match op with | .eql=>some (.sc (.bool false)) | .neq=>some (.sc (.bool true))|_=>none) else none
 | .sc .nilIface,.sc .nilIface=>if U2 P t=true then (match op with | .eql=>some (.sc (.bool true)) | .neq=>some (.sc (.bool false))|_=>none) else none
 | .sc (.pointer none),.sc (.pointer none)=>if Qg P t=true then (match op with | .eql=>some (.sc (.bool true)) | .neq=>some (.sc (.bool false))|_=>none) else none
 | .ip _,.sc (.pointer none)=>if Qg P t=true then (match op with | .eql=>some (.sc (.bool false)) | .neq=>some (.sc (.bool true))|_=>none) else none
 | .ptr _ _,.sc (.pointer none)=>if Qg P t=true then (match op with | .eql=>some (.sc (.bool false)) | .neq=>some (.sc (.bool true))|_=>none) else none
 |_,_=>none
theorem qcO{k:IntKind}{a b:Int}(g:¬b=0):(Op.intDiv .quo k a b).run P w=(Pure.pure (.int k (k.wrap (a.tdiv b))):Sem uk).run P w:=by
 unfold Op.intDiv;rw[if_neg g]
theorem qcP{k:IntKind}{a b:Int}(g:¬b=0):(Op.intDiv .rem k a b).run P w=(Pure.pure (.int k (a.tmod b)):Sem uk).run P w:=by
 unfold Op.intDiv;rw[if_neg g]
theorem qcQ(d:Nat){t u:j2}{x:uk}{g:Array (String×j2)}(i:P.underlying t=some (.interface g)) :
  (Op.equalIn (d+1) t (.iface u x) .nilIface).run P w = .ok false w:=by
 simp[Op.equalIn,run_underlying i]
theorem qcR(d:Nat){t:j2}{g:Array (String×j2)}(i:P.underlying t=some (.interface g)) :
  (Op.equalIn (d+1) t .nilIface .nilIface).run P w = .ok true w:=by
 simp[Op.equalIn,run_underlying i]
theorem qcS(d:Nat){t:j2}{g:Array (String×j2)}(i:P.underlying t=some (.interface g))(j:g.isEmpty=true) :
  (Op.eqGuardIn (d+1) t .nilIface .nilIface).run P w = .ok false w:=by
 simp[Op.eqGuardIn,run_underlying i,j]
theorem qcT(d:Nat){t e:j2}{a:Option Addr}(g:P.underlying t=some (.pointer e)) :
  (Op.equalIn (d+1) t (.pointer a) (.pointer none)).run P w = .ok a.isNone w:=by
 cases a<;>simp[Op.equalIn,run_underlying g]
theorem qcU(h:Qg P t=true):∃ e,P.underlying t=some (.pointer e):=by
 grind [Qg,absurd]
theorem U3{op:BinOp}{ox oy:us}{a:Option Addr}{b c:Bool}(g:Qg P t=true)(i:a.isNone=b)(j:(!b)=c){z:AV}{G:Gh}
  (h:(match op with | .eql=>some (AV.sc (.bool b)) | .neq=>some (AV.sc (.bool c))|_=>none)=some z):∃ r,(do eqGuard op t ox oy (.pointer a) (.pointer none);binOp op t (.pointer a) (.pointer none):Sem uk).run P w = .ok r w/\VRel G w.heap z r:=by
 obtain⟨e,l⟩:=qcU g;have hg:(eqGuard op t ox oy (.pointer a) (.pointer none)).run P w = .ok () w:=by
  unfold eqGuard;cases op<;>rfl
 simp only[qT,hg,qW];have o:(Op.equal t (.pointer a) (.pointer none)).run P w = .ok a.isNone w:=qcT 9999 l;subst i;subst j;cases op<;>simp only[qp]at h<;>first
  | (simp at h;done)
  | (subst h;refine⟨_,?_,.sc _ rfl⟩;simp[binOp,o];done)
theorem qcV{op:BinOp}{y:AV}{ox oy:us}{v:uk}(j:VRel G w.heap x u)(l:VRel G w.heap y v)(h:aBin P op t x y=some z) :
    ∃ r,(do eqGuard op t ox oy u v;binOp op t u v:Sem uk).run P w = .ok r w/\VRel G w.heap z r:=by
  unfold aBin at h;split at h
  ·
    rename_i k a T b;cases j;cases l;split at h
    · unfold kj at h
      split at h
      · cases h
      · rename_i g
        have hg:(eqGuard op t ox oy (.int k a) (.int T b)).run P w = .ok () w:=by
          unfold eqGuard;cases op<;>rfl
        simp only[qT,hg,qW];cases op<;>simp only[qp]at h<;>first
          | (cases h;done)
          | (subst h;refine⟨_,?_,.sc _ rfl⟩;simp[binOp,Op.shift,g];done)
    · rename_i U
      split at h
      · rename_i hk;subst hk
        have hg:(eqGuard op t ox oy (.int k a) (.int k b)).run P w = .ok () w:=by
          unfold eqGuard;cases op<;>rfl
        simp only[qT,hg,qW];unfold aInt at h;cases op<;>simp only[qp]at h<;>first
          | (simp at h;done)
          | (subst h;refine⟨_,?_,.sc _ rfl⟩;simp[binOp,Op.intArith,Op.intCmp];done)
          | (split at h
             · exact absurd h zSp
             · rename_i g
               simp only[qp]at h;subst h;refine⟨_,?_,.sc _ rfl⟩;simp[binOp,qcO g,qcP g];done)
          | (exfalso;simp at U)
      grind
  · rename_i a b
    cases j;cases l;split at h
    · rename_i g
      have i:P.underlying t=some .bool:=by
        grind [UZ,absurd]
      have hg:(eqGuard op t ox oy (.bool a) (.bool b)).run P w = .ok () w:=by
        unfold eqGuard;cases op<;>rfl
      simp only[qT,hg,qW];cases op<;>simp only[qp]at h<;>first
        | (simp at h;done)
        | (subst h;refine⟨_,?_,.sc _ rfl⟩;simp[binOp,Op.equal,Op.maxDepth,run_equalIn_bool' w 9999 t a b i];done)
    grind
  · rename_i a b
    cases j;cases l;have hg:(eqGuard op t ox oy (.string a) (.string b)).run P w = .ok () w:=by
      unfold eqGuard;cases op<;>rfl
    simp only[qT,hg,qW];unfold aStr at h;cases op<;>simp only[qp]at h<;>first
      | (simp at h;done)
      | (subst h;refine⟨_,?_,.sc _ rfl⟩;simp[binOp,Op.stringOp];done)
      | (split at h
         · rename_i g
           simp only[qp]at h;subst h;refine⟨_,?_,.sc _ rfl⟩;have:¬(((a.size+b.size:Nat):Int) > qj.max):=by simp[IntKind.max,IntKind.signed,IntKind.bits];omega
           simp only[binOp,Op.stringOp,if_neg this,zD]
         · exact absurd h zSp)
  · rename_i J vv
    cases l;cases j with
    |ifc _ _ R hv =>
    split at h
    · rename_i g
      have i:∃ o,P.underlying t=some (.interface o):=by
        unfold U1 at g;split at g
        · exact⟨_,by assumption⟩
        · exact absurd g zSp
      obtain⟨o,i⟩:=i;have hg:(eqGuard op t ox oy (.iface J R) .nilIface).run P w = .ok () w:=by
        unfold eqGuard;cases op<;>rfl
      simp only[qT,hg,qW];have p:(Op.equal t (.iface J R) .nilIface).run P w = .ok false w:=qcQ 9999 i;cases op<;>simp only[qp]at h<;>first
        | (simp at h;done)
        | (subst h;refine⟨_,?_,.sc _ rfl⟩;simp[binOp,p];done)
    · exact absurd h zSp
  · cases j
    cases l;split at h
    · rename_i g
      have i:∃ o,P.underlying t=some (.interface o)/\o.isEmpty=true:=by
        unfold U2 at g;split at g
        · exact⟨_,by assumption,g⟩
        · exact absurd g zSp
      obtain⟨o,i,C⟩:=i;have hg:(eqGuard op t ox oy .nilIface .nilIface).run P w = .ok () w:=by
        have I:(Op.eqGuardIn Op.maxDepth t .nilIface .nilIface).run P w = .ok false w:=qcS 9999 i C;unfold eqGuard;cases op<;>first|rfl | (simp only[qT,Sem.run_ite,I,qW];simp)
      simp only[qT,hg,qW];have p:(Op.equal t .nilIface .nilIface).run P w = .ok true w:=qcR 9999 i;cases op<;>simp only[qp]at h<;>first
        | (simp at h;done)
        | (subst h;refine⟨_,?_,.sc _ rfl⟩;simp[binOp,p];done)
    · exact absurd h zSp
  · cases j
    cases l;split at h
    · rename_i g;exact U3 g rfl rfl h
    · exact absurd h zSp
  · cases l
    cases j;split at h
    · rename_i g;exact U3 g rfl rfl h
    · exact absurd h zSp
  · cases l
    cases j;split at h
    · rename_i g;exact U3 g rfl rfl h
    · exact absurd h zSp
  grind
@[go_sem] def aUn(op:UnOp):AV->Option AV
 | .sc (.bool b)=>match op with | .not=>some (.sc (.bool !b))|_=>none
 | .sc (.int k n)=>match op with | .neg=>some (.sc (.int k (k.wrap (0-n))))|_=>none
 |_=>none
theorem qcW{op:UnOp}(g:VRel G w.heap x u)(h:aUn op x=some z) :
  ∃ r,(Op.unary op u).run P w = .ok r w/\VRel G w.heap z r:=by
 unfold aUn at h;split at h
 .cases g
  split at h
  .simp only[qp]at h;subst h
   exact⟨_,rfl,.sc _ rfl⟩
  grind
 .cases g
  split at h
  .simp only[qp]at h;subst h
   exact⟨_,rfl,.sc _ rfl⟩
  grind
 grind
@[go_sem] def J5(P:j1)(src g:j2):AV->Option AV
 | .sc (.int _ n)=>match P.underlying g with|some (.int k)=>some (.sc (.int k (k.wrap n)))|_=>none
 | .lst _ [[.sc (.int .u8 n)]]=>match P.underlying src with
  |some (.slice e)=>match P.underlying e,P.underlying g with
   |some (.int .u8),some .string=>some (.sc (.string (ByteArray.empty.push (UInt8.ofNat n.toNat))))
   |_,_=>none
  |_=>none
 |_=>none
theorem qcX{src g:j2}(J:VRel G w.heap x u)(p:∃ d,P.underlying src=some d)(h:J5 P src g x=some z) :
  ∃ r,(convert src g u).run P w = .ok r w/\VRel G w.heap z r:=by
 unfold J5 at h;obtain⟨d,p⟩:=p;split at h
 .cases J
  split at h
  .rename_i k U
   simp only[qp]at h;subst h;refine⟨_,?_,.sc _ rfl⟩;simp only[convert,qT,run_underlying p,run_underlying U,qW];simp[Conv.intToInt]
  grind
 .rename_i f n
  split at h
  .rename_i e i
   split at h
   .rename_i he t
    simp only[qp]at h;subst h;cases J with
    |lst _ _ l a cap cs e' fr rd hb C hl hc hi hz hr hv =>
     have R:VRel G w.heap (.sc (.int .u8 n)) (rd 0):=hv 0 _ rfl;have T:cs[a.off+0]?=some (rd 0):=hr 0 _ rfl;generalize rd 0=q at R T;cases R;refine⟨_,?_,.sc _ rfl⟩;rw[run_convert_bytes_string w src g e (some a) _ cap i he t];have I:=run_loadCells_list (P:=P) w a [.int .u8 n] (fun j v o=>by
      match j,o with
      | 0,o =>
       simp only[Yy,qp]at o;subst o;rw[Zi hb C];exact T)
     exact run_bytesToString (P:=P) w a 1 cap [n] I
   grind
  grind
 grind
theorem VRel.ipDrop{cs:List AV}{a:Addr}(r:VRel G h (.ip cs) (.pointer (some a)))(n:Nat):VRel G h (.ip (cs.drop n)) (.pointer (some (a.add n))):=by
 cases r with
 |ip _ _ arr e i rd j l o t C =>
  have g:(a.add n).block=a.block:=by unfold Addr.add;split<;>rfl
  have p:(a.add n).spot=none:=by unfold Addr.add;split<;>simp[l]
  have I:(a.add n).off=a.off+n:=by unfold Addr.add;split<;>simp_all
  refine .ip _ _ arr e i (fun k=>rd (n+k)) (by rw[g];exact j) p (by rw[g];exact o) ?_ ?_
  .grind
  grind
theorem VRel.ptrAdd{b o:Nat}{a:Addr}(r:VRel G h (.ptr b o) (.pointer (some a)))(n:Nat):VRel G h (.ptr b (o+n)) (.pointer (some (a.add n))):=by
 cases r with
 |ptr _ _ g i j =>
  have:(⟨g,o,none⟩:Addr).add n=⟨g,o+n,none⟩:=by unfold Addr.add;split<;>simp_all
  rw[this];exact .ptr b (o+n) g i j
@[go_sem] def addA(p:AV)(n:Nat):Option AV:=
 match p with
 | .ip g=>some (.ip (g.drop n))
 | .ptr b o=>some (.ptr b (o+n))
 |_=>none
theorem kl{p:AV}{v:uk}{n:Nat}(r:VRel G h p v)(e:addA p n=some z):∃ a,v = .pointer (some a)/\VRel G h z (.pointer (some (a.add n))):=by
 unfold addA at e;split at e
 .simp only[qp]at e;subst e
  cases r with
  |ip _ a arr el l rd g o t C I=>exact⟨a,rfl,VRel.ipDrop (.ip _ a arr el l rd g o t C I) n⟩
 .simp only[qp]at e;subst e
  cases r with
  |ptr _ _ i j g=>exact⟨_,rfl,VRel.ptrAdd (.ptr _ _ i j g) n⟩
 grind
@[go_sem] def J6(P:j1)(s f:Nat)(p:AV):Option AV:=(qG P s f).bind fun (off,_,_)=>addA p off
theorem kn{s f off n:Nat}(h:qG P s f=some (off,t,n)) :
  ∃(fs:Array Field) (g:Field),P.underlying s=some (.struct fs)/\fs[f]?=some g/\g.offset=off/\g.type=t/\szOf P t=some n/\n≠0:=by
 unfold qG at h;split at h
 .grind
 grind
theorem qcY{s f:Nat}{p:AV}{v:uk}(r:VRel G w.heap p v)(e:J6 P s f p=some z) :
  ∃ u,(Instr.fieldAt s v f).run P w = .ok u w/\VRel G w.heap z u:=by
 unfold J6 at e;cases hf:qG P s f with
 |none=>simp[hf]at e
 |some x =>
  obtain⟨off,t,n⟩:=x;simp only[hf,Option.bind_some]at e;obtain⟨a,rfl,j⟩:=kl r e;obtain⟨C,I,l,g,rfl,rfl,i,o⟩:=kn hf;refine⟨_,?_,j⟩;simp[Instr.fieldAt,run_underlying l,g,Instr.sureAddr,fieldPlace,jk i,o]
@[go_sem] def J7(P:j1)(t:j2)(x o:AV):Option AV:=
 match o with
 | .sc (.int _ i) =>
  match x,qN P t,ZO P t with
  | .lst _ j,some (_,l,_),_=>if 0<=i/\i<j.length then (match j[i.toNat]? with|some r=>if r.length=l/\l≠0 then some (.ip r) else none|none=>none) else none
  | .sl b g off len,some (_,l,_),_=>if 0<=i/\i<len/\(g=l\/g=0) then some (.ptr b (off+i.toNat*l)) else none
  |p,none,some (n,_,l)=>if 0<=i/\i<n then addA p (i.toNat*l) else none
  |_,_,_=>none
 |_=>none
theorem vQ{e:j2}{bt:Nat}(h:qN P t=some (e,sz,bt)):∃ i,P.underlying t=some (.slice e)/\P.info? e=some i/\i.size=sz/\i.bytes=bt:=by
 unfold qN at h;split at h
 .rename_i g l
  cases j:P.info? g with
  |none=>simp[j]at h
  |some i =>
   grind
 grind
theorem kq{e:j2}{n:Nat}(h:ZO P t=some (n,e,sz)):P.underlying t=some (.array n e)/\szOf P e=some sz:=by
 unfold ZO at h;split at h
 .rename_i l g o
  cases j:szOf P g with
  |none=>simp[j]at h
  |some i =>
   grind
 grind
theorem qcZ{ix:AV}{v:uk}(r:VRel G w.heap x v)(ri:VRel G w.heap ix u)(e:J7 P t x ix=some z) :
  ∃ y,(Instr.indexAt t v u).run P w = .ok y w/\VRel G w.heap z y:=by
 unfold J7 at e;split at e
 .rename_i k i
  cases ri;split at e
  .rename_i full p e' l bt hs
   split at e
   .rename_i J
    split at e
    .rename_i row j
     split at e
     .rename_i hz
      simp only[qp]at e;subst e;obtain⟨a1,R,o,I,a2⟩:=vQ hs;have C:szOf P e'=some l:=by simp[szOf,o,I]
      cases r with
      |nil=>simp at j
      |emp=>simp at j
      |lst _ _ g a cap cs el fr rd hb a3 hl hc T a4 hr hv =>
       have U:g=l:=by grind
       subst U;refine⟨.pointer (some (a.add (i.toNat*g))),?_,?_⟩
       .simp [Instr.indexAt,asIntOf,run_underlying R,J,jk C]
       .have h1:(a.add (i.toNat*g)).block=a.block:=by unfold Addr.add;split<;>rfl
        have h2:(a.add (i.toNat*g)).spot=none:=by unfold Addr.add;split<;>simp[a3]
        have h3:(a.add (i.toNat*g)).off=a.off+i.toNat*g:=by unfold Addr.add;split<;>simp_all
        refine .ip _ _ cs el fr (fun k=>rd (i.toNat*g+k)) (by rw[h1];exact hb) h2 (by rw[h1];exact T) ?_ ?_
        .intro k x hx
         rw[h3,Nat.add_assoc];exact hr _ x (UY a4 j hx)
        grind [UY]
     grind
    grind
   grind
  .rename_i b g off len e' l bt hs
   split at e
   .rename_i J
    obtain⟨a5,a6,_⟩:=J;simp only[qp]at e;subst e;obtain⟨a1,R,o,I,a2⟩:=vQ hs;have C:szOf P e'=some l:=by simp[szOf,o,I]
    cases r with
    |sl _ _ _ _ a0 a7 cap hb ht hl =>
     refine⟨.pointer (some ((⟨a0,off,none⟩:Addr).add (i.toNat*l))),?_,VRel.ptrAdd (.ptr b off a0 a7 hb) _⟩;simp[Instr.indexAt,asIntOf,run_underlying R,a5,a6,jk C]
   grind
  .rename_i n e' l ha
   split at e
   .rename_i J
    obtain⟨R,C⟩:=kq ha;obtain⟨a,rfl,hz⟩:=kl r e;refine⟨_,?_,hz⟩;simp[Instr.indexAt,asIntOf,run_underlying R,Instr.sureAddr,J,jk C]
   .exact absurd e zSp
  grind
 grind
end
end Go.Ev
namespace Go.Ev
open Go Go.RowKit
section
variable {z:AV}{h:Array Obj}{G:Gh}{xs:List (List AV)}{vhi vlo vmx:Option uk}{P:j1}{t:j2}{w:j3}
@[go_sem] def J8(P:j1)(t:j2)(cs:List AV)(off:Nat):Option AV:=
 match zg P t,szOf P t with
 |some true,some n=>if off+n<=cs.length then some (.agg ((cs.drop off).take n)) else none
 |some false,_=>cs[off]?
 |_,_=>none
theorem ku{cs:List AV}{g:Array uk}{off:Nat}
  (C:g.size=cs.length) (l:∀(k:Nat) x,cs[k]?=some x->VRel G w.heap x (g.getD k xa)) (h:J8 P t cs off=some z) :
  ∃ u,(part t g off).run P w = .ok u w/\VRel G w.heap z u:=by
 unfold J8 at h;split at h
 .rename_i n j o
  split at h
  .rename_i p
   simp only[qp]at h;subst h;refine⟨.agg (g.extract off (off+n)),by simp[part,J3 j,jk o],.agg _ _ zSo ?_⟩;intro k x hx;rw[jp]at hx;split at hx
   .rename_i I
    rw[jF]at hx;have:=l _ x hx;have e:(g.extract off (off+n)).getD k xa=g.getD (off+k) xa:=by
     simp only[qH];rw[Array.getElem?_extract_of_lt zOm];have:off+k<g.size:=zOm;simp[this]
    rw[e];exact this
   .exact absurd hx zSp
  .exact absurd h zSp
 .rename_i j
  have:=l off z h;have r:off<cs.length:=(qk.1 h).1;have i:off<g.size:=zOm;refine⟨g.getD off xa,?_,this⟩;simp[part,J3 j,i,qH]
 .exact absurd h zSp
@[go_sem] def J9(P:j1)(s f:Nat)(x:AV):Option AV:=
 match x with
 | .agg g=>(qG P s f).bind fun (off,t,_)=>J8 P t g off
 |_=>none
theorem qc0{s f:Nat}{x:AV}{v:uk}(r:VRel G w.heap x v)(e:J9 P s f x=some z) :
  ∃ u,(Instr.field s v f).run P w = .ok u w/\VRel G w.heap z u:=by
 unfold J9 at e;split at e
 .rename_i J
  cases r with
  |agg _ R i j =>
  cases hf:qG P s f with
  |none=>simp[hf]at e
  |some y =>
   obtain⟨off,t,n⟩:=y;simp only[hf,Option.bind_some]at e;obtain⟨T,U,l,g,rfl,rfl,o,p⟩:=kn hf;obtain⟨u,C,I⟩:=ku i j e;exact⟨u,by simp[Instr.field,run_underlying l,g,asAgg,C],I⟩
 .exact absurd e zSp
@[go_sem] def Va(P:j1)(t:j2)(x g:AV):Option AV:=
 match g with
 | .sc (.int _ i) =>
  match x with
  | .agg j=>match ZO P t with
   |some (n,e,l)=>if 0<=i/\i<n then J8 P e j (i.toNat*l) else none
   |none=>none
  | .sc (.string s)=>match P.underlying t with
   |some .string=>if 0<=i then (match s.data[i.toNat]? with|some b=>some (.sc (.int .u8 b.toNat))|none=>none) else none
   |_=>none
  |_=>none
 |_=>none
theorem qc1{x R:AV}{v u:uk}(r:VRel G w.heap x v)(U:VRel G w.heap R u)(e:Va P t x R=some z) :
  ∃ y,(Instr.index t v u).run P w = .ok y w/\VRel G w.heap z y:=by
 unfold Va at e;split at e
 .rename_i k i
  cases U;split at e
  .rename_i cs
   cases r with
   |agg _ vs hn hv =>
   split at e
   .rename_i n el l ha
    split at e
    .rename_i j
     obtain⟨o,p⟩:=kq ha;obtain⟨y,h1,C⟩:=ku hn hv e;exact⟨y,by simp[Instr.index,asIntOf,run_underlying o,j,jk p,h1],C⟩
    .exact absurd e zSp
   .exact absurd e zSp
  .rename_i s
   cases r;split at e
   .rename_i o
    split at e
    .rename_i j
     split at e
     .rename_i b T
      simp only[qp]at e;subst e;refine⟨.int .u8 b.toNat,?_,.sc _ rfl⟩;have I:i.toNat<s.data.size:=(yf.1 T).1;have J:s[i.toNat]?=some b:=by
       have C:s.data[i.toNat]=b:=(yf.1 T).2;have g:i.toNat<s.size:=I;rw[getElem?_pos s i.toNat g];exact congrArg some C
      simp[Instr.index,asIntOf,run_underlying o,j,J]
     .exact absurd e zSp
    .exact absurd e zSp
   .exact absurd e zSp
  .exact absurd e zSp
 .exact absurd e zSp
@[go_sem] def optI:Option AV->Option (Option Int)
 |none=>some none
 |some (.sc (.int _ n))=>some (some n)
 |_=>none
@[go_sem] def Vb(P:j1)(t:j2)(x:AV)(lo g mx:Option AV):Option AV:=
 match optI lo,optI g,optI mx with
 |some lo,some g,some mx =>
  match x,P.underlying t with
  | .lst full p,some (.slice _) =>
   let n:Int:=p.length
   let h:=g.getD n
   let l:=lo.getD 0
   match mx with
   |none=>if 0<=l/\l<=h/\h<=n then some (.lst (full&&decide (h=n)) ((p.take h.toNat).drop l.toNat)) else none
   |some m=>if 0<=l/\l<=h/\h<=m/\m<=n/\g.isSome then some (.lst (decide (m=h)) ((p.take h.toNat).drop l.toNat)) else none
  | .sl b i off len,some (.slice e) =>
   let h:=g.getD len
   let l:=lo.getD 0
   match mx with
   |none=>if 0<=l/\l<=h/\h<=len/\(l=0\/l<len)/\szOf P e=some i then some (.sl b i (off+l.toNat*i) (h-l).toNat) else none
   |some _=>none
  | .ip j,some (.array n e) =>
   let h:=g.getD n
   let l:=lo.getD 0
   match mx with
   |none=>if 0<=l/\l<=h/\h<=n/\(l=0\/l<n)/\szOf P e=some 1/\j.length=n then some (.lst (decide (h=n)) (((j.take h.toNat).drop l.toNat).map fun c=>[c])) else none
   |some _=>none
  | .ptr b off,some (.array n e) =>
   match mx with
   |none=>if off=0/\lo.getD 0=0/\0<=g.getD n/\g.getD n<=n/\(szOf P e).isSome=true then some (.sl b 0 0 (g.getD n).toNat) else none
   |some _=>none
  | .sc (.string s),some .string =>
   let n:Int:=s.size
   let h:=g.getD n
   let l:=lo.getD 0
   match mx with
   |none=>if 0<=l/\l<=h/\h<=n then some (.sc (.string (s.extract l.toNat h.toNat))) else none
   |some _=>none
  |_,_=>none
 |_,_,_=>none
theorem wv{k:IntKind}{i:Int}{y:Nat}{c:BoundsCode}(g:0<=i)(j:i<=y):(Instr.sliceBound (.int k i) y c).run P w = .ok i.toNat w:=by
 simp[Instr.sliceBound,asIntOf,g,j]
theorem U4{o:Option AV}{g:Option Int}(e:optI o=some g) :
  ∀{v:Option uk},(∀ x,o=some x->∃ u,v=some u/\VRel G h x u)->(o=none->v=none)->(g=none/\v=none)\/∃ k n,g=some n/\v=some (.int k n):=by
 intro v i j;unfold optI at e;split at e
 .simp only[qp]at e;exact .inl ⟨e.symm,j rfl⟩
 .rename_i k n
  simp only[qp]at e;obtain⟨u,l,r⟩:=i _ rfl;cases r;exact .inr ⟨k,n,e.symm,l⟩
 .exact absurd e zSp
theorem ZQ{isSlice:Bool}{len cap:Nat}{lo i mx:Option Int}
  (p:(lo=none/\vlo=none)\/∃ k n,lo=some n/\vlo=some (.int k n)) (r:(i=none/\vhi=none)\/∃ k n,i=some n/\vhi=some (.int k n))
  (t:(mx=none/\vmx=none)\/∃ k n,mx=some n/\vmx=some (.int k n)) (C:mx.isSome=true->i.isSome=true)
  (U:0<=lo.getD 0) (h1:lo.getD 0<=i.getD len) (h2:i.getD len<=mx.getD cap) (h3:mx.getD cap<=cap) (T:len<=cap) :
  (Instr.sliceBounds isSlice len cap vlo vhi vmx).run P w = .ok ((lo.getD 0).toNat,(i.getD len).toNat,(mx.getD cap).toNat) w:=by
 rcases p with ⟨rfl,rfl⟩|⟨I,l,rfl,rfl⟩<;>rcases r with ⟨rfl,rfl⟩|⟨o,h,rfl,rfl⟩<;>rcases t with ⟨rfl,rfl⟩|⟨J,m,rfl,rfl⟩<;>simp only[Option.getD_none,Option.getD_some]at * <;>
  simp only[Option.isSome_none,Option.isSome_some,reduceCtorEq,imp_false,not_true_eq_false]at C
 .simp [Instr.sliceBounds]
 .have g:(Instr.sliceBound (.int o h) cap (if isSlice then .sliceAcap else .sliceAlen)).run P w = .ok h.toNat w:=wv zOm zOm
  simp only[Instr.sliceBounds,qT,zD,qW,g];simp
 .have R:(Instr.sliceBound (.int J m) cap (if isSlice then .slice3Acap else .slice3Alen)).run P w = .ok m.toNat w:=wv zOm zOm
  have g:(Instr.sliceBound (.int o h) m.toNat .slice3B).run P w = .ok h.toNat w:=wv zOm zOm;simp only[Instr.sliceBounds,qT,zD,qW,g,R];simp
 .have j:(Instr.sliceBound (.int I l) len (if (none:Option uk).isSome then .slice3C else .sliceB)).run P w = .ok l.toNat w:=wv zOm zOm
  simp only[Instr.sliceBounds,qT,zD,qW,j];simp
 .have g:(Instr.sliceBound (.int o h) cap (if isSlice then .sliceAcap else .sliceAlen)).run P w = .ok h.toNat w:=wv zOm zOm
  have j:(Instr.sliceBound (.int I l) h.toNat (if (none:Option uk).isSome then .slice3C else .sliceB)).run P w = .ok l.toNat w:=wv zOm zOm;simp only[Instr.sliceBounds,qT,zD,qW,j,g];simp
 .have R:(Instr.sliceBound (.int J m) cap (if isSlice then .slice3Acap else .slice3Alen)).run P w = .ok m.toNat w:=wv zOm zOm
  have g:(Instr.sliceBound (.int o h) m.toNat .slice3B).run P w = .ok h.toNat w:=wv zOm zOm;have j:(Instr.sliceBound (.int I l) h.toNat (if (some (Value.int J m)).isSome then .slice3C else .sliceB)).run P w = .ok l.toNat w:=wv zOm zOm;simp only[Instr.sliceBounds,qT,zD,qW,j,g,R]
theorem kv{sz:Nat}:(∀ r,r∈xs->r.length=sz)->∀ l:Nat,(xs.drop l).flatten=xs.flatten.drop (l*sz):=by
 induction xs with
 |nil=>intro _ l;simp
 |cons y j i =>
  intro g l;cases l with
  |zero=>simp
  |succ l =>
   simp only[List.drop_succ_cons,wt];rw[i (fun r o=>g r (zP1 o)),Nat.succ_mul,Nat.add_comm,<-List.drop_drop];congr 1;rw[List.drop_append_of_le_length (by simp[g y zSp])];rw[<-g y zSp,List.drop_length];simp
theorem VRel.lstSub{full:Bool}{sz:Nat}{a:Option Addr}{cap l g m:Nat}
  (r:VRel G h (.lst full xs) (.slice a xs.length cap)) (J:∀ x,x∈xs->x.length=sz) (h1:l<=g) (P:g<=xs.length) (h3:g<=m) (hm:m<=cap) (j:Bool) (hf:j=true->m=g) :
  VRel G h (.lst j ((xs.take g).drop l)) (.slice (if m=l then a else a.map (·.add (l*sz))) (g-l) (m-l)):=by
 have o:((xs.take g).drop l).length=g-l:=zSo;by_cases he:g=l
 .subst he
  have p:(xs.take g).drop g=[]:=ug zOm;rw[p,Nat.sub_self];cases a with
  |none =>
   have:xs=[]/\cap=0:=by cases r;exact⟨rfl,rfl⟩
   have R:m=0:=zOm;subst R;simp;exact .nil j
  |some a =>
   have:(if m=g then some a else (some a).map (·.add (g*sz)))=some (if m=g then a else a.add (g*sz)):=by split<;>rfl
   rw[this];exact .emp j _ _ (fun h=>zW1 (hf h))
 .have T:m≠l:=by omega
  rw[if_neg T];generalize a3:xs.length=n at r;cases r with
  |nil=>simp at P;omega
  |emp=>simp at P;omega
  |lst _ _ i a cap cs e fr rd hb hs hl hc U hz t hv =>
   have a0:xs≠[]:=by intro e;subst e;simp at P;omega
   obtain⟨y,hy⟩:∃ y,y∈xs:=List.exists_mem_of_ne_nil xs a0;have C:i=sz:=by rw[<-hz y hy,J y hy]
   subst C;have I:(a.add (l*i)).block=a.block:=by unfold Addr.add;split<;>rfl
   have a1:(a.add (l*i)).spot=none:=by unfold Addr.add;split<;>simp[hs]
   have a2:(a.add (l*i)).off=a.off+l*i:=by unfold Addr.add;split<;>simp_all
   have key:∀(k:Nat) x,((xs.take g).drop l).flatten[k]?=some x->xs.flatten[l*i+k]?=some x:=by
    intro k x hx;rw[kv (fun r t=>hz r (uK t)),jF]at hx;have:xs.flatten=(xs.take g).flatten++(xs.drop g).flatten:=by rw[<-List.flatten_append,uf]
    rw[this,qo (qk.1 hx).1];exact hx
   have:=VRel.lst (G:=G) (h:=h) j ((xs.take g).drop l) i (a.add (l*i)) (m-l) cs e fr (fun k=>rd (l*i+k)) (by rw[I];exact hb) a1 zOm (fun h=>zW1 (hf h)) (by rw[I];exact U)
    (fun r t=>hz r (uK (List.mem_of_mem_drop t))) (fun k x hx=>by rw[a2,Nat.add_assoc];exact t _ x (key k x hx)) (fun k x hx=>hv _ x (key k x hx))
   rw[o]at this;exact this
theorem VRel.lst_inv{full:Bool}{v:uk}(r:VRel G h (.lst full xs) v) :
  ∃ a cap,v = .slice a xs.length cap/\xs.length<=cap/\(full=true->cap=xs.length)/\(∃ sz,∀ x,x∈xs->x.length=sz):=by
 cases r with
 |nil=>exact⟨none,0,rfl,qm _,fun _=>rfl,0,zSp⟩
 |emp _ a cap g=>exact⟨some a,cap,rfl,Nat.zero_le _,g,0,zSp⟩
 |lst _ _ sz a cap l e o rd p t i g C j I J=>exact⟨some a,cap,rfl,i,g,sz,j⟩
def jH(sz:Nat)(xs:List (List AV)):Prop:=∀ r,r∈xs->r.length=sz
theorem qc2{x:AV}{lo hi mx:Option AV}{v:uk}(r:VRel G w.heap x v)
  (a6:∀ y,lo=some y->∃ u,vlo=some u/\VRel G w.heap y u) (a0:lo=none->vlo=none) (a7:∀ y,hi=some y->∃ u,vhi=some u/\VRel G w.heap y u) (a1:hi=none->vhi=none)
  (a8:∀ y,mx=some y->∃ u,vmx=some u/\VRel G w.heap y u) (a2:mx=none->vmx=none)
  (a9:∀ full xs,x = .lst full xs->∃ e sz bt,qN P t=some (e,sz,bt)/\jH sz xs)
  (e:Vb P t x lo hi mx=some z):∃ y,(Instr.sliceAt t v vlo vhi vmx).run P w = .ok y w/\VRel G w.heap z y:=by
 unfold Vb at e;split at e
 .rename_i g o ar aa ad ae
  have J:=U4 (G:=G) (h:=w.heap) aa a6 a0;have R:=U4 (G:=G) (h:=w.heap) ad a7 a1;have T:=U4 (G:=G) (h:=w.heap) ae a8 a2;clear aa ad ae a6 a0 a7 a1 a8 a2;split at e
  .rename_i full xs el U
   obtain⟨a,cap,rfl,af,ak,_⟩:=r.lst_inv;obtain⟨e',sz,bt,hs,ag⟩:=a9 full xs rfl;obtain⟨au,ah,ai,al,av⟩:=vQ hs;have an:e'=el:=by rw[U]at ah;simpa using ah.symm
   subst an;have C:szOf P e'=some sz:=by simp[szOf,ai,al]
   simp only at e;split at e
   .split at e
    .rename_i hc
     obtain⟨c1,c2,c3⟩:=hc;simp only[qp]at e;subst e;have i:=ZQ (P:=P) (w:=w) (isSlice:=true) (len:=xs.length) (cap:=cap) J R T zSp c1 c2 zSo zSp af;refine⟨_,by simp only[Instr.sliceAt,Instr.slice,qT,run_underlying U,qW,i,jk C,zD];rfl,?_⟩;have hl:(g.getD 0).toNat<=(o.getD xs.length).toNat:=zOm;simp only[Option.getD_none,Int.toNat_natCast];exact VRel.lstSub r ag hl zOm zOm (qm _) _ (fun hf=>by
      simp only[qB,decide_eq_true_eq]at hf;have:=ak hf.1;omega)
    .exact absurd e zSp
   .rename_i m
    split at e
    .rename_i hc
     obtain⟨c1,c2,c3,c4,c5⟩:=hc;simp only[qp]at e;subst e;have i:=ZQ (P:=P) (w:=w) (isSlice:=true) (len:=xs.length) (cap:=cap) J R T (fun _=>c5) c1 c2 (by simpa using c3) zSo af;refine⟨_,by simp only[Instr.sliceAt,Instr.slice,qT,run_underlying U,qW,i,jk C,zD];rfl,?_⟩;have hl:(g.getD 0).toNat<=(o.getD xs.length).toNat:=zOm;simp only[Option.getD_some];exact VRel.lstSub r ag hl zOm zOm zOm _ (fun hf=>by
      simp only[decide_eq_true_eq]at hf;omega)
    .exact absurd e zSp
  .rename_i b sz off len el U
   simp only at e;split at e
   .split at e
    .rename_i hc
     obtain⟨c1,c2,c3,c4,C⟩:=hc;simp only[qp]at e;subst e;cases r with
     |sl _ _ _ _ p a4 cap hb ht hl =>
     have i:=ZQ (P:=P) (w:=w) (isSlice:=true) (len:=len) (cap:=cap) J R T zSp c1 c2 zSo zSp hl;refine⟨_,by simp only[Instr.sliceAt,Instr.slice,qT,run_underlying U,qW,i,jk C,zD];rfl,?_⟩;simp only[Option.getD_none,Int.toNat_natCast];have e1:(if cap=(g.getD 0).toNat then some (⟨p,off,none⟩:Addr) else (some (⟨p,off,none⟩:Addr)).map (·.add ((g.getD 0).toNat*sz)))=some ⟨p,off+(g.getD 0).toNat*sz,none⟩:=by
      split
      .rename_i aj
       have:(g.getD 0).toNat=0:=zOm;simp[this]
      .simp only[zd,Addr.add]
       split<;>simp_all
     rw[e1,show (o.getD (len:Int)).toNat-(g.getD 0).toNat=(o.getD (len:Int)-g.getD 0).toNat by omega];refine .sl b sz _ _ p a4 _ hb ?_ zOm;have aw:(g.getD 0).toNat<=cap:=zOm;refine zP (Nat.le_of_eq ?_) ht;rw[Nat.add_assoc,<-Nat.add_mul];congr 2;omega
    .exact absurd e zSp
   .exact absurd e zSp
  .rename_i cs n el U
   simp only at e;split at e
   .split at e
    .rename_i hc
     obtain⟨c1,c2,c3,c4,C,ax⟩:=hc;simp only[qp]at e;subst e;cases r with
     |ip _ a arr e' fr rd hb hs hi hr hv =>
     obtain⟨ab,ao,ay⟩:=a;simp only at hb hs hi hr;subst hs;have i:=ZQ (P:=P) (w:=w) (isSlice:=false) (len:=n) (cap:=n) J R T zSp c1 c2 zSo zSp (qm n);refine⟨_,by simp only[Instr.sliceAt,Instr.sureAddr,qT,run_underlying U,qW,i,jk C,zD];rfl,?_⟩;simp only[Option.getD_none,Int.toNat_natCast,Nat.mul_one];have e1:(some (if n=(g.getD 0).toNat then (⟨ab,ao,none⟩:Addr) else (⟨ab,ao,none⟩:Addr).add (g.getD 0).toNat))=some ⟨ab,ao+(g.getD 0).toNat,none⟩:=by
      split
      .rename_i aj
       have:(g.getD 0).toNat=0:=zOm;simp[this]
      .simp only[Addr.add]
       split<;>simp_all
     rw[e1];have I:(((cs.take (o.getD (n:Int)).toNat).drop (g.getD 0).toNat).map fun c=>[c]).length=(o.getD (n:Int)).toNat-(g.getD 0).toNat:=by
      simp only[yI,List.length_drop,vM];omega
     have a5:∀ l:List AV,(l.map fun c=>[c]).flatten=l:=by
      intro l;induction l with
      |nil=>rfl
      |cons x l ih=>simp[ih]
     by_cases h0:(o.getD (n:Int)).toNat-(g.getD 0).toNat=0
     .rw [h0]
      have:(((cs.take (o.getD (n:Int)).toNat).drop (g.getD 0).toNat).map fun c=>[c])=[]:=ug (by rw[I,h0]);rw[this];exact .emp _ _ _ (fun h=>by rw[decide_eq_true_eq]at h;omega)
     .rw [<-I]
      have a3:∀(k:Nat) x,(((cs.take (o.getD (n:Int)).toNat).drop (g.getD 0).toNat).map fun c=>[c]).flatten[k]?=some x->cs[(g.getD 0).toNat+k]?=some x:=by
       intro k x hx;rw[a5,jF,jp]at hx;split at hx
       .exact hx
       .exact absurd hx zSp
      refine .lst _ _ 1 ⟨ab,ao+(g.getD 0).toNat,none⟩ _ arr e' fr (fun k=>rd ((g.getD 0).toNat+k)) hb rfl (by rw[I];omega) (fun h=>by rw[decide_eq_true_eq]at h;rw[I];omega) hi ?_ ?_ ?_
      .intro r aq
       obtain⟨c,_,rfl⟩:=qr.1 aq;rfl
      .intro k x hx
       have:=hr _ x (a3 k x hx);simpa[Nat.add_assoc] using this
      .intro k x hx
       exact hv _ x (a3 k x hx)
    .exact absurd e zSp
   .exact absurd e zSp
  .rename_i b off n el U
   split at e
   .split at e
    .rename_i hc
     obtain⟨rfl,c1,c2,c3,c4⟩:=hc;obtain⟨sz,C⟩:=Option.isSome_iff_exists.1 c4;simp only[qp]at e;subst e;cases r with
     |ptr _ _ p a4 hb =>
     have i:=ZQ (P:=P) (w:=w) (isSlice:=false) (len:=n) (cap:=n) J R T zSp zOm zOm zSo zSp (qm n);refine⟨_,by simp only[Instr.sliceAt,Instr.sureAddr,qT,run_underlying U,qW,i,jk C,zD];rfl,?_⟩;simp only[Option.getD_none,Int.toNat_natCast,c1,Int.toNat_zero,Nat.zero_mul,Nat.sub_zero];have e1:(some (if n=0 then (⟨p,0,none⟩:Addr) else (⟨p,0,none⟩:Addr).add 0))=some ⟨p,0,none⟩:=by
      split
      .rfl
      .simp only[Addr.add]
       split<;>simp_all
     rw[e1];exact .sl b 0 0 _ p a4 n hb zSp zOm
    .exact absurd e zSp
   .exact absurd e zSp
  .rename_i s U
   cases r;simp only at e;split at e
   .split at e
    .rename_i hc
     obtain⟨c1,c2,c3⟩:=hc;simp only[qp]at e;subst e;rcases T with ⟨_,rfl⟩|⟨_,_,h,_⟩
     .have i:=ZQ (P:=P) (w:=w) (isSlice:=false) (len:=s.size) (cap:=s.size) J R (mx:=none) (vmx:=none) (.inl ⟨rfl,rfl⟩) zSp c1 c2 (by simp<;>omega) zSp (qm _)
      exact⟨_,by simp only[Instr.sliceAt,Instr.slice,qT,run_underlying U,qW,i,zD,Option.isSome_none,Bool.false_eq_true,if_false],.sc _ rfl⟩
     .exact absurd h zSp
    .exact absurd e zSp
   .exact absurd e zSp
  .exact absurd e zSp
 .exact absurd e zSp
end
end Go.Ev
namespace Go.Ev
open Go Go.RowKit
theorem qc3(off:Nat):∀(l:List uk) (s:Nat) (cs:Array uk),((l.zipIdx s).foldl (fun (cs:Array uk) (x:uk×Nat)=>cs.setIfInBounds (off+x.2) x.1) cs).size=cs.size:=by
 intro l;induction l with
 |nil=>intro s cs;rfl
 |cons y j g=>intro s cs;simp only[List.zipIdx_cons,List.foldl_cons,g];simp
theorem qc4(off:Nat):∀(l:List uk) (s:Nat) (cs:Array uk) (k:Nat),off+s+l.length<=cs.size ->
  ((l.zipIdx s).foldl (fun (cs:Array uk) (x:uk×Nat)=>cs.setIfInBounds (off+x.2) x.1) cs).getD k xa =
   if off+s<=k/\k<off+s+l.length then l.getD (k-(off+s)) xa else cs.getD k xa:=by
 intro l;induction l with
 |nil=>intro s cs k _;rw[if_neg (by simp only[List.length_nil];omega)];simp
 |cons y j i =>
  intro s cs k h;simp only[zG]at h;simp only[List.zipIdx_cons,List.foldl_cons];rw[i (s+1) _ k zSo];by_cases g:off+(s+1)<=k/\k<off+(s+1)+j.length
  .rw [if_pos g,if_pos (by simp only[zG];omega)]
   rw[show k-(off+s)=(k-(off+(s+1)))+1 by omega];simp
  .rw [if_neg g]
   by_cases o:k=off+s
   .subst o
    rw[if_pos (by simp only[zG];omega)];simp[qH,show off+s<cs.size by omega]
   .rw [if_neg (by simp only[zG];omega)]
    simp only[qH];rw[Array.getElem?_setIfInBounds_ne zOm]
@[go_sem] def Qh(place:Nat->Option (Nat×Nat))(cells:List AV):List (Nat×AV)->Option (List AV)
 | []=>some cells
 | (i,v) :: g =>
  match place i with
  |none=>none
  |some (off,size)=>if v.cells.length=size/\off+size<=cells.length/\v.cells.all AV.one=true then Qh place (putCells cells off v.cells) g else none
theorem kw(cells:List AV)(off:Nat)(xs:List AV)(h:off+xs.length<=cells.length):(putCells cells off xs).length=cells.length:=by
 rw[jl _ _ _ h];simp;omega
theorem qc5(cells:List AV)(off:Nat)(xs:List AV)(h:off+xs.length<=cells.length)(k:Nat) :
  (putCells cells off xs)[k]?=if off<=k/\k<off+xs.length then xs[k-off]? else cells[k]?:=by
 rw[jl _ _ _ h,zE];by_cases g:k<off
 .rw [if_neg zOm,qo zSo,jp,if_pos g]
 .have i:(cells.take off).length=off:=by simp;omega
  rw[zf zOm,i];by_cases j:k<off+xs.length
  .rw [if_pos zOm,qo zOm]
  .rw [if_neg zOm,zf zOm,jF]
   congr 1;omega
def YJ(G:Gh)(h:Array Obj):List (Nat×AV)->List (Nat×uk)->Prop
 | [],[]=>True
 | (i,x) :: p,(j,v) :: g=>i=j/\VRel G h x v/\YJ G h p g
 |_,_=>False
theorem kx{G:Gh}{h:Array Obj}{place:Nat->Option (Nat×Nat)}:∀(ps:List (Nat×AV)) (l:List (Nat×uk)) (cells:List AV) (arr:Array uk) (z:List AV),YJ G h ps l ->
  arr.size=cells.length->(∀(k:Nat) x,cells[k]?=some x->VRel G h x (arr.getD k xa))->Qh place cells ps=some z ->
  ∃ r,Instr.fill place arr l=some r/\r.size=z.length/\z.length=cells.length/\∀(k:Nat) x,z[k]?=some x->VRel G h x (r.getD k xa):=by
 intro ps;induction ps with
 |nil =>
  intro l cells arr z hp I J h;cases l with
  |nil =>
   simp only[Qh,qp]at h;subst h;exact⟨arr,rfl,I,rfl,J⟩
  |cons=>exact hp.elim
 |cons p ps U =>
  intro l cells arr z hp I J h;obtain⟨i,x⟩:=p;cases l with
  |nil=>exact hp.elim
  |cons q l =>
   obtain⟨j,v⟩:=q;obtain⟨rfl,rx,hp⟩:=hp;simp only[Qh]at h;split at h
   .exact absurd h zSp
   .rename_i off size P
    split at h
    .rename_i o
     obtain⟨c1,c2,c3⟩:=o;obtain⟨a0,g,R⟩:=rx.cells (fun c T=>by simpa using qI.1 c3 c T);have hl:v.cells.toList.length=size:=zSo;obtain⟨r,h1,h2,h3,h4⟩:=U l (putCells cells off x.cells) (v.cells.zipIdx.foldl (fun cs (x:uk×Nat)=>cs.setIfInBounds (off+x.2) x.1) arr) z hp
      (by rw[kw _ _ _ zOm,<-Array.foldl_toList,Array.toList_zipIdx,qc3,I])
      (by
       intro k y t;rw[qc5 _ _ _ zOm]at t;rw[<-Array.foldl_toList,Array.toList_zipIdx,qc4 off _ 0 arr k zOm];by_cases C:off<=k/\k<off+x.cells.length
       .rw [if_pos C]at t
        rw[if_pos zOm];have:=g _ y t;simpa[qH,zT] using this
       .rw [if_neg C]at t
        rw[if_neg zOm];exact J k y t) h
     refine⟨r,?_,h2,by rw[h3,kw _ _ _ zOm],h4⟩;simp only[Instr.fill,P];rw[if_neg zSo];exact h1
    .exact absurd h zSp
def yu(P:j1)(t:j2):Option (Nat->Option (Nat×Nat)):=
 match P.underlying t with
 |some (.array _ e)=>(szOf P e).map fun s=>fun i=>some (i*s,s)
 |some (.struct j)=>(j.toList.mapM (fun f=>(P.info? f.type).map fun i=>(f.offset,i.size))).map fun g=>fun i=>g.toArray[i]?
 |_=>none
@[go_sem] def Vc(P:j1)(t:j2)(ps:List (Nat×AV)):Option AV:=
 match qC P t,yu P t with
 |some z,some place=>(Qh place z.cells ps).map .agg
 |_,_=>none
theorem YK{G:Gh}{h:Array Obj}(v:uk)(g:∀ c,c∈(ofV v).cells->c.one=true) :
  v.cells.size=(ofV v).cells.length/\∀(k:Nat) x,(ofV v).cells[k]?=some x->VRel G h x (v.cells.getD k xa):=
 let ⟨i,j,_⟩:=(VRel.ofV (G:=G) (h:=h) v).cells g
 ⟨i,j⟩
theorem qc6{P:j1}{G:Gh}{w:j3}{t:j2}{ps:List (Nat×AV)}{p:Array (Nat×uk)}{z:AV}(hp:YJ G w.heap ps p.toList)
  (hz:∀ y,qC P t=some y->y.cells.all AV.one=true) (e:Vc P t ps=some z):∃ u,(Instr.build t p).run P w = .ok u w/\VRel G w.heap z u:=by
 unfold Vc at e;split at e
 .rename_i T place j g
  cases hf:Qh place T.cells ps with
  |none=>simp[hf]at e
  |some r =>
   simp only[hf,zd,qp]at e;subst e;have I:=hz T j;unfold qC at j;cases l:P.info? t with
   |none=>simp[l]at j
   |some it =>
    simp only[l,Option.bind_some,j8]at j;obtain⟨v,U,rfl⟩:=j;obtain⟨g1,g2⟩:=YK (G:=G) (h:=w.heap) v (fun c hc=>by simpa using qI.1 I c hc);obtain⟨cs,h1,h2,h3,h4⟩:=kx ps p.toList _ v.cells r hp g1 g2 hf;refine⟨.agg cs,?_,.agg _ _ h2 h4⟩;refine run_build w t p cs ?_;unfold yu at g;unfold Program.built;split at g
    .rename_i n el J
     cases o:P.info? el with
     |none=>simp[szOf,o]at g
     |some ie =>
      simp only[szOf,o,zd,qp]at g;subst g;simp only[J,l,o,U];exact h1
    .rename_i fs J
     cases R:fs.toList.mapM (fun f=>(P.info? f.type).map fun i=>(f.offset,i.size)) with
     |none=>simp[R]at g
     |some C =>
      simp only[R,zd,qp]at g;subst g;simp only[J,l,U,R];exact h1
    .exact absurd g zSp
 .exact absurd e zSp
end Go.Ev
namespace Go.Ev
open Go Go.RowKit
section
variable {G:Gh}{xs:List (List AV)}{mu:Mu}{sz:Nat}{P:j1}{w:j3}
def zy(sz:Nat)(xs:List (List AV)):Prop:=∀ r,r∈xs->r.length=sz/\r.all AV.one=true
theorem zy.ok(h:zy sz xs):jH sz xs:=fun r g=>(h r g).1
theorem zy.one(h:zy sz xs):∀ c,c∈xs.flatten->c.one=true:=by
 intro c i;obtain⟨r,j,g⟩:=K7.1 i;exact by simpa using qI.1 (h r j).2 c g
theorem U5(l:List uk)(k:Nat):l.toArray.getD k xa=l.getD k xa:=by
 simp[qH,zT]
theorem ky(s:Sim G mu w.heap){x:AV}{v:uk}(t:j2)(r:VRel G w.heap x v)(i:x.cells.all AV.one=true) :
  ∃ G',(newVar t v).run P w = .ok ⟨w.heap.size,0,none⟩ (w.alloc (.cells v.cells t))/\Stp G mu w G' (mu++[.arr x.cells]) (w.alloc (.cells v.cells t)) /\
   VRel G' (w.alloc (.cells v.cells t)).heap (.ptr mu.length 0) (.pointer (some ⟨w.heap.size,0,none⟩)):=by
 obtain⟨o,g,_⟩:=r.cells (fun c p=>by simpa using qI.1 i c p);refine⟨_,rfl,Stp.allocNew s (.cells v.cells t) (.arr x.cells) v.cells.size ?_,.ptr _ 0 w.heap.size v.cells.size ?_⟩
 .intro _
  refine⟨v.cells,t,rfl,rfl,zOm,fun j y l=>⟨by simpa using qI.1 i y (qV l),g j y l⟩⟩
 .show (G.blk++[_])[mu.length]?=_
  rw[<-s.len];simp
theorem qc7(s:Sim G mu w.heap){x:AV}{v:uk}(t:j2)(r:VRel G w.heap x v)(j:x.cells.all AV.one=true) :
  ∃ G',(newVar t v).run P w = .ok ⟨w.heap.size,0,none⟩ (w.alloc (.cells v.cells t))/\Stp G mu w G' mu (w.alloc (.cells v.cells t)) /\
   VRel G' (w.alloc (.cells v.cells t)).heap (.ip x.cells) (.pointer (some ⟨w.heap.size,0,none⟩)):=by
 obtain⟨l,g,_⟩:=r.cells (fun c o=>by simpa using qI.1 j c o);have U:=Stp.allocImm s (.cells v.cells t);refine⟨_,rfl,U,.ip _ _ v.cells t (0,0) (fun k=>v.cells.getD k xa) (J2 w _) rfl (.inr rfl) ?_ ?_⟩
 .intro k y i
  have:k<v.cells.size:=by have:=(qk.1 i).1;omega
  simp[qH,this]
 .intro k y i
  exact U.vrel s (g k y i)
theorem kz(z:List AV)(n:Nat){k:Nat}{x:AV}(h:((qZ n z).flatten)[k]?=some x):z[k % z.length]?=some x:=by
 induction n generalizing k with
 |zero=>simp at h
 |succ n i =>
  simp only[List.replicate_succ,wt]at h;by_cases g:k<z.length
  .rw [qo g]at h
   rw[Nat.mod_eq_of_lt g];exact h
  .rw [zf zOm]at h
   have:=i h;rw[Nat.mod_eq_sub_mod zOm];exact this
theorem kA(z:List AV)(n:Nat):((qZ n z).flatten).length=n*z.length:=by simp
@[go_sem] def ZR(sz:Nat):List (List AV)->List (Nat×AV)->Option (List (List AV))
 |rows,[]=>some rows
 |rows,(i,v) :: g=>if v.cells.length=sz/\i<rows.length/\v.cells.all AV.one=true then ZR sz (rows.set i v.cells) g else none
theorem qc8:∀(rows:List (List AV)) (i:Nat) (r:List AV),jH sz rows->r.length=sz->i<rows.length->(rows.set i r).flatten=putCells rows.flatten (i*sz) r:=by
 intro rows;induction rows with
 |nil=>intro i r _ _ h;simp at h
 |cons y j P =>
  intro i r l o R;have C:y.length=sz:=l y zSp;have I:(y :: j).flatten.length=(j.length+1)*sz:=jG (xs:=y :: j) l;cases i with
  |zero =>
   rw[jl _ _ _ (by rw[I,o,Nat.succ_mul];omega)];simp[o,<-C]
  |succ i =>
   simp only[List.set_cons_succ,wt];have t:i<j.length:=zUs R;have g:jH sz j:=fun r o=>l r (zP1 o)
   rw[P i r g o t];have J:i*sz+r.length<=j.flatten.length:=by
    rw[jG g,o];have:(i+1)*sz<=j.length*sz:=Nat.mul_le_mul_right _ t;rw[Nat.succ_mul]at this;exact this
   rw[jl _ _ _ J,jl _ _ _ (by simp only[zc,C,Nat.succ_mul];omega)];rw[Nat.succ_mul,Nat.add_comm (i*sz) sz,<-C];rw[List.take_append,List.drop_append];have t1:List.take (y.length+i*y.length) y=y:=ye zOm;have d1:List.drop (y.length+(i*y.length+r.length)) y=[]:=List.drop_eq_nil_of_le zOm;simp[Nat.add_assoc,t1,d1]
theorem qc9:∀(ps:List (Nat×AV)) (rows g:List (List AV)),jH sz rows->ZR sz rows ps=some g ->
  Qh (fun i=>some (i*sz,sz)) rows.flatten ps=some g.flatten/\jH sz g/\g.length=rows.length:=by
 intro ps;induction ps with
 |nil =>
  intro rows g j h;simp only[ZR,qp]at h;subst h;exact⟨rfl,j,rfl⟩
 |cons p ps t =>
  intro rows g j h;obtain⟨i,v⟩:=p;simp only[ZR]at h;split at h
  .rename_i C
   obtain⟨c1,c2,c3⟩:=C;have l:jH sz (rows.set i v.cells):=by
    intro r I;rcases List.mem_or_eq_of_mem_set I with h|h
    .exact j r h
    .subst h;exact c1
   obtain⟨J,P,R⟩:=t _ g l h;refine⟨?_,P,by rw[R];simp⟩;simp only[Qh];have o:i*sz+sz<=rows.flatten.length:=by
    rw[jG j];have:(i+1)*sz<=rows.length*sz:=Nat.mul_le_mul_right _ c2;rw[Nat.succ_mul]at this;exact this
   rw[if_pos ⟨c1,o,c3⟩,<-qc8 rows i v.cells j c1 c2];exact J
  .exact absurd h zSp
@[go_sem] def Vd(P:j1)(t:j2)(len:Nat)(ps:List (Nat×AV)):Option AV:=
 match qN P t with
 |some (e,l,_) =>
  match qC P e with
  |some z=>if len*l<=16777216/\z.cells.length=l/\z.cells.all AV.one=true then (ZR l (qZ len z.cells) ps).map (.lst true) else none
  |none=>none
 |none=>none
theorem Ve{t:j2}{z:AV}(h:qC P t=some z):∃ i v,P.info? t=some i/\i.zero=some v/\z=ofV v:=by
 unfold qC at h;cases g:P.info? t with
 |none=>simp[g]at h
 |some it =>
  simp only[g,Option.bind_some,j8]at h;obtain⟨v,j,rfl⟩:=h;exact⟨it,v,rfl,j,rfl⟩
theorem VRel.newLst{h:Array Obj}{b cap:Nat}{cs:Array uk}{e:j2}{g:Nat×Nat}(full:Bool)(i:h[b]?=some (.cells cs e g))(j:xs.length<=cap)(l:full=true->cap=xs.length)
  (o:G.imm b) (p:jH sz xs) (t:xs.flatten.length<=cs.size) (r:∀(k:Nat) x,xs.flatten[k]?=some x->VRel G h x (cs.getD k xa)):VRel G h (.lst full xs) (.slice (some ⟨b,0,none⟩) xs.length cap):=by
 refine .lst full xs sz ⟨b,0,none⟩ cap cs e g (fun k=>cs.getD k xa) i rfl j l o p ?_ r;intro k x hx;have:k<cs.size:=by have:=(qk.1 hx).1;omega
 simp[qH,this]
theorem kB{z:Array uk}{n k:Nat}(g:k<n)(i:0<z.size):(((Array.range n).map (z[· % z.size]!)).getD k xa)=z.getD (k % z.size) xa:=by
 have j:k % z.size<z.size:=Nat.mod_lt _ i;simp[qH,g,j,getElem!_pos]
theorem qdA(s:Sim G mu w.heap){t:j2}{len:Nat}{ps:List (Nat×AV)}{vs:Array (Nat×uk)}{x:AV}(hp:YJ G w.heap ps vs.toList)
  (e:Vd P t len ps=some x):Good P G mu w (Instr.buildSlice t len vs) x mu:=by
 unfold Vd at e;split at e
 .rename_i el l bt hs
  split at e
  .rename_i z hz
   split at e
   .rename_i hc
    obtain⟨c1,c2,c3⟩:=hc;cases C:ZR l (qZ len z.cells) ps with
    |none=>simp[C]at e
    |some rows =>
     simp only[C,zd,qp]at e;subst e;obtain⟨a7,hu,I,a0,a8⟩:=vQ hs;have a1:szOf P el=some l:=by simp[szOf,I,a0]
     obtain⟨it,o,a2,a3,rfl⟩:=Ve hz;have J:jH l (qZ len (ofV o).cells):=by
      intro r C;rw[List.eq_of_mem_replicate C];exact c2
     obtain⟨f1,f2,f3⟩:=qc9 ps _ rows J C;have g:=YK (G:=G) (h:=w.heap) o (fun c hc=>by simpa using qI.1 c3 c hc);have i:((qZ len (ofV o).cells).flatten).length=len*l:=by rw[kA,c2]
     obtain⟨arr,k1,k2,k3,k4⟩:=kx (G:=G) (h:=w.heap) ps vs.toList _ ((Array.range (len*l)).map ((if len*l=0 then #[] else o.cells)[· % (if len*l=0 then #[] else o.cells).size]!)) _ hp (by simp[i])
      (by
       intro k y hk;have a4:k<len*l:=by rw[<-i];exact(qk.1 hk).1
       have R:¬len*l=0:=zOm;have:=kz _ _ hk;rw[c2]at this;simp only[if_neg R];have T:o.cells.size=l:=by rw[g.1,c2]
       rw[kB a4 (by have hz:l≠0:=(by intro h0;subst h0;simp at R);omega),T];exact g.2 _ y this) f1
     have U:=Stp.allocImm s (.cells arr el);have j:rows.length=len:=by rw[f3];simp
     refine⟨.slice (some ⟨w.heap.size,0,none⟩) len len,_,_,?_,U,?_⟩
     .have a5:(zeroValue el).run P w = .ok o w:=by simp[zeroValue,typeInfo,a2,a3]
      have a6:¬(len*l > 2 ^ 24):=zOm;simp only[Instr.buildSlice,qT,run_underlying hu,qW,jk a1,if_neg a6];by_cases h0:len*l=0
      .simp only[if_pos h0]at k1⊢
       simp only[qT,qW,zD,k1,newRow,run_newObj];rfl
      .simp only[if_neg h0]at k1⊢
       simp only[qT,a5,qW,zD,k1,newRow,run_newObj];rfl
     .have:=VRel.newLst (G:=⟨fun b=>G.imm b\/b=w.heap.size,G.blk⟩) (h:=(w.alloc (.cells arr el)).heap) (xs:=rows) (sz:=l) (b:=w.heap.size) (cap:=len) true (J2 w _) zOm (fun _=>j.symm) (.inr rfl) f2 zOm
       (fun k y hk=>U.vrel s (k4 k y hk))
      rw[j]at this;exact this
   .exact absurd e zSp
  .exact absurd e zSp
 .exact absurd e zSp
end
end Go.Ev
namespace Go.Ev
open Go Go.RowKit
theorem Stp.move{G:Gh}{mu:Mu}{w:j3}(s:Sim G mu w.heap)(i:Nat)(c:Cell)(r o:Nat)(hc:mu[i]?=some c)(hd:c ≠ .dead)(hk:G.blk[i]?=some (r,o)) :
  Stp G mu w ⟨G.imm,G.blk++[(r,o)]⟩ (mu.set i .dead++[c]) w:=by
 have R:G.le ⟨G.imm,G.blk++[(r,o)]⟩:=⟨fun b h=>h,fun j x h=>by
  have:j<G.blk.length:=(qk.1 h).1;show (G.blk++[_])[j]?=_;rw[qo this];exact h⟩
 have a4:=s.len;have a0:(mu.set i Cell.dead).length=mu.length:=zSp
 have C:∀(j:Nat) (l:Cell) b t,(mu.set i Cell.dead++[c])[j]?=some l->l ≠ .dead->(G.blk++[(r,o)])[j]?=some (b,t) ->
   (j<mu.length/\j≠i/\mu[j]?=some l/\G.blk[j]?=some (b,t))\/(j=mu.length/\l=c/\b=r/\t=o):=by
  intro j l b t J g P;rcases z6 J with ⟨I,p⟩|⟨I,p⟩
  .rcases vd p with ⟨_,h⟩|⟨a1,h⟩
   .exact absurd h g
   .rcases z6 P with ⟨_,h'⟩|⟨h',_⟩
    .exact .inl ⟨zOm,a1,h,h'⟩
    .omega
  .rcases z6 P with ⟨h',_⟩|⟨_,h'⟩
   .omega
   .obtain ⟨rfl,rfl⟩:=Prod.mk.inj h'
    exact .inr ⟨zOm,p,rfl,rfl⟩
 refine⟨R,⟨by simp[s.len],s.imm,?_,?_,?_,s.tab⟩,fun _ _ _=>rfl,qm _,?_,fun b h => .inl h,rfl,rfl,rfl,qm _⟩
 .intro j l b t J g P
  rcases C j _ b t J g P with ⟨_,_,I,p⟩|⟨_,rfl,rfl,rfl⟩
  .obtain ⟨o',g1,g2⟩:=s.obj j l b t I g p
   exact⟨o',g1,g2.le R⟩
  .obtain ⟨o',g1,g2⟩:=s.obj i l b t hc hd hk
   exact⟨o',g1,g2.le R⟩
 .intro j l b t J g P
  rcases C j _ b t J g P with ⟨_,_,I,p⟩|⟨_,rfl,rfl,rfl⟩
  .exact s.live j l b t I g p
  .exact s.live i l b t hc hd hk
 .intro j k l ck b t t' J a2 g T U a3
  rcases C j _ b t J g U with ⟨l1,n1,I,p⟩|⟨l1,e1,e2,e3⟩<;>rcases C k _ b t' a2 T a3 with ⟨l2,n2,h3,h4⟩|⟨l2,e4,e5,e6⟩
  .exact s.inj j k l ck b t t' I h3 g T p h4
  .subst e5
   exact absurd (s.inj j i l c b t o I hc g hd p hk) n1
  .subst e2
   exact absurd (s.inj k i ck c b t' o h3 hc T hd h4 hk) n2
  .omega
 .intro b P
  obtain⟨j,l,t,J,g,U⟩:=P;rcases C j _ b t J g U with ⟨_,_,I,p⟩|⟨_,rfl,rfl,rfl⟩
  .exact .inl ⟨j,l,t,I,g,p⟩
  .exact .inl ⟨i,l,t,hc,hd,hk⟩
@[go_sem] def YL(n:Nat)(z:List AV):List AV:=
 match z with
 | [x]=>qZ n x
 |z=>(qZ n z).flatten
theorem kC(n:Nat)(z:List AV):YL n z=(qZ n z).flatten:=by
 unfold YL;split
 .rename_i x
  induction n with
  |zero=>rfl
  |succ n g=>simp only[List.replicate_succ,wt,<-g];rfl
 .rfl
@[go_sem] def YN(P:j1)(mu:Mu)(t:j2)(len cap:AV):Option (AV×Mu):=
 match len,cap,qN P t with
 | .sc (.int .i64 l),.sc (.int .i64 c),some (e,g,i) =>
  match qC P e with
  |some z=>if 0<=l/\l<=c/\c<=4294967296/\i<=16384/\z.cells.length=g/\z.cells.all AV.one=true/\g≠0 then
    some (.sl mu.length g 0 l.toNat,mu++[.arr (YL l.toNat z.cells)]) else none
  |none=>none
 |_,_,_=>none
theorem qi{n:Int}(g : -9223372036854775808<=n)(i:n<=9223372036854775807):qj.wrap n=n:=IntWalk.i64_in n ⟨g,i⟩
theorem qdB{P:j1}{G:Gh}{mu mu':Mu}{w:j3}(s:Sim G mu w.heap){t:j2}{len cap x:AV}{vl vc:uk}(rl:VRel G w.heap len vl)(rc:VRel G w.heap cap vc)
  (e:YN P mu t len cap=some (x,mu')):Good P G mu w (Instr.makeSlice t vl vc) x mu':=by
 unfold YN at e;split at e
 .rename_i l c el i bt hs
  cases rl;cases rc;split at e
  .rename_i z hz
   split at e
   .rename_i T
    obtain⟨c1,c2,c3,c4,c5,c6,c7⟩:=T;simp only[qp,ul]at e;obtain⟨rfl,rfl⟩:=e;obtain⟨o,hu,p,a0,a1⟩:=vQ hs;have a2:szOf P el=some i:=by simp[szOf,p,a0]
    obtain⟨it,r,a3,a4,rfl⟩:=Ve hz;have g:=YK (G:=G) (h:=w.heap) r (fun c T=>by simpa using qI.1 c6 c T);have a5:(zeroValue el).run P w = .ok r w:=by simp[zeroValue,typeInfo,a3,a4]
    have a6:qj.wrap l=l:=qi zOm zOm;have a7:qj.wrap c=c:=qi zOm zOm;have ab:((o.bytes:Nat):Int)*c<=2 ^ 48:=by
     rw[a1];have h1:(bt:Int)*c<=16384*4294967296:=Int.mul_le_mul zOm zOm zOm zOm;omega
    have I:r.cells.size=i:=by rw[g.1,c5]
    let arr:Array uk:=(Array.range (c.toNat*i)).map ((if c.toNat*i=0 then #[] else r.cells)[· % (if c.toNat*i=0 then #[] else r.cells).size]!)
    have J:arr.size=c.toNat*i:=by simp[arr]
    have ad:l.toNat*i<=c.toNat*i:=Nat.mul_le_mul_right _ zOm;have a8:(YL l.toNat (ofV r).cells).length=l.toNat*i:=by rw[kC,kA,c5]
    have U:=Stp.allocNew s (.cells arr el) (.arr (YL l.toNat (ofV r).cells)) (c.toNat*i) (by
     intro _;refine⟨arr,el,rfl,J,zOm,fun j y hj=>?_⟩;have ae:j<l.toNat*i:=by rw[<-a8];exact(qk.1 hj).1
     have a9:¬c.toNat*i=0:=zOm;rw[kC]at hj;have hy:=kz _ _ hj;refine⟨by simpa using qI.1 c6 y (qV hy),?_⟩;have:=g.2 _ y hy;simp only[arr,if_neg a9];rw[kB zOm zOm,I,<-c5];exact this)
    refine⟨.slice (some ⟨w.heap.size,0,none⟩) l.toNat c.toNat,_,_,?_,U,?_⟩
    .have aa:(typeInfo el).run P w = .ok o w:=by simp[typeInfo,p]
     have n1:¬(((o.bytes:Nat):Int)*c > 2 ^ 48):=zOm;have C:((decide (c<0)||decide (((o.bytes:Nat):Int)*c > 2 ^ 48))||decide (l<0)||decide (l > c))=false:=by
      simp only[Bool.or_eq_false_iff,decide_eq_false_iff_not];exact⟨⟨⟨zOm,n1⟩,zOm⟩,zOm⟩
     simp only[Instr.makeSlice,qT,run_underlying hu,qW,asInt,asIntOf,zD,aa,a6,a7,C,Bool.false_eq_true,if_false,run_askRoom,jk a2];by_cases R:c.toNat*i=0
     .simp only[if_pos R,qT,zD,qW,newRow,run_newObj]
      simp only[arr,if_pos R];rfl
     .simp only[if_neg R,qT,a5,zD,qW,newRow,run_newObj]
      simp only[arr,if_neg R];rfl
    .refine .sl _ i 0 _ w.heap.size (c.toNat*i) c.toNat ?_ zOm zOm
     show (G.blk++[_])[mu.length]?=_;rw[<-s.len];simp
   .exact absurd e zSp
  .exact absurd e zSp
 .exact absurd e zSp
end Go.Ev
namespace Go.Ev
open Go Go.RowKit
section
variable {P:j1}{w:j3}
def qO(mu:Mu):AV->Option (List (List AV))
 | .lst _ p=>some p
 | .sl b l off len=>match mu[b]? with
  |some (.arr cells)=>if off+len*l<=cells.length then some ((qu len).map fun i=>(cells.drop (off+i*l)).take l) else none
  |_=>none
 |_=>none
theorem U6(sz:Nat):∀(len:Nat) (cells:List AV),len*sz<=cells.length->((qu len).map fun i=>(cells.drop (i*sz)).take sz).flatten=cells.take (len*sz):=by
 intro len;induction len with
 |zero=>intro cells _;simp
 |succ n g =>
  intro cells h;rw[List.range_succ,zx,List.flatten_append,g cells (by rw[Nat.succ_mul]at h;omega)];simp only[List.map_cons,List.map_nil,wt,List.flatten_nil,List.append_nil,Nat.succ_mul];rw[List.take_add]
theorem Vf{G:Gh}{mu:Mu}(s:Sim G mu w.heap){x:AV}{v:uk}{ys:List (List AV)}{sz:Nat}(r:VRel G w.heap x v)(h:qO mu x=some ys)(R:zy sz ys) :
  ∃(a:Option Addr) (cap:Nat) (news:List uk),v = .slice a ys.length cap/\news.length=ys.length*sz/\(∀ u∈news,u.oneCell'=true) /\
   (∀(k:Nat) y,ys.flatten[k]?=some y->VRel G w.heap y (news.getD k xa))/\(Builtin.firstCells sz ys.length v).run P w = .ok news.toArray w/\(Builtin.firstCells sz ys.length v).run P w.drew = .ok news.toArray w.drew:=by
 have fin:∀(a:Addr) (cap:Nat) (rd:Nat->uk),(∀(k:Nat) y,ys.flatten[k]?=some y->w.cell? (a.add k)=some (rd k)/\VRel G w.heap y (rd k))->v = .slice (some a) ys.length cap ->
   ∃(a:Option Addr) (cap:Nat) (news:List uk),v = .slice a ys.length cap/\news.length=ys.length*sz/\(∀ u∈news,u.oneCell'=true) /\
   (∀(k:Nat) y,ys.flatten[k]?=some y->VRel G w.heap y (news.getD k xa))/\(Builtin.firstCells sz ys.length v).run P w = .ok news.toArray w/\(Builtin.firstCells sz ys.length v).run P w.drew = .ok news.toArray w.drew:=by
  intro a cap rd T U;subst U;have l:=jG R.ok;have t:∀ k,k<ys.length*sz->∃ y,ys.flatten[k]?=some y:=fun k hk=>⟨ys.flatten[k]' zOm,by simp[l,hk]⟩
  refine⟨some a,cap,(qu (ys.length*sz)).map rd,rfl,zSp,?_,?_,?_,?_⟩
  .intro u hu
   obtain⟨k,hk,rfl⟩:=qr.1 hu;obtain⟨y,i⟩:=t k (zUs hk);exact(T k y i).2.one (R.one y (qV i))
  .grind
  .grind [Builtin.firstCells,run_loadCells]
  .simp only[Builtin.firstCells]
   exact run_loadCells w.drew a _ rd (fun j hj=>by simp_all)
 unfold qO at h;split at h
 .rename_i full p
  simp only[qp]at h;subst h;cases r with
  |nil=>exact⟨none,0,[],rfl,zSp,zSp,zSp,by simp[Builtin.firstCells],by simp[Builtin.firstCells]⟩
  |emp _ a cap hc=>simp_all
  |lst _ _ g a cap cs e fr rd hb hs hl hc hi a2 hr U =>
   exact fin a cap rd (fun k y i=>⟨by rw[Zi hb hs];exact hr k y i,U k y i⟩) rfl
 .rename_i b g off len
  split at h
  .rename_i cells hc
   split at h
   .rename_i a3
    simp only[qp]at h;cases r with
    |sl _ _ _ _ o a0 cap hb ht hl =>
    obtain⟨arr,e,h1,h2,h3,h4⟩:=s.arr b cells o a0 hc hb;have C:ys.length=len:=by rw[<-h];simp
    subst C;by_cases h0:ys.length=0
    .simp_all
    .have I:g=sz:=by
      have J:0<ys.length:=zOm;have hm:(cells.drop (off+0*g)).take g∈ys:=by
       rw[<-h];exact qr.2 ⟨0,zUs J,rfl⟩
      have:=(R _ hm).1;have a1:g<=ys.length*g:=Nat.le_mul_of_pos_left _ J;simp at this;omega
     subst I;have l:ys.flatten=(cells.drop off).take (ys.length*g):=by
      rw[<-h];have:=U6 g ys.length (cells.drop off) zSo;simp only[List.drop_drop]at this;simpa using this
     refine fin ⟨o,off,none⟩ cap (fun k=>arr.getD (off+k) xa) (fun k y i=>?_) rfl;rw[l,jp]at i;split at i
     .rw [jF]at i
      refine⟨?_,(h4 _ y i).2⟩;rw[Zi (a:=⟨o,off,none⟩) h1 rfl];have a4:off+k<cells.length:=(qk.1 i).1;have:off+k<arr.size:=zOm;simp[qH,this]
     grind
   grind
  grind
 grind
def vR(P:j1)(mu:Mu)(g:Array j2)(s x:AV)(K:AV->Mu->Prop):Prop:=
  ∃ t o e l r j,g=#[t,o]/\qN P t=some (e,l,r)/\(qN P o).isSome=true/\(∃ i,qC P e=some i/\i.cells.length=l/\i.cells.all AV.one=true)/\l≠0/\r<=16384/\qO mu x=some j/\zy l j /\
    ((∃ p,s = .lst true p/\zy l p/\p.length+j.length<=4294967296/\(j=[]->K s mu)/\(j≠[]->K (.sl mu.length l 0 (p.length+j.length)) (mu++[.arr (p++j).flatten]))) \/
     (∃ b len cells,s = .sl b l 0 len/\mu[b]?=some (.arr cells)/\len*l<=cells.length/\len+j.length<=4294967296 /\
        K (.sl mu.length l 0 (len+j.length)) (mu.set b .dead++[.arr (cells.take (len*l)++j.flatten)])))
theorem kE{t C ty e:j2}{i:TypeInfo}{d:j2}(I:P.underlying t=some (.slice e))(o:P.underlying C=some (.slice d))(J:P.info? e=some i)
  {base:Option Addr} {g j n cap:Nat} {a:Option Addr} {news:List uk} {w':j3}
  (hf:(Builtin.firstCells i.size n (.slice a n cap)).run P w = .ok news.toArray w) (l:g+n<=j)
  (p:∀ b,base=some b->(storeCells (b.add (g*i.size)) news).run P w = .ok () w') (r:base=none->w'=w) :
  (Builtin.append_ #[t,C] ty #[.slice base g j,.slice a n cap]).run P w = .ok (.slice base (g+n) j) w':=by
 cases base with
 |none =>
  have:=r rfl;subst this;simp[Builtin.append_,run_underlying I,run_underlying o,sizeOf,typeInfo,J,Builtin.lenOf,l,hf]
 |some b =>
  have:=p b rfl;simp[Builtin.append_,run_underlying I,run_underlying o,sizeOf,typeInfo,J,Builtin.lenOf,l,hf,this]
theorem qdC{t I ty e:j2}{i:TypeInfo}{z:uk}{d:j2}(R:P.underlying t=some (.slice e))(r:P.underlying I=some (.slice d))(T:P.info? e=some i)(U:i.zero=some z)
  {base a:Option Addr} {g j n cap:Nat} {l news:List uk}
  (C:(Builtin.firstCells i.size g (.slice base g j)).run P w.drew = .ok l.toArray w.drew) (hf:(Builtin.firstCells i.size n (.slice a n cap)).run P w.drew = .ok news.toArray w.drew)
  (hg:j<g+n) (a0:((g+n:Nat):Int)<=9223372036854775807) (J:Builtin.nextslicecap (g+n) j*i.bytes<=281474976710656) :
  (Builtin.append_ #[t,I] ty #[.slice base g j,.slice a n cap]).run P w =
   .ok (.slice (some ⟨w.heap.size,0,none⟩) (g+n) (grownCap w (g+n) j e))
    (w.drew.alloc (.cells (l++(news++(yO z.cells (grownCap w (g+n) j e-(g+n))).toList)).toArray e)):=by
 have hn:¬(g+n<=j):=zOm;have o:¬(9223372036854775807<((g:Int)+(n:Int))):=zOm;have p:¬(281474976710656<Builtin.nextslicecap (g+n) j*i.bytes):=zOm;simp[Builtin.append_,run_underlying R,run_underlying r,sizeOf,typeInfo,zeroValue,T,U,Builtin.lenOf,hn,o,p,Question.forced,hf,C,newRow,grownCap];congr 2;apply Array.ext';simp
theorem kF(w:j3)(g i:Nat)(e:j2):g<=grownCap w g i e:=by
 simp only[grownCap,Question.cut];omega
theorem kG{g cap bt:Nat}(h:cap<g)(i:g<=4294967296)(j:bt<=16384):Builtin.nextslicecap g cap*bt<=281474976710656:=by
 refine growslice_fits h ?_;have:g*bt<=4294967296*16384:=Nat.mul_le_mul i j;omega
theorem kH{G:Gh}{mu:Mu}(s:Sim G mu w.heap){J:Array j2}{ty:j2}{sv xv:AV}{vs vx:uk}(rs:VRel G w.heap sv vs)(rx:VRel G w.heap xv vx){K:AV->Mu->Prop}
  (h:vR P mu J sv xv K):∃ z mu',K z mu'/\Good P G mu w (Builtin.append_ J ty #[vs,vx]) z mu':=by
 obtain⟨t,t',e,l,bt,ys,rfl,aw,bl,⟨zv,ax,ay,az⟩,bm,b0,b1,aa,h⟩:=h;obtain⟨i,hu,hi,rfl,rfl⟩:=vQ aw;obtain⟨d,ah⟩:∃ d,P.underlying t'=some (.slice d):=by
  grind [qN,vQ]
 obtain⟨i',z,b2,hz,rfl⟩:=Ve ax;obtain rfl:i=i':=Option.some.inj (hi.symm.trans b2);have al:z.cells.size=i.size:=by rw[(YK (G:=G) (h:=w.heap) z (fun c hc=>by simpa using qI.1 az c hc)).1,ay]
 obtain⟨a,cap,o,rfl,ai,an,a6,hf,b3⟩:=Vf (P:=P) s rx b1 aa;have b4:=jG aa.ok
 have grow:∀(base:Option Addr) (g R:Nat) (C:List uk) (oc:List AV) (b5:Mu) (G1:Gh),g*i.size=oc.length->C.length=oc.length->(∀(k:Nat) y,oc[k]?=some y->y.one=true/\VRel G w.heap y (C.getD k xa)) ->
   (Builtin.firstCells i.size g (.slice base g R)).run P w.drew = .ok C.toArray w.drew->R<g+ys.length->g+ys.length<=4294967296 ->
   Good P G mu w (Builtin.append_ #[t,t'] ty #[.slice base g R,.slice a ys.length cap]) (.sl mu.length i.size 0 (g+ys.length)) (mu++[.arr (oc++ys.flatten)]):=by
  intro base g R C oc b5 G1 b6 a3 T ab hg a7;have a2:=qdC (ty:=ty) hu ah hi hz ab b3 hg zOm (kG hg a7 b0);have b7:=kF w (g+ys.length) R e;generalize grownCap w (g+ys.length) R e=gc at a2 b7;have b8:(yO z.cells (gc-(g+ys.length))).toList.length=(gc-(g+ys.length))*z.cells.size:=by simp[size_zeroCells]
  have sd:Sim G mu w.drew.heap:=s;have U:=Stp.allocNew sd (.cells (C++(o++(yO z.cells (gc-(g+ys.length))).toList)).toArray e) (.arr (oc++ys.flatten)) ((C++(o++(yO z.cells (gc-(g+ys.length))).toList)).length) (by
   intro _;refine⟨_,e,rfl,zSp,by simp only[zc];omega,fun j y hj=>?_⟩;rw[U5,zT];by_cases ad:j<oc.length
   .rw [qo ad]at hj
    rw[qo zOm,<-zT];exact T j y hj
   .rw [zf zOm]at hj
    rw[zf zOm,a3];have:j-oc.length<ys.flatten.length:=(qk.1 hj).1;rw[qo zOm,<-zT];exact⟨aa.one y (qV hj),a6 _ y hj⟩)
  have ao:(C++(o++(yO z.cells (gc-(g+ys.length))).toList)).length=gc*i.size:=by
   simp only[zc,b8,al,a3,<-b6,ai,<-Nat.add_mul];congr 1;omega
  rw[ao]at U;refine⟨_,_,_,a2,(Stp.drew s).trans s U,?_⟩;refine .sl _ i.size 0 _ w.heap.size (gc*i.size) gc ?_ zOm zOm;show (G.blk++[_])[mu.length]?=_;rw[<-s.len];simp
 rcases h with ⟨p,rfl,aj,a7,b9,bb⟩|⟨b,len,cells,rfl,hc,aq,a7,hk⟩
 .obtain ⟨a0,af,C,rfl,a3,_,T,ab,a5⟩:=Vf (P:=P) s rs (ys:=p) rfl aj
  have ar:af=p.length:=by
   obtain⟨a1,c1,h1,_,h2,_⟩:=rs.lst_inv;cases h1;exact h2 rfl
  subst ar;by_cases hy:ys=[]
  .subst hy
   refine⟨_,_,b9 rfl,_,_,_,?_,Stp.refl s,rs⟩;have hn:o=[]:=ug (zUs ai);subst hn;exact kE (ty:=ty) hu ah hi hf zSp (fun b hb=>rfl) (fun _=>rfl)
  .have bn:0<ys.length:=List.length_pos_iff.2 hy
   have au:=jG aj.ok;have:=grow a0 p.length p.length C p.flatten mu G au.symm (by rw[a3,au]) (fun k y hk=>⟨aj.one y (qV hk),T k y hk⟩) a5 zOm a7;rw[<-List.flatten_append]at this;exact⟨_,_,bb hy,this⟩
 .refine ⟨_,_,hk,?_⟩
  have ak:qO mu (.sl b i.size 0 len)=some ((qu len).map fun j=>(cells.drop (j*i.size)).take i.size):=by
   simp only[qO,hc,yy];rw[if_pos aq]
  have bc:=rs;cases rs with
  |sl _ _ _ _ I ae a8 hb ht hl =>
  obtain⟨arr,e',h1,h2,h3,h4⟩:=s.arr b cells I ae hc hb;have av:zy i.size ((qu len).map fun j=>(cells.drop (j*i.size)).take i.size):=by
   intro r hr;obtain⟨j,hj,rfl⟩:=qr.1 hr;have be:j<len:=zUs hj;have:(j+1)*i.size<=len*i.size:=Nat.mul_le_mul_right _ be;rw[Nat.succ_mul]at this;refine⟨zSo,?_⟩;rw[qI];intro c bg;obtain⟨k,hk⟩:=List.mem_iff_getElem?.1 (List.mem_of_mem_drop (uK bg));exact(h4 k c hk).1
  have bh:=U6 i.size len cells aq;obtain⟨a0,af,C,hv,a3,_,T,ab,a5⟩:=Vf (P:=P) s bc ak av;rw[bh]at T;simp only[yI,List.length_range]at hv a3 ab a5;by_cases a4:len+ys.length<=a8
  ·
   have bo:len*i.size+o.length<=arr.size:=by
    have h5:=Nat.mul_le_mul_right i.size a4;rw[Nat.add_mul]at h5;rw[ai,h2];omega
   have a2:=run_storeCells_at P I (len*i.size) e' o 0 arr w h1 zOm an;simp only[Nat.add_zero]at a2;have bi:=kE (ty:=ty) (w':=w.setRow I (arr.toList.take (len*i.size)++o++arr.toList.drop (len*i.size+o.length)).toArray) hu ah hi hf a4 (base:=some ⟨I,0,none⟩)
    (fun b' bj=>by
     cases bj;have:(⟨I,0,none⟩:Addr).add (len*i.size)=⟨I,len*i.size,none⟩:=by unfold Addr.add;split<;>simp_all
     rw[this];exact a2) zSp
   have st1:=Stp.write (w':=w.setRow I (arr.toList.take (len*i.size)++o++arr.toList.drop (len*i.size+o.length)).toArray) s b (.arr cells) (.arr (cells.take (len*i.size)++ys.flatten)) I ae
    (.cells (arr.toList.take (len*i.size)++o++arr.toList.drop (len*i.size+o.length)).toArray e' (0,0)) hc zSp zSp hb zSp (setRow_heap w I arr _ e' _ h1) (fun k hk=>setRow_other w I k _ hk) rfl rfl rfl
    (by
     have ag:(cells.take (len*i.size)).length=len*i.size:=zSo;have bk:(arr.toList.take (len*i.size)).length=len*i.size:=zSo;refine⟨_,e',rfl,zSo,by simp only[zc,ag,b4];omega,fun j y hj=>?_⟩;rw[U5,zT,zE];by_cases ad:j<len*i.size
     .rw [qo zOm,jp,if_pos ad]at hj
      rw[qo zOm,jp,if_pos ad,uI,<-qH];exact h4 j y hj
     .rw [zf zOm,ag]at hj
      rw[zf zOm,bk];have:j-len*i.size<ys.flatten.length:=(qk.1 hj).1;rw[qo zOm,<-zT];exact⟨aa.one y (qV hj),a6 _ y hj⟩)
   have a9:b<mu.length:=(qk.1 hc).1;have st2:=Stp.move st1.sim b (.arr (cells.take (len*i.size)++ys.flatten)) I ae (zP1 a9) zSp hb;rw[List.set_set]at st2;refine⟨_,_,_,bi,st1.trans s st2,?_⟩;refine .sl _ i.size 0 _ I ae a8 ?_ ht a4;show (G.blk++[_])[mu.length]?=_;rw[<-s.len];simp
  .obtain ⟨v,w',G',k1,k2,k3⟩:=grow (some ⟨I,0,none⟩) len a8 C (cells.take (len*i.size)) mu G zSo (by rw[a3];simp;omega) (fun k y hk=>by
    refine⟨?_,T k y hk⟩;rw[jp]at hk;split at hk
    .exact (h4 k y hk).1
    .exact absurd hk zSp) a5 zOm a7
   have st2:=Stp.kill k2.sim b;have a9:b<mu.length:=(qk.1 hc).1;rw[List.set_append_left _ _ a9]at st2;exact⟨v,w',G',k1,k2.trans s st2,k3⟩
end
end Go.Ev
namespace Go.Ev
open Go Go.RowKit
section
variable {es:List (AV×AV)}{xs:List (List AV)}{cs:List AV}
structure St where
 tm:Nat->AV
 mu:Mu
def St.put(st:St)(d:Option Tmp)(v:AV)(m:Mu):St:=
 ⟨match d with|some d=>fun i=>if i=d then v else st.tm i|none=>st.tm,m⟩
def St.ev(st:St):us->AV
 | .tmp t=>st.tm t
 | .const v=>ofV v
 | .global _ => .any
 | .func f => .fn (.func f) [] []
structure Pol where
 mt:List Nat:=[]
inductive AEnd where
 |ret (v:AV)
 |pan (v:AV)
def zM(G:Gh)(h:Array Obj)(args:List AV)(g:Array uk):Prop:=
 g.size=args.length/\∀(k:Nat) x,args[k]?=some x->VRel G h x (g.getD k xa)
def je(P:j1)(f:wh):Prop:=∀(args:Array uk) (w:j3),(callFunc f args).run P w = .ok (.enter f args) w
def qe(P:j1)(f:wh)(args:List AV)(mu:Mu)(R:AEnd->Mu->Prop):Prop:=je P f /\
 ∀(G:Gh) (w:j3) (o:Array uk),Sim G mu w.heap->zM G w.heap args o ->
  Calls P f o w fun e j=>∃ l g,Stp G mu w l g j /\
   ((∃ r v,R (.ret r) g/\e = .returned v/\VRel l j.heap r v)\/(∃ r v,R (.pan r) g/\e = .panicked [{ v,recovered:=false }]/\VRel l j.heap r v))
structure ZS (B:Nat) (w w':j3):Prop extends Below B w w' where
 drawn:w.drawn<=w'.drawn
def qd(P:j1)(f:wh)(args:List AV)(r:AV):Prop:=je P f /\
 ∀(i:Nat->Prop) (w:j3) (l:Array uk),Sim ⟨i,[]⟩ [] w.heap->zM ⟨i,[]⟩ w.heap args l ->
  Calls P f l w fun e j=>∃ g v,e = .returned v/\(∀ b,i b->g b)/\(∀ b,g b->b<j.heap.size/\(i b\/w.heap.size<=b))/\ZS w.heap.size w j/\VRel ⟨g,[]⟩ j.heap r v
def qdD(P:j1)(f:wh)(args:List AV)(r:AV):Prop:=je P f /\
 ∀(g:Nat->Prop) (w:j3) (j:Array uk),Sim ⟨g,[]⟩ [] w.heap->zM ⟨g,[]⟩ w.heap args j ->
  Calls P f j w fun e i=>∃ l v,e = .returned v/\(∀ b,l b->w.heap.size<=b/\b<i.heap.size)/\ZS w.heap.size w i/\VRel ⟨l,[]⟩ i.heap r v
def HF(x:AV):Prop:=∀(G:Gh) (h:Array Obj) (v:uk),VRel G h x v->VRel ⟨G.imm,[]⟩ h x v
def FL(x:AV):Prop:=∀(G g:Gh) (h i:Array Obj) (v:uk),VRel G h x v->VRel g i x v
theorem HF.sc(v:uk):HF (.sc v):=fun _ _ u r=>by cases r with|sc _ g=>exact .sc _ g
theorem HF.agg(h:∀ c,c∈cs->HF c):HF (.agg cs):=fun G hp u r=>by
 cases r with
 |agg _ j g i=>exact .agg _ _ g (fun k x hx=>h x (qV hx) G hp _ (i k x hx))
theorem HF.tup(h:∀ c,c∈cs->HF c):HF (.tup cs):=fun G hp u r=>by
 cases r with
 |tup _ j g i=>exact .tup _ _ g (fun k x hx=>h x (qV hx) G hp _ (i k x hx))
theorem HF.ip(h:∀ c,c∈cs->HF c):HF (.ip cs):=fun G hp u r=>by
 cases r with
 |ip _ a arr e g rd i j l o p=>exact .ip _ a arr e g rd i j l o (fun k x hx=>h x (qV hx) G hp _ (p k x hx))
theorem HF.ifc{t:j2}{x:AV}(h:HF x):HF (.ifc t x):=fun G hp u r=>by
 cases r with
 |ifc _ _ v g=>exact .ifc _ _ _ (h G hp v g)
theorem HF.lst{full:Bool}(h:∀ r,r∈xs->∀ c,c∈r->HF c):HF (.lst full xs):=fun G hp u r=>by
 cases r with
 |nil=>exact .nil _
 |emp _ a cap g=>exact .emp _ a cap g
 |lst _ _ l a cap i e j rd o p t g C I J P =>
  refine .lst _ _ l a cap i e j rd o p t g C I J (fun k x hx=>?_);obtain⟨row,R,T⟩:=K7.1 (qV hx);exact h row R x T G hp _ (P k x hx)
theorem HF.fn{f:Fn}{first caps:List AV}(g:∀ c,c∈first->HF c)(i:∀ c,c∈caps->HF c):HF (.fn f first caps):=fun G hp u r=>by
 cases r with
 |fn _ _ _ j l o p t C=>exact .fn _ _ _ j l o p (fun k x hx=>g x (qV hx) G hp _ (t k x hx)) (fun k x hx=>i x (qV hx) G hp _ (C k x hx))
theorem HF.im(h:∀ p,p∈es->HF p.1/\HF p.2):HF (.im es):=fun G hp u r=>by
 cases r with
 |im _ g ce clock i j l o t C=>exact .im _ g ce clock i j l (fun k x hx=>(h x (qV hx)).1 G hp _ (o k x hx)) (fun k x hx=>(h x (qV hx)).2 G hp _ (t k x hx)) C
theorem HF.ims(h:∀ p,p∈es->HF p.1/\HF p.2):HF (.ims es):=fun G hp u r=>by
 cases r with
 |ims _ i C I _ g J r =>
  refine .ims _ i C I _ g J (HF.im (fun p l=>?_) G hp _ r);obtain⟨j,o⟩:=List.mem_iff_getElem?.1 l;have t:j<es.length:=by rw[<-g.1];exact(qk.1 o).1
  rw[g.back t]at o;exact h p (qV o)
theorem FL.sc(v:uk):FL (.sc v):=fun _ _ _ _ u r=>by cases r with|sc _ g=>exact .sc _ g
theorem FL.agg(h:∀ c,c∈cs->FL c):FL (.agg cs):=fun G i hp g u r=>by
 cases r with
 |agg _ o j l=>exact .agg _ _ j (fun k x hx=>h x (qV hx) G i hp g _ (l k x hx))
theorem FL.tup(h:∀ c,c∈cs->FL c):FL (.tup cs):=fun G i hp g u r=>by
 cases r with
 |tup _ o j l=>exact .tup _ _ j (fun k x hx=>h x (qV hx) G i hp g _ (l k x hx))
inductive Rd (mu:Mu):AV->AV->Prop
 |hf (x:AV) (h:HF x):Rd mu x x
 |sl (b sz off len:Nat) (cells:List AV) (ys:List (List AV)) (hc:mu[b]?=some (.arr cells)) (hl:off+len*sz<=cells.length) (hn:ys.length=len) (hz:jH sz ys)
   (h:∀(k:Nat) x y,cells[off+k]?=some x->ys.flatten[k]?=some y->Rd mu x y):Rd mu (.sl b sz off len) (.lst false ys)
 |ptr (b off:Nat) (cells ys:List AV) (hc:mu[b]?=some (.arr cells)) (hn:off+ys.length<=cells.length) (h:∀(k:Nat) x y,cells[off+k]?=some x->ys[k]?=some y->Rd mu x y):Rd mu (.ptr b off) (.ip ys)
 |mp (b:Nat) (es fs:List (AV×AV)) (hc:mu[b]?=some (.mp es)) (hn:fs.length=es.length) (hk:∀(k:Nat) x y,es[k]?=some x->fs[k]?=some y->Rd mu x.1 y.1) (hv:∀(k:Nat) x y,es[k]?=some x->fs[k]?=some y->Rd mu x.2 y.2):Rd mu (.mp b) (.im fs)
 |md (b:Nat) (es fs:List (AV×AV)) (hc:mu[b]?=some (.md es)) (hn:fs.length=es.length) (hk:∀(k:Nat) x y,es[k]?=some x->fs[k]?=some y->Rd mu x.1 y.1) (hv:∀(k:Nat) x y,es[k]?=some x->fs[k]?=some y->Rd mu x.2 y.2):Rd mu (.mp b) (.im fs)
 |agg (xs ys:List AV) (hn:ys.length=xs.length) (h:∀(k:Nat) x y,xs[k]?=some x->ys[k]?=some y->Rd mu x y):Rd mu (.agg xs) (.agg ys)
 |tup (xs ys:List AV) (hn:ys.length=xs.length) (h:∀(k:Nat) x y,xs[k]?=some x->ys[k]?=some y->Rd mu x y):Rd mu (.tup xs) (.tup ys)
 |lst (full:Bool) (xs ys:List (List AV)) (hn:ys.length=xs.length) (hz:∀(k:Nat) x y,xs[k]?=some x->ys[k]?=some y->x.length=y.length) (h:∀(k:Nat) x y,xs.flatten[k]?=some x->ys.flatten[k]?=some y->Rd mu x y):Rd mu (.lst full xs) (.lst full ys)
 |fn (f:Fn) (first first' caps caps':List AV) (hn:first'.length=first.length) (hm:caps'.length=caps.length) (h:∀(k:Nat) x y,first[k]?=some x->first'[k]?=some y->Rd mu x y) (h':∀(k:Nat) x y,caps[k]?=some x->caps'[k]?=some y->Rd mu x y) :
   Rd mu (.fn f first caps) (.fn f first' caps')
 |ifc (t:j2) (x y:AV) (h:Rd mu x y):Rd mu (.ifc t x) (.ifc t y)
 |wk (x:AV) (full:Bool) (ys:List (List AV)) (h:Rd mu x (.lst full ys)):Rd mu x (.lst false ys)
 |ims (x:AV) (es es':List (AV×AV)) (σ τ:Nat->Nat) (hp:PIx σ τ es es') (hd:(es.map Prod.fst).Nodup) (h:Rd mu x (.im es')):Rd mu x (.ims es)
theorem Rd.zsc{mu:Mu}(v:uk):Rd mu (.sc v) (.sc v):=.hf _ (HF.sc _)
theorem kI{ys:List (List AV)}(g:ys.length=xs.length)(i:∀(k:Nat) x y,xs[k]?=some x->ys[k]?=some y->x.length=y.length):xs.flatten.length=ys.flatten.length:=by
 induction xs generalizing ys with
 |nil=>cases ys with
  |nil=>rfl
  |cons=>simp at g
 |cons x xs j =>
  cases ys with
  |nil=>simp at g
  |cons y ys =>
   have l:=i 0 x y rfl rfl;have:=j (ys:=ys) (zUs g) (fun k a b o p=>i (k+1) a b (zUs o) (zUs p));simp only[wt,zc,l,this]
theorem Rd.sound{G:Gh}{mu:Mu}{h:Array Obj}(s:Sim G mu h){x y:AV}(r:Rd mu x y):∀{v:uk},VRel G h x v->VRel ⟨fun b=>G.imm b\/Live G mu b,[]⟩ h y v:=by
 have a7:Gh.le ⟨G.imm,[]⟩ ⟨fun b=>G.imm b\/Live G mu b,[]⟩:=⟨fun b h => .inl h,fun _ _ h=>h⟩;induction r with
 |hf x hx=>intro v r;exact(hx G h v r).le a7
 |sl b l off len cells j P hl U hz o R =>
  intro v r;subst U;cases r with
  |sl _ _ _ _ C J cap T ht a5 =>
  obtain⟨arr,e,h1,h2,h3,h4⟩:=s.arr b cells C J P T;by_cases h0:j=[]
  .subst h0;exact .emp false _ cap zSp
  .have a6:=jG hz
   have i:∀(k:Nat) y,j.flatten[k]?=some y->∃ x,cells[off+k]?=some x:=by
    intro k y g;have hk:k<j.length*l:=by rw[<-a6];exact(qk.1 g).1
    exact⟨cells[off+k]' zOm,by simp[show off+k<cells.length by omega]⟩
   refine .lst false j l ⟨C,off,none⟩ cap arr e (0,0) (fun k=>arr.getD (off+k) xa) h1 rfl a5 zSp (.inr ⟨b,_,J,P,zSp,T⟩) hz ?_ ?_
   .intro k y g
    obtain⟨x,hx⟩:=i k y g;have:off+k<arr.size:=by have:=(qk.1 hx).1;omega
    simp[qH,this]
   .intro k y g
    obtain⟨x,hx⟩:=i k y g;exact R k x y hx g (h4 _ x hx).2
 |ptr b off cells j P U o R =>
  intro v r;cases r with
  |ptr _ _ C J T =>
  obtain⟨arr,e,h1,h2,h3,h4⟩:=s.arr b cells C J P T;have i:∀(k:Nat) y,j[k]?=some y->∃ x,cells[off+k]?=some x:=by
   intro k y g;have hk:k<j.length:=(qk.1 g).1;exact⟨cells[off+k]' zOm,by simp[show off+k<cells.length by omega]⟩
  refine .ip j ⟨C,off,none⟩ arr e (0,0) (fun k=>arr.getD (off+k) xa) h1 rfl (.inr ⟨b,_,J,P,zSp,T⟩) ?_ ?_
  .intro k y g
   obtain⟨x,hx⟩:=i k y g;have:off+k<arr.size:=by have:=(qk.1 hx).1;omega
   simp[qH,this]
  .intro k y g
   obtain⟨x,hx⟩:=i k y g;exact R k x y hx g (h4 _ x hx).2
 |mp b I fs P U hk hv a2 a3 =>
  intro v r;cases r with
  |mp _ C J T =>
  obtain⟨ce,cl,h1,h2,h3,h4,h5,h6⟩:=s.mp b I C J P T;have i:∀(k:Nat) y,fs[k]?=some y->∃ x,I[k]?=some x:=by
   intro k y g;have hk:k<fs.length:=(qk.1 g).1;exact⟨I[k]' zOm,by simp[show k<I.length by omega]⟩
  refine .im fs C ce cl h1 (.inr ⟨b,_,J,P,zSp,T⟩) zOm ?_ ?_ (.of h5 h6)
  .intro k y g
   obtain⟨x,hx⟩:=i k y g;exact a2 k x y hx g (h3 k x hx)
  .intro k y g
   obtain⟨x,hx⟩:=i k y g;exact a3 k x y hx g (h4 k x hx)
 |md b I fs P U hk hv a2 a3 =>
  intro v r;cases r with
  |mp _ C J T =>
  obtain⟨ce,cl,h1,h2,h3,h4,h5⟩:=s.md b I C J P T;have i:∀(k:Nat) y,fs[k]?=some y->∃ x,I[k]?=some x:=by
   intro k y g;have hk:k<fs.length:=(qk.1 g).1;exact⟨I[k]' zOm,by simp[show k<I.length by omega]⟩
  refine .im fs C ce cl h1 (.inr ⟨b,_,J,P,zSp,T⟩) zOm ?_ ?_ h5
  .intro k y g
   obtain⟨x,hx⟩:=i k y g;exact a2 k x y hx g (h3 k x hx)
  .intro k y g
   obtain⟨x,hx⟩:=i k y g;exact a3 k x y hx g (h4 k x hx)
 |agg p j U o R =>
  intro v r;cases r with
  |agg _ vs hm hv =>
  refine .agg _ _ zOm (fun k y g=>?_);have hk:k<j.length:=(qk.1 g).1;have hx:p[k]?=some (p[k]' zOm):=by simp[show k<p.length by omega]
  exact R k _ y hx g (hv k _ hx)
 |tup p j U o R =>
  intro v r;cases r with
  |tup _ vs hm hv =>
  refine .tup _ _ zOm (fun k y g=>?_);have hk:k<j.length:=(qk.1 g).1;have hx:p[k]?=some (p[k]' zOm):=by simp[show k<p.length by omega]
  exact R k _ y hx g (hv k _ hx)
 |lst full p j U hz o R =>
  intro v r;have a6:=kI U hz;cases r with
  |nil=>cases j with
   |nil=>exact .nil _
   |cons=>simp at U
  |emp _ a cap P=>cases j with
   |nil=>exact .emp _ a cap P
   |cons=>simp at U
  |lst _ _ l a cap cs e fr rd T hs hl P hi a8 hr hv =>
   rw[<-U];have i:∀(k:Nat) y,j.flatten[k]?=some y->∃ x,p.flatten[k]?=some x:=by
    intro k y g;have hk:k<j.flatten.length:=(qk.1 g).1;exact⟨p.flatten[k]' zOm,by simp only[qA (show k<p.flatten.length by omega)]⟩
   refine .lst full j l a cap cs e fr rd T hs zOm (by rw[U];exact P) (.inl hi) ?_ ?_ ?_
   .intro r a9
    obtain⟨k,hk⟩:=List.mem_iff_getElem?.1 a9;have ae:k<j.length:=(qk.1 hk).1;have hx:p[k]?=some (p[k]' zOm):=by simp[show k<p.length by omega]
    rw[<-hz k _ r hx hk];exact a8 _ (qV hx)
   .intro k y g
    obtain⟨x,hx⟩:=i k y g;exact hr k x hx
   .intro k y g
    obtain⟨x,hx⟩:=i k y g;exact R k x y hx g (hv k x hx)
 |fn f first a1 a0 a4 U hm o aa R ab =>
  intro v r;cases r with
  |fn _ _ _ vs ws af ag hv hw =>
  refine .fn f _ _ vs ws zOm zOm (fun k y g=>?_) (fun k y g=>?_)
  .have hk:k<a1.length:=(qk.1 g).1
   have hx:first[k]?=some (first[k]' zOm):=by simp[show k<first.length by omega]
   exact R k _ y hx g (hv k _ hx)
  .have hk:k<a4.length:=(qk.1 g).1
   have hx:a0[k]?=some (a0[k]' zOm):=by simp[show k<a0.length by omega]
   exact ab k _ y hx g (hw k _ hx)
 |ifc t x y o R =>
  intro v r;cases r with
  |ifc _ _ v hv=>exact .ifc t y v (R hv)
 |wk x full j o R =>
  intro v r;have:=R r;cases this with
  |nil=>exact .nil _
  |emp _ a cap P=>exact .emp _ a cap zSp
  |lst _ _ l a cap cs e fr rd T hs hl P hi hz hr hv=>exact .lst _ _ l a cap cs e fr rd T hs hl zSp hi hz hr hv
 |ims x I ad σ τ hp hd o R =>
  intro v r;exact .ims I ad σ τ v hp hd (R r)
end
end Go.Ev
namespace Go.Ev
open Go Go.RowKit
section
variable {s x:AV}{K:AV->Mu->Prop}{h:Array Obj}{g:Array j2}{G:Gh}{mu:Mu}{P:j1}{w:j3}
def cutM(keep:Nat->Bool):Mu->Nat->Mu
 | [],_=>[]
 |c :: l,i=>(if keep i=true then c else .dead) :: cutM keep l (i+1)
theorem uP(keep:Nat->Bool):∀(mu:Mu) (i k:Nat),(cutM keep mu k)[i]?=(mu[i]?).map fun c=>if keep (k+i)=true then c else .dead
 | [],i,k=>by simp[cutM]
 |c :: l,0,k=>by simp[cutM]
 |c :: l,i+1,k=>by
  rw[cutM,j7,j7,uP keep l i (k+1)];have:k+1+i=k+(i+1):=zOm;rw[this]
theorem jr(keep:Nat->Bool):∀(mu:Mu) (k:Nat),(cutM keep mu k).length=mu.length
 | [],_=>rfl
 |c :: l,k=>by simp[cutM,jr keep l (k+1)]
theorem jV{keep:Nat->Bool}{i:Nat}{c:Cell}(h:(cutM keep mu 0)[i]?=some c)(l:c ≠ .dead):mu[i]?=some c/\keep i=true:=by
 rw[uP]at h;cases j:mu[i]? with
 |none=>rw[j]at h;simp at h
 |some o =>
  rw[j]at h;simp only[zd,yy,qp]at h;by_cases g:keep i=true
  .rw [if_pos g]at h;subst h;exact⟨rfl,g⟩
  .rw [if_neg g]at h;exact absurd h.symm l
theorem Live.cut{keep:Nat->Bool}{b:Nat}(h:Live G (cutM keep mu 0) b):Live G mu b:=by
 obtain⟨i,c,g,l,j,o⟩:=h;exact⟨i,c,g,(jV l j).1,j,o⟩
theorem Sim.cut(s:Sim G mu h)(keep:Nat->Bool):Sim G (cutM keep mu 0) h:=by
 refine⟨by rw[jr];exact s.len,s.imm,fun i c g l r o p=>s.obj i c g l (jV r o).1 o p,fun i c g l r o p=>s.live i c g l (jV r o).1 o p,?_,s.tab⟩;intro i j ci C b I J r o p t P R;exact s.inj i j ci C b I J (jV r p).1 (jV o t).1 p t P R
def frz(G:Gh)(give:Nat->Bool)(mu:Mu):Gh:=⟨fun b=>G.imm b\/Live G (cutM give mu 0) b,G.blk⟩
theorem Vg(s:Sim G mu h)(give:Nat->Bool):Sim (frz G give mu) (cutM (fun i=>!give i) mu 0) h:=by
 have J:G.le (frz G give mu):=⟨fun b C => .inl C,fun _ _ h=>h⟩;refine⟨by rw[jr];exact s.len,?_,?_,?_,?_,s.tab.mono (fun b h => .inl h) (fun _ _=>rfl)⟩
 .rintro b (C|⟨i,c,g,p,l,r⟩)
  .exact s.imm b C
  .obtain ⟨o,P,_⟩:=s.obj i c b g (jV p l).1 l r
   exact(yf.1 P).1
 .intro i c t g p l r
  obtain⟨o,P,U⟩:=s.obj i c t g (jV p l).1 l r;exact⟨o,P,U.mono J (Ext.refl _ _)⟩
 .rintro i c t g p l r (C|⟨j,c',I,g1,R,g3⟩)
  .exact s.live i c t g (jV p l).1 l r C
  .have e:=s.inj i j c c' t g I (jV p l).1 (jV g1 R).1 l R r g3
   subst e;have a1:=(jV p l).2;have a2:=(jV g1 R).2;simp[a2]at a1
 .intro i j ci cj b ti tj p l r T h5 h6
  exact s.inj i j ci cj b ti tj (jV p r).1 (jV l T).1 r T h5 h6
theorem Qi(s:Sim G mu w.heap)(give:Nat->Bool):Stp G mu w (frz G give mu) (cutM (fun i=>!give i) mu 0) w:=by
 refine⟨⟨fun b g => .inl g,fun _ _ h=>h⟩,Vg s give,fun _ _ _=>rfl,qm _,?_,?_,rfl,rfl,rfl,qm _⟩
 .rintro b ⟨i,c,j,o,l,p⟩
  exact .inl ⟨i,c,j,(jV o l).1,l,p⟩
 .rintro b (g|g)
  .exact .inl g
  .exact .inr (.inl g.cut)
theorem U7(s:Sim G mu h)(give:Nat->Bool){x y:AV}{v:uk}(r:Rd (cutM give mu 0) x y)(g:VRel G h x v):VRel (frz G give mu) h y v:=
 VRel.mono (G:=⟨fun b=>G.imm b\/Live G (cutM give mu 0) b,[]⟩) (G':=frz G give mu) ⟨fun _ j=>j,fun i x hx=>by simp at hx⟩ (Ext.refl _ _) (r.sound (s.cut give) g)
theorem vR.det(h:vR P mu g s x K):∃ v m,vR P mu g s x (fun a b=>a=v/\b=m)/\K v m:=by
 obtain⟨t,I,e,l,J,j,R,T,U,a4,a5,a6,a7,a8,h⟩:=h;rcases h with ⟨p,i,o,r,b4,b5⟩|⟨b,len,cells,i,o,r,b4,b5⟩
 .by_cases C:j=[]
  .exact ⟨_,_,⟨t,I,e,l,J,j,R,T,U,a4,a5,a6,a7,a8,.inl ⟨p,i,o,r,fun _=>⟨rfl,rfl⟩,fun h=>absurd C h⟩⟩,b4 C⟩
  .exact ⟨_,_,⟨t,I,e,l,J,j,R,T,U,a4,a5,a6,a7,a8,.inl ⟨p,i,o,r,fun h=>absurd h C,fun _=>⟨rfl,rfl⟩⟩⟩,b5 C⟩
 .exact ⟨_,_,⟨t,I,e,l,J,j,R,T,U,a4,a5,a6,a7,a8,.inr ⟨b,len,cells,i,o,r,b4,rfl,rfl⟩⟩,b5⟩
theorem vR.mono{R:AV->Mu->Prop}(h:vR P mu g s x K)(i:∀ v m,K v m->R v m):vR P mu g s x R:=by
 obtain⟨t,T,e,l,U,j,a1,a2,a3,a4,a5,a6,a7,a8,h⟩:=h;refine⟨t,T,e,l,U,j,a1,a2,a3,a4,a5,a6,a7,a8,?_⟩;rcases h with ⟨p,o,r,C,I,J⟩|⟨b,len,cells,o,r,C,I,J⟩
 .exact .inl ⟨p,o,r,C,fun h=>i _ _ (I h),fun h=>i _ _ (J h)⟩
 .exact .inr ⟨b,len,cells,o,r,C,I,i _ _ J⟩
def kJ(P:j1)(mu:Mu)(j:Array j2)(s x:AV)(K:AV->Mu->Prop):Prop:=
 ∃ t o e l r g n p,j=#[t,o]/\qN P t=some (e,l,r)/\P.underlying o=some (.int .i64)/\qC P e=some g/\g.cells.length=l/\g.cells.all AV.one=true/\l≠0/\r<=16384/\x = .sc (.int .i64 (Int.ofNat n))/\0<n/\s = .lst true p/\zy l p/\p.length+n<=4294967296 /\
  K (.sl mu.length l 0 (p.length+n)) (mu++[.arr (p.flatten++(qu (n*l)).map fun i=>g.cells.getD (i % l) .any)])
theorem qdE(s:Sim G mu w.heap){a2:Array j2}{ty:j2}{sv xv:AV}{vs vx:uk}(rs:VRel G w.heap sv vs)(rx:VRel G w.heap xv vx){K:AV->Mu->Prop}
  (h:kJ P mu a2 sv xv K):∃ z mu',K z mu'/\Good P G mu w (Builtin.append_ a2 ty #[vs,vx]) z mu':=by
 obtain⟨t,tn,e,l,bt,zv,n,p,rfl,ag,ah,ai,a3,a4,ar,a5,rfl,hn,rfl,I,aj,hk⟩:=h;obtain⟨i,hu,hi,rfl,rfl⟩:=vQ ag;obtain⟨i',z,ak,hz,rfl⟩:=Ve ai;obtain rfl:i=i':=Option.some.inj (hi.symm.trans ak);obtain⟨g,al⟩:=YK (G:=G) (h:=w.heap) z (fun c hc=>by simpa using qI.1 a4 c hc);rw[a3]at g;obtain⟨a0,a6,r,rfl,J,_,a7,av,a8⟩:=Vf (P:=P) s rs (ys:=p) rfl I;have a9:a6=p.length:=by
  obtain⟨a1,c1,h1,_,h2,_⟩:=rs.lst_inv;cases h1;exact h2 rfl
 subst a9;cases rx with
 |sc _ _ =>
 have aa:n*i.bytes<=281474976710656:=zP (Nat.mul_le_mul (show n<=4294967296 by omega) a5) zOm;have C:=Lib.run_append_grow_zeros w t tn ty e i z .i64 .i64 hu ah hi hz a0 p.length p.length r a8 n hn zOm zOm zOm aa (kG zOm aj a5);have ab:=kF w (p.length+n) p.length e;generalize grownCap w (p.length+n) p.length e=gc at C ab;have ad:=jG I.ok;have an:(yO z.cells n).size=n*i.size:=by simp[yO,g]
 have ao:(yO z.cells (gc-(p.length+n))).size=(gc-(p.length+n))*i.size:=by simp[yO,g]
 have ae:∀ j,j<n*i.size->(yO z.cells n).getD j xa=z.cells.getD (j % i.size) xa:=by
  intro j o;have R:0<i.size:=zOm;have T:j % i.size<z.cells.size:=by rw[g];exact Nat.mod_lt _ R
  simp[yO,g,qH,o,getElem!_pos z.cells (j % i.size) T,uM T]
 have sd:Sim G mu w.drew.heap:=s;have U:=Stp.allocNew sd (.cells (r.toArray++yO z.cells n++yO z.cells (gc-(p.length+n))) e) (.arr (p.flatten++(qu (n*i.size)).map fun j=>(ofV z).cells.getD (j % i.size) .any)) (gc*i.size) (by
  intro _;have au:p.length*i.size+n*i.size+(gc-(p.length+n))*i.size=gc*i.size:=by
   rw[<-Nat.add_mul,<-Nat.add_mul];congr 1;omega
  refine⟨_,e,rfl,by simp[J,an,ao];omega,by simp[ad,<-Nat.add_mul];exact Nat.mul_le_mul_right _ ab,fun j y o=>?_⟩;by_cases aq:j<p.flatten.length
  .rw [qo aq]at o
   refine⟨I.one y (qV o),?_⟩;have:=a7 j y o;rw[qH,Array.append_assoc,Array.getElem?_append_left zSo];rw[zT]at this;show VRel G w.heap y _;simpa using this
  .rw [zf zOm,zu]at o
   have af:j-p.flatten.length<n*i.size:=by
    cases hq:(qu (n*i.size))[j-p.flatten.length]? with
    |none=>rw[hq]at o;cases o
    |some q=>have:=(qk.1 hq).1;simpa using this
   rw[uH af]at o;have R:0<i.size:=zOm;have T:(j-p.flatten.length) % i.size<(ofV z).cells.length:=by rw[a3];exact Nat.mod_lt _ R
   simp only[zd,qp]at o;rw[zT,qA T]at o;subst o;refine⟨by simpa using qI.1 a4 _ (List.getElem_mem T),?_⟩;have e1:(r.toArray++yO z.cells n++yO z.cells (gc-(p.length+n))).getD j xa=(yO z.cells n).getD (j-p.flatten.length) xa:=by
    rw[qH,qH,Array.append_assoc,Array.getElem?_append_right zSo,Array.getElem?_append_left (by simp[J];omega)];simp[J,ad]
   rw[e1,ae _ af];exact al _ _ (qA T))
 refine⟨_,_,hk,_,_,_,C,(Stp.drew s).trans s U,?_⟩;refine .sl _ i.size 0 _ w.heap.size (gc*i.size) gc ?_ zOm zOm;show (G.blk++[_])[mu.length]?=_;rw[<-s.len];simp
def qF(P:j1)(mu:Mu)(g:Array j2)(s x:AV)(K:AV->Mu->Prop):Prop:=
 vR P mu g s x K\/((∃ give j,Rd (cutM give mu 0) x j/\vR P (cutM (fun i=>!give i) mu 0) g s j K)\/kJ P mu g s x K)
theorem qF.det{i:Array j2}(h:qF P mu i s x K):∃ v m,qF P mu i s x (fun a b=>a=v/\b=m)/\K v m:=by
 rcases h with h|⟨give,j,o,r⟩|⟨t,C,e,l,I,J,n,p,R,T,U,a4,a5,a6,a7,a8,a9,b1,b2,b3,b4,k⟩
 .obtain ⟨v,m,g,k⟩:=h.det;exact⟨v,m,.inl g,k⟩
 .obtain ⟨v,m,g,k⟩:=r.det;exact⟨v,m,.inr (.inl ⟨give,j,o,g⟩),k⟩
 .exact ⟨_,_,.inr (.inr ⟨t,C,e,l,I,J,n,p,R,T,U,a4,a5,a6,a7,a8,a9,b1,b2,b3,b4,rfl,rfl⟩),k⟩
theorem qF.mono{j:AV->Mu->Prop}(h:qF P mu g s x K)(i:∀ v m,K v m->j v m):qF P mu g s x j:=by
 rcases h with h|⟨give,o,r,C⟩|⟨t,I,e,l,J,R,n,p,T,U,a3,a4,a5,a6,a7,a8,a9,b1,b2,b3,b4,k⟩
 .exact .inl (h.mono i)
 .exact .inr (.inl ⟨give,o,r,C.mono i⟩)
 .exact .inr (.inr ⟨t,I,e,l,J,R,n,p,T,U,a3,a4,a5,a6,a7,a8,a9,b1,b2,b3,b4,i _ _ k⟩)
theorem qdF(s:Sim G mu w.heap){g:Array j2}{ty:j2}{l o:AV}{p r:uk}(i:VRel G w.heap l p)(j:VRel G w.heap o r){K:AV->Mu->Prop}
  (h:qF P mu g l o K):∃ z mu',K z mu'/\Good P G mu w (Builtin.append_ g ty #[p,r]) z mu':=by
 rcases h with h|⟨give,x',t,C⟩|h
 .exact kH s i j h
 .obtain ⟨z,mu',I,v,J,R,g1,T,U⟩:=kH (ty:=ty) (Vg s give) (i.mono (Qi s give).le (Ext.refl _ _)) (U7 s give t j) C
  exact⟨z,mu',I,v,J,R,g1,(Qi s give).trans s T,U⟩
 .exact qdE s i j h
inductive Gv (mu:Mu) (give:Nat->Bool):AV->AV->Prop where
 |same (x:AV):Gv mu give x x
 |rd (x y:AV) (h:Rd (cutM give mu 0) x y):Gv mu give x y
 |fn (f:Fn) (first first' caps caps':List AV) (hn:first'.length=first.length) (hm:caps'.length=caps.length) (h:∀(k:Nat) x y,first[k]?=some x->first'[k]?=some y->Gv mu give x y)
   (h':∀(k:Nat) x y,caps[k]?=some x->caps'[k]?=some y->Gv mu give x y):Gv mu give (.fn f first caps) (.fn f first' caps')
theorem Gv.sound(s:Sim G mu h){give:Nat->Bool}{x y:AV}(r:Gv mu give x y):∀{v:uk},VRel G h x v->VRel (frz G give mu) h y v:=by
 have p:G.le (frz G give mu):=⟨fun b C => .inl C,fun _ _ h=>h⟩;induction r with
 |same x=>intro v j;exact j.mono p (Ext.refl _ _)
 |rd x y r=>intro v j;exact U7 s give r j
 |fn f first g i l hn hm hr I J t =>
  intro v j;cases j with
  |fn _ _ _ P R T U j hw =>
  refine .fn f _ _ P R zOm zOm (fun k y o=>?_) (fun k y o=>?_)
  .have hk:k<g.length:=(qk.1 o).1
   have hx:first[k]?=some (first[k]' zOm):=qA _;exact J k _ y hx o (j k _ hx)
  .have hk:k<l.length:=(qk.1 o).1
   have hx:i[k]?=some (i[k]' zOm):=qA _;exact t k _ y hx o (hw k _ hx)
end
end Go.Ev
namespace Go.Ev
open Go Go.RowKit
section
variable {x:AV}{h:Array Obj}{G:Gh}{P:j1}{u:uk}{w:j3}
theorem YO{e:j2}{q:IntKind}{cs:Array uk}{i:Nat}{v:uk}(g:P.underlying e=some (.int q))(h:cs[i]?=some v):(part e cs i).run P w = .ok v w:=by
 have j:(isAgg e).run P w = .ok false w:=by simp[isAgg,run_underlying g]
 simp[part,j,h]
theorem YP{xs ys:List AV}{b:Bool}(h:aEqs (x :: xs) ys=some b):∃ k a b' i,x = .sc (.int k a)/\ys = .sc (.int k b') :: i/\(((a == b')=true/\aEqs xs i=some b)\/((a == b')=false/\b=false)):=by
 cases x with
 |sc v =>
  cases v with
  |int k a =>
   cases ys with
   |nil=>simp[aEqs]at h
   |cons y ys =>
    cases y with
    |sc u =>
     cases u with
     |int l b' =>
      by_cases j:k=l
      .subst j
       cases g:(a == b') with
       |true=>exact⟨k,a,b',ys,rfl,rfl,.inl ⟨g,by simpa[aEqs,g] using h⟩⟩
       |false=>exact⟨k,a,b',ys,rfl,rfl,.inr ⟨g,by simpa[aEqs,g] using h.symm⟩⟩
      .simp [aEqs,j]at h
     |_=>simp[aEqs]at h
    |_=>simp[aEqs]at h
  |_=>simp[aEqs]at h
 |_=>simp[aEqs]at h
theorem qdG(d:Nat){e:j2}{q:IntKind}(p:P.underlying e=some (.int q))(t C:Array uk):∀(xs ys:List AV) (i:Nat) (b:Bool),aEqs xs ys=some b ->
  (∀(k:Nat) x,xs[k]?=some x->∃ v,t[i+k]?=some v/\VRel G w.heap x v)->(∀(k:Nat) x,ys[k]?=some x->∃ v,C[i+k]?=some v/\VRel G w.heap x v) ->
  (forIn (m:=Sem) (List.range' i xs.length) ((none:Option Bool),()) fun i R=>do
   let a <-part e t i
   let b <-part e C i
   let c <-Op.equalIn (d+1) e a b
   if (!c)=true then pure (ForInStep.done (some false,())) else pure (ForInStep.yield (none,()))).run P w = .ok (if b then (none,()) else (some false,())) w:=by
 intro xs;induction xs with
 |nil =>
  intro ys i b h _ _;cases ys with
  |nil=>simp only[aEqs,qp]at h;subst h;rfl
  |cons=>simp[aEqs]at h
 |cons x xs T =>
  intro ys i b h I J;have U:=YP h;clear h;obtain⟨k,a,b',r,rfl,rfl,h⟩:=U;obtain⟨v,l,rv⟩:=I 0 _ rfl;obtain⟨u,o,ru⟩:=J 0 _ rfl;cases rv;cases ru;rw[Nat.add_zero]at l o;simp only[zG,List.range'_succ,List.forIn_cons,qT,YO p l,YO p o,qW,run_equalIn_int w d e k q a b' p];rcases h with ⟨g,h⟩|⟨g,rfl⟩
  .rw [g]
   simp only[Bool.not_true,Bool.false_eq_true,if_false,zD,qW];refine T r (i+1) b h (fun j x hx=>?_) (fun j x hx=>?_)
   .have:=I (j+1) x (by simpa using hx)
    rwa[show i+(j+1)=i+1+j by omega]at this
   .have:=J (j+1) x (by simpa using hx)
    rwa[show i+(j+1)=i+1+j by omega]at this
  .rw [g]
   simp
theorem ZT{xs:List AV}{g:Array uk}(l:g.size=xs.length)(j:∀(k:Nat) x,xs[k]?=some x->VRel G h x (g.getD k xa)) :
  ∀(k:Nat) x,xs[k]?=some x->∃ v,g[0+k]?=some v/\VRel G h x v:=by
 intro k x hx;have o:k<xs.length:=(qk.1 hx).1;have i:k<g.size:=zOm;refine⟨g.getD k xa,?_,j k x hx⟩;simp[qH,i]
theorem kK(d:Nat){t e:j2}{n:Nat}{q:IntKind}(l:P.underlying t=some (.array n e))(o:P.underlying e=some (.int q))(p:szOf P e=some 1)
  {xs ys:List AV} {g i:Array uk} (r:xs.length=n) (hx:VRel G w.heap (.agg xs) (.agg g)) (C:VRel G w.heap (.agg ys) (.agg i)) {b:Bool} (h:aEqs xs ys=some b) :
  (Op.equalIn (d+2) t (.agg g) (.agg i)).run P w = .ok b w:=by
 cases hx with
 |agg _ _ I J =>
 cases C with
 |agg _ _ R T =>
 unfold Op.equalIn;simp only[qT,run_underlying l,qW,jk p,Nat.mul_one,Std.Legacy.Range.forIn_eq_forIn_range'];have j:(Std.Legacy.Range.size [:n])=xs.length:=by simp[Std.Legacy.Range.size,r]
 rw[j];have:=qdG (G:=G) d o g i xs ys 0 b h (ZT I J) (ZT R T);rw[this];cases b<;>simp
theorem qdH(d:Nat)(I J:Array uk):∀(fs:List Field) (i:Nat) (xs ys:List AV) (b:Bool),ZP P fs i=true->xs.length=fs.length->aEqs xs ys=some b ->
  (∀(k:Nat) x,xs[k]?=some x->∃ v,I[i+k]?=some v/\VRel G w.heap x v)->(∀(k:Nat) x,ys[k]?=some x->∃ v,J[i+k]?=some v/\VRel G w.heap x v) ->
  (Op.eqFields (d+1) I J fs).run P w = .ok b w:=by
 intro fs;induction fs with
 |nil =>
  intro i xs ys b _ p h _ _;have:xs=[]:=ug (zUs p);subst this;cases ys with
  |nil=>simp only[aEqs,qp]at h;subst h;rfl
  |cons=>simp[aEqs]at h
 |cons f fs U =>
  intro i xs ys b hf p h R T;cases xs with
  |nil=>simp at p
  |cons x xs =>
   simp only[ZP,qB,beq_iff_eq,bne_iff_ne,ne_eq]at hf;obtain⟨⟨⟨h1,h2⟩,r⟩,h4⟩:=hf;have h':=YP h;clear h;obtain⟨k,a,b',t,rfl,rfl,h⟩:=h';obtain⟨v,l,rv⟩:=R 0 _ rfl;obtain⟨u,o,ru⟩:=T 0 _ rfl;cases rv;cases ru;rw[Nat.add_zero]at l o;obtain⟨q,C⟩:∃ q,P.underlying f.type=some (.int q):=by
    unfold ki at r;split at r
    .exact ⟨_,by assumption⟩
    .exact absurd r zSp
   rw[Op.eqFields,if_pos h2];simp only[h1,qT,YO C l,YO C o,qW,run_equalIn_int w d f.type k q a b' C];rcases h with ⟨g,h⟩|⟨g,rfl⟩
   .rw [g]
    simp only[Bool.not_true,Bool.false_eq_true,if_false];refine U (i+1) xs t b h4 (zUs p) h (fun j x hx=>?_) (fun j x hx=>?_)
    .have:=R (j+1) x (by simpa using hx)
     rwa[show i+(j+1)=i+1+j by omega]at this
    .have:=T (j+1) x (by simpa using hx)
     rwa[show i+(j+1)=i+1+j by omega]at this
   .rw [g]
    simp
theorem qdI(d:Nat){t:j2}{fs:Array Field}(j:P.underlying t=some (.struct fs))(hf:ZP P fs.toList 0=true)(hp:P.stoodInHeld t=false)
  {xs ys:List AV} {g i:Array uk} (o:xs.length=fs.size) (hx:VRel G w.heap (.agg xs) (.agg g)) (p:VRel G w.heap (.agg ys) (.agg i)) {b:Bool} (h:aEqs xs ys=some b) :
  (Op.equalIn (d+2) t (.agg g) (.agg i)).run P w = .ok b w:=by
 have l:P.fieldsOf t=fs:=by simp[Program.fieldsOf,j]
 rw[run_equalIn_agg w (d+1) t g i (by rw[l];exact j) hp,l];cases hx with
 |agg _ _ r C =>
 cases p with
 |agg _ _ I J =>
 exact qdH d g i fs.toList 0 xs ys b hf (zUs o) h (ZT r C) (ZT I J)
inductive KK where
 |now
 |arr (n:Nat)
def keyKind(P:j1)(g:j2):Option KK:=
 match P.underlying g with
 |some (.int _)|some .string|some .bool=>some .now
 |some (.array n e)=>match P.underlying e,szOf P e with
  |some (.int _),some 1=>some (.arr n)
  |_,_=>none
 |_=>none
@[go_sem] def js(P:j1)(g:j2)(x y:AV):Option Bool:=
 match P.underlying g with
 |some (.int _)=>(match x,y with | .sc (.int k a),.sc (.int i b)=>if k=i then some (a == b) else none|_,_=>none)
 |some .string=>(match x,y with | .sc (.string a),.sc (.string b)=>some (a == b)|_,_=>none)
 |some .bool=>(match x,y with | .sc (.bool a),.sc (.bool b)=>some (a == b)|_,_=>none)
 |some (.array n e)=>(match P.underlying e,szOf P e with
  |some (.int _),some 1=>(match x,y with | .agg p,.agg j=>if p.length=n/\j.length=n then aEqs p j else none|_,_=>none)
  |_,_=>none)
 |_=>none
def zm(P:j1)(g:j2)(k:AV):List (AV×AV)->Nat->Option (Option Nat)
 | [],_=>some none
 |e :: I,i=>match js P g k e.1 with
  |some true=>some (some i)
  |some false=>zm P g k I (i+1)
  |none=>none
@[go_sem] def ZU(q:IntKind):AV->Bool
 | .sc (.int k _)=>k == q
 |_=>false
@[go_sem] def y6(P:j1)(g:j2)(x:AV):Bool:=
 match P.underlying g with
 |some (.int q)=>ZU q x
 |some .string=>(match x with | .sc (.string _)=>true|_=>false)
 |some .bool=>(match x with | .sc (.bool _)=>true|_=>false)
 |some (.array n e)=>(match P.underlying e,szOf P e with
  |some (.int q),some 1=>(match x with | .agg p=>p.length == n&&p.all (ZU q)|_=>false)
  |_,_=>false)
 |_=>false
theorem qdJ(m:Bool)(d:Nat){e:j2}{q:IntKind}(j:P.underlying e=some (.int q))(o:szOf P e=some 1)(g:Array uk):∀(n i:Nat),i+n<=g.size ->
    (forIn (m := Sem) (List.range' i n) PUnit.unit fun i p => do
            let l <-Go.sizeOf e
            let x <-part e g (i*l)
            Instr.checkKey m (d+1) e x
            pure (ForInStep.yield PUnit.unit)).run P w = .ok PUnit.unit w:=by
  intro n;induction n with
  |zero=>intro i _;rfl
  |succ n r =>
    intro i h;have hg:g[i]?=some (g[i]' zOm):=by simp[show i<g.size by omega]
    have t:∀ v,(Instr.checkKey m (d+1) e v).run P w = .ok () w:=by
      intro v;unfold Instr.checkKey;simp[run_underlying j]
    simp only[List.range'_succ,List.forIn_cons,qT,jk o,qW,Nat.mul_one,YO j hg,t,zD];exact r (i+1) zOm
theorem YQ{i:j2}{v:uk}(m:Bool)(r:VRel G w.heap x v)(h:y6 P i x=true):(Instr.checkKey m 10000 i v).run P w = .ok () w:=by
 unfold y6 at h;have now:∀ d,P.underlying i=some d->(∀ n e,d ≠ .array n e)->(∀ o,d ≠ .struct o)->(∀ t,d ≠ .interface t)->(Instr.checkKey m 10000 i v).run P w = .ok () w:=by
  intro d g C I J;show (Instr.checkKey m (9999+1) i v).run P w=_;unfold Instr.checkKey;simp only[qT,run_underlying g,qW];cases d<;>first|rfl | (exact absurd rfl (C _ _)) | (exact absurd rfl (I _)) | (exact absurd rfl (J _))
 split at h
 .rename_i g;exact now _ g zSp zSp zSp
 .rename_i g;exact now _ g zSp zSp zSp
 .rename_i g;exact now _ g zSp zSp zSp
 .rename_i n e g
  split at h
  .rename_i R T
   split at h
   .rename_i p
    cases r with
    |agg _ l U hv =>
    have hl:p.length=n:=by
     rw[qB]at h;simpa using h.1
    show (Instr.checkKey m (9998+2) i (.agg l)).run P w=_;unfold Instr.checkKey;simp only[qT,run_underlying g,qW,Std.Legacy.Range.forIn_eq_forIn_range'];have j:(Std.Legacy.Range.size [:n])=n:=by simp[Std.Legacy.Range.size]
    rw[j,qdJ m 9998 R T l n 0 zOm];simp
   .exact absurd h zSp
  .exact absurd h zSp
 .exact absurd h zSp
def y7(G:Gh)(h:Array Obj)(es:List (AV×AV))(ce:List xc):Prop:=ce.length=es.length/\∀(k:Nat) x,es[k]?=some x->∃ e,ce[k]?=some e/\VRel G h x.1 e.key/\VRel G h x.2 e.val
theorem kL{j:j2}{y:AV}{v:uk}{b:Bool}{d:TypeDesc}(l:P.underlying j=some d)(o:∀ n e,d ≠ .array n e)(p:VRel G h x u)(r:VRel G h y v)(g:js P j x y=some b) :
    Instr.sameNow d u v=some b:=by
  unfold js at g;rw[l]at g;cases d<;>simp only at g<;>first | (exact absurd g (by simp;done)) | (exact absurd rfl (o _ _))|skip
  all_goals
    split at g
    · cases p;cases r
      first
        | (simpa[Instr.sameNow] using g;done)
        | (split at g
           · rename_i i;simp only[qp]at g;subst g;simp[Instr.sameNow,i]
           · exact absurd g zSp)
    · exact absurd g zSp
theorem qdK{C:j2}{d:TypeDesc}(I:P.underlying C=some d)(J:∀ n e,d ≠ .array n e)(R:VRel G h x u):∀(es:List (AV×AV)) (ce:List xc) (i:Nat) (r:Option Nat),
  y7 G h es ce->zm P C x es i=some r->Instr.findNow d u ce i=some (r.map fun j=>(j,(ce.getD (j-i) default).val))/\∀ j,r=some j->i<=j/\j<i+es.length:=by
 intro es;induction es with
 |nil =>
  intro ce i r g hf;have:ce=[]:=ug g.1;subst this;simp only[zm,qp]at hf;subst hf;exact⟨rfl,zSp⟩
 |cons e es ih =>
  intro ce i r g hf;cases ce with
  |nil=>have:=g.1;simp at this
  |cons c ce =>
   obtain⟨c',l,T,rv⟩:=g.2 0 e rfl;simp only[Yy,qp]at l;subst l;simp only[zm]at hf;split at hf
   .rename_i p
    simp only[qp]at hf;subst hf;have:=kL I J R T p;exact⟨by simp[Instr.findNow,this],fun j o=>by simp at o;subst o;simp⟩
   .rename_i p
    have:=kL I J R T p;have t:y7 G h es ce:=⟨by have:=g.1;simpa using this,fun k y hy=>g.2 (k+1) y (zUs hy)⟩;obtain⟨h1,U⟩:=ih ce (i+1) r t hf;refine⟨?_,fun j o=>?_⟩
    .simp only[Instr.findNow,this,h1]
     cases r with
     |none=>rfl
     |some j =>
      have:=U j rfl;simp only[zd];rw[show j-i=(j-(i+1))+1 by omega];simp
    .have:=U j o;simp;omega
   .exact absurd hf zSp
theorem qdL{o e:j2}{n:Nat}{q:IntKind}(U:P.underlying o=some (.array n e))(he:P.underlying e=some (.int q))(hs:szOf P e=some 1){x:AV}{u:uk}(rx:VRel G w.heap x u) :
  ∀(es:List (AV×AV)) (ce:List xc) (i:Nat) (r:Option Nat),y7 G w.heap es ce->zm P o x es i=some r ->
   (Instr.findAsking o u ce i).run P w = .ok (r.map fun j=>(j,(ce.getD (j-i) default).val)) w/\∀ j,r=some j->i<=j/\j<i+es.length:=by
 intro es;induction es with
 |nil =>
  intro ce i r l hf;have:ce=[]:=ug l.1;subst this;simp only[zm,qp]at hf;subst hf;exact⟨rfl,zSp⟩
 |cons y es ih =>
  intro ce i r l hf;cases ce with
  |nil=>have:=l.1;simp at this
  |cons c ce =>
   obtain⟨c',t,I,rv⟩:=l.2 0 y rfl;simp only[Yy,qp]at t;subst t;simp only[zm]at hf;have heq:∀ b,js P o x y.1=some b->(Op.equal o u c.key).run P w = .ok b w:=by
    intro b g;unfold js at g;rw[U]at g;simp only[he,hs]at g;split at g
    .rename_i p ys J
     split at g
     .rename_i hl
      rw[J]at I;generalize hq:c.key=ck at I;cases rx with
      |agg _ vs hn hv =>
      cases I with
      |agg _ ws hm hw =>
      exact kK (G:=G) 9998 U he hs hl.1 (.agg _ _ hn hv) (.agg _ _ hm hw) g
     .exact absurd g zSp
    .exact absurd g zSp
   split at hf
   .rename_i R
    simp only[qp]at hf;subst hf;exact⟨by simp[Instr.findAsking,heq _ R],fun j C=>by simp at C;subst C;simp⟩
   .rename_i R
    have T:y7 G w.heap es ce:=⟨by have:=l.1;simpa using this,fun k z hz=>l.2 (k+1) z (zUs hz)⟩;obtain⟨h1,h2⟩:=ih ce (i+1) r T hf;refine⟨?_,fun j C=>?_⟩
    .simp only[Instr.findAsking,qT,heq _ R,qW,Bool.false_eq_true,if_false,h1]
     cases r with
     |none=>rfl
     |some j =>
      have:=h2 j rfl;simp only[zd];rw[show j-i=(j-(i+1))+1 by omega];simp
    .have:=h2 j C;simp;omega
   .exact absurd hf zSp
theorem Qj{l:j2}(I:VRel G w.heap x u)(o:y6 P l x=true){es:List (AV×AV)}{ce:Array xc}{r:Option Nat}(p:y7 G w.heap es ce.toList)(hf:zm P l x es 0=some r) :
  (Instr.findKey l u ce.toList).run P w = .ok (r.map fun j=>(j,(ce.getD j default).val)) w/\∀ j,r=some j->j<es.length:=by
 have hg:∀ j,ce.toList.getD j default=ce.getD j default:=by
  intro j;simp[zT,qH]
 unfold y6 at o;have now:∀ d,P.underlying l=some d->(∀ n e,d ≠ .array n e)->(Instr.findKey l u ce.toList).run P w = .ok (r.map fun j=>(j,(ce.getD j default).val)) w/\∀ j,r=some j->j<es.length:=by
  intro d g R;obtain⟨i,t⟩:=qdK g R I es ce.toList 0 r p hf;simp only[Nat.sub_zero,hg]at i;exact⟨by simp[Instr.findKey,run_underlying g,i],fun j C=>zW1 (t j C)⟩
 split at o
 .rename_i g;exact now _ g zSp
 .rename_i g;exact now _ g zSp
 .rename_i g;exact now _ g zSp
 .rename_i n e g
  split at o
  .rename_i T U
   obtain⟨i,t⟩:=qdL g T U I es ce.toList 0 r p hf;simp only[Nat.sub_zero,hg]at i;refine⟨?_,fun j C=>zW1 (t j C)⟩;simp only[Instr.findKey,qT,run_underlying g,qW];cases J:ce.toList with
   |nil =>
    have:r=none:=by
     cases es with
     |nil=>simpa[zm] using hf.symm
     |cons=>have:=p.1;rw[J]at this;simp at this
    subst this;simp[Instr.findNow]
   |cons c cs =>
    rw[J]at i;simp only[Instr.findNow,Instr.sameNow];exact i
  .exact absurd o zSp
 .exact absurd o zSp
end
end Go.Ev
namespace Go.Ev
open Go Go.RowKit
section
variable {k x y:AV}{h:Array Obj}{G:Gh}{es:List (AV×AV)}{mu:Mu}{P:j1}{g:j2}{w:j3}
def mapT(P:j1)(t:j2):Option (j2×j2):=match P.underlying t with|some (.map k e)=>some (k,e)|_=>none
theorem Zj{t k e:j2}(h:mapT P t=some (k,e)):P.underlying t=some (.map k e):=by
 unfold mapT at h;split at h
 .grind
 grind
@[go_sem] def jI(mu:Mu):AV->Option (List (AV×AV))
 | .im I=>some I
 | .mp b=>match mu[b]? with|some (.mp I)=>some I|_=>none
 | .sc (.map none)=>some []
 |_=>none
theorem Vh(ce:Array xc)(k:Nat)(g:k<ce.size):ce.toList[k]?=some (ce.getD k default):=by
 simp[qH,g]
theorem qdM(s:Sim G mu w.heap){x:AV}{v:uk}{es:List (AV×AV)}(r:VRel G w.heap x v)(h:jI mu x=some es) :
  (v = .map none/\es=[])\/∃ m ce i,v = .map (some m)/\w.heap[m]?=some (.map ce i)/\y7 G w.heap es ce.toList:=by
 unfold jI at h;split at h
 .simp only[qp]at h;subst h
  cases r with
  |im _ g ce clock j J o P R T =>
   refine .inr ⟨g,ce,clock,rfl,j,⟨zUs o,fun k x hx=>?_⟩⟩
   grind [qk,Vh]
 .split at h
  .rename_i p t
   simp only[qp]at h;subst h;cases r with
   |mp _ g l j =>
    obtain⟨ce,i,C,I,U,h4,h5,h6⟩:=s.mp _ _ g l t j;refine .inr ⟨g,ce,i,rfl,C,⟨zUs I,fun k x hx=>?_⟩⟩
    grind [qk,Vh]
  grind
 .simp only[qp]at h;subst h
  cases r;exact .inl ⟨rfl,rfl⟩
 grind
@[go_sem] def jf(P:j1)(mu:Mu)(t:j2)(m k:AV)(ok:Bool):Option AV:=
 match mapT P t,jI mu m with
 |some (g,j),some I =>
  if y6 P g k=true then
   match zm P g k I 0 with
   |some (some i)=>(I[i]?).map fun e=>if ok then .tup [e.2,.sc (.bool true)] else e.2
   |some none=>(qC P j).map fun z=>if ok then .tup [z,.sc (.bool false)] else z
   |none=>none
  else none
 |_,_=>none
theorem tup2{z:AV}{u v:uk}(i:VRel G h y u)(j:VRel G h z v):VRel G h (.tup [y,z]) (.tuple #[u,v]):=by
 refine .tup _ _ rfl (fun k c g=>?_);cases k with
 |zero=>simp at g;subst g;exact i
 |succ k=>cases k with
  |zero=>simp at g;subst g;exact j
  |succ k=>simp at g
theorem uQ{m:Nat}{ce:Array xc}{g:Nat}(h:w.heap[m]?=some (.map ce g)):(getObj m).run P w = .ok (.map ce g) w:=by
 simp[getObj,Sem.run,h]
theorem kM(s:Sim G mu w.heap){t:j2}{m k z:AV}{ok:Bool}{vm T:uk}(rm:VRel G w.heap m vm)(R:VRel G w.heap k T)(h:jf P mu t m k ok=some z) :
  ∃ u,(Instr.lookup t vm T ok).run P w = .ok u w/\VRel G w.heap z u:=by
 unfold jf at h;split at h
 .rename_i kt et I ht U
  have J:=Zj ht;split at h
  .rename_i o
   have j:∀ b,(Instr.checkKey b 10000 kt T).run P w = .ok () w:=fun b=>YQ b R o
   rcases qdM s rm U with ⟨rfl,rfl⟩|⟨mb,ce,cl,rfl,hb,hr⟩
   .simp only[zm]at h
    cases C:qC P et with
    |none=>simp[C]at h
    |some z0 =>
     simp only[C,zd,qp]at h;subst h;obtain⟨p,l,rfl⟩:=Zh C w;have g:=(Qj (es:=[]) (ce:=#[]) R o ⟨rfl,zSp⟩ (r:=none) rfl).1;cases ok
     .exact ⟨p,by simp[Instr.lookup,run_underlying J,j,g,l],.ofV p⟩
     .exact ⟨.tuple #[p,.bool false],by simp[Instr.lookup,run_underlying J,j,g,l],tup2 (.ofV p) (.sc _ rfl)⟩
   .have hg:=uQ (P:=P) hb
    split at h
    .rename_i i hf
     obtain⟨g,a0⟩:=Qj R o hr hf;have hi:=a0 i rfl;have hx:I[i]?=some I[i]:=zP1 hi;rw[hx]at h;simp only[zd,qp]at h;subst h;obtain⟨e,he,h1,h2⟩:=hr.2 i _ hx;have a1:ce.getD i default=e:=by
      simp_all
     simp only[zd,a1]at g;cases ok
     .exact ⟨e.val,by simp[Instr.lookup,run_underlying J,hg,j,g],h2⟩
     .exact ⟨.tuple #[e.val,.bool true],by simp[Instr.lookup,run_underlying J,hg,j,g],tup2 h2 (.sc _ rfl)⟩
    .rename_i hf
     obtain⟨g,_⟩:=Qj R o hr hf;simp only[Option.map_none]at g;cases C:qC P et with
     |none=>simp[C]at h
     |some z0 =>
      simp only[C,zd,qp]at h;subst h;obtain⟨p,l,rfl⟩:=Zh C w;cases ok
      .exact ⟨p,by simp[Instr.lookup,run_underlying J,hg,j,g,l],.ofV p⟩
      .exact ⟨.tuple #[p,.bool false],by simp[Instr.lookup,run_underlying J,hg,j,g,l],tup2 (.ofV p) (.sc _ rfl)⟩
    grind
  grind
 grind
theorem kN:∀(xs ys:List AV),aEqs xs ys=some true->xs=ys
 | [],[],_=>rfl
 | [],_ :: _,h=>by simp[aEqs]at h
 |x :: xs,[],h=>by cases x<;>simp[aEqs]at h
 |x :: xs,y :: ys,h=>by
  unfold aEqs at h;split at h
  .rename_i g i;cases g
  .rename_i k a l k' b o g i
   simp only[List.cons.injEq]at g i;obtain⟨rfl,rfl⟩:=g;obtain⟨rfl,rfl⟩:=i;split at h
   .rename_i p
    subst p;split at h
    .rename_i j
     have:=beq_iff_eq.1 j;subst this;rw[kN xs ys h]
    grind
   grind
  grind
theorem kO(q:IntKind):∀(xs ys:List AV),xs.length=ys.length->xs.all (ZU q)=true->ys.all (ZU q)=true->∃ b,aEqs xs ys=some b
 | [],[],_,_,_=>⟨true,rfl⟩
 | [],_ :: _,h,_,_=>by simp at h
 |_ :: _,[],h,_,_=>by simp at h
 |x :: xs,y :: ys,h,hx,g=>by
  simp only[List.all_cons,qB]at hx g;obtain⟨b,r⟩:=kO q xs ys (zUs h) hx.2 g.2;have i:=hx.1;have j:=g.1;unfold ZU at i j;split at i
  .split at j
   .rename_i t a _ C c
    have l:=beq_iff_eq.1 i;have o:=beq_iff_eq.1 j;subst l;subst o;by_cases p:(a == c)=true
    .simp_all [aEqs]
    simp_all[aEqs]
   grind
  grind
theorem U8{a b:ByteArray}(h:(a == b)=true):a=b:=by
 obtain⟨x⟩:=a;obtain⟨y⟩:=b;have g:(x == y)=true:=h;rw[beq_iff_eq.1 g]
theorem qdN(h:js P g x y=some true):x=y:=by
 unfold js at h;split at h
 .grind
 .grind [qp,U8,absurd]
 .grind
 .grind [kN,absurd]
 grind
theorem kP{j:j2}(hx:y6 P j x=true)(g:y6 P j y=true):∃ b,js P j x y=some b:=by
 unfold y6 at hx g;unfold js;split at hx
 .rename_i q i
  simp only[i]at g⊢;unfold ZU at hx g;split at hx
  .split at g
   .simp_all
   grind
  grind
 .rename_i i
  simp only[i]at g⊢;split at hx
  .split at g
   .exact ⟨_,rfl⟩
   grind
  grind
 .rename_i i
  simp only[i]at g⊢;split at hx
  .split at g
   .exact ⟨_,rfl⟩
   grind
  grind
 .rename_i n e i
  simp only[i]at g⊢;split at hx
  .rename_i q l o
   simp only[l,o]at g⊢;split at hx
   .split at g
    .rw [qB]at hx g
     have p:=beq_iff_eq.1 hx.1;have r:=beq_iff_eq.1 g.1;simp only;rw[if_pos ⟨p,r⟩]
     grind [kO]
    grind
   grind
  grind
 grind
theorem YR:∀{es:List (AV×AV)} {i j:Nat},zm P g k es i=some (some j)->i<=j/\∃ e,es[j-i]?=some e/\k=e.1
 | [],i,j,h=>by simp[zm]at h
 |e :: es,i,j,h=>by
  unfold zm at h;split at h
  .rename_i l
   simp only[qp]at h;subst h;exact⟨qm _,e,zSp,qdN l⟩
  .obtain ⟨o,p,r,t⟩:=YR h
   grind
  grind
theorem U9{j:j2}:∀{es:List (AV×AV)} {i:Nat},zm P j k es i=some none->∀ e,e∈es->js P j k e.1=some false
 | [],_,_=>zSp
 |e :: es,i,h=>by
  unfold zm at h;split at h
  .exact absurd h zSp
  .rename_i l
   intro o g;rcases qt.1 g with rfl|g
   .exact l
   .exact U9 h o g
  grind
theorem kQ(l:y6 P g k=true):∀(es:List (AV×AV)) (i:Nat),(∀ e,e∈es->y6 P g e.1=true)->∃ r,zm P g k es i=some r
 | [],i,_=>⟨none,rfl⟩
 |e :: es,i,h=>by
  obtain⟨b,p⟩:=kP l (h e zSp);obtain⟨r,t⟩:=kQ l es (i+1) (fun o j=>h o (zP1 j))
  grind [zm]
theorem PIx.mem{J:Type}{o r:Nat->Nat}{es i:List J}(p:PIx o r es i){x:J}:x∈i↔x∈es:=by
 constructor
 .intro h
  obtain⟨j,l⟩:=List.mem_iff_getElem?.1 h;have g:j<es.length:=by rw[<-p.1];grind
  rw[p.back g]at l
  grind
 .intro h
  obtain⟨j,l⟩:=List.mem_iff_getElem?.1 h;have g:j<es.length:=(qk.1 l).1;rw[<-(p.2 j g).2.2.2.2]at l
  grind
theorem qdO(h:(es.map Prod.fst).Nodup){x y:AV×AV}(hx:x∈es)(g:y∈es)(e:x.1=y.1):x=y:=by
 induction es with
 |nil=>simp at hx
 |cons z es i =>
  grind
theorem kR(h:js P g x y=some false):x≠y:=by
 rintro rfl;unfold js at h;have agg:∀ p:List AV,aEqs p p≠some false:=by
  intro p;induction p with
  |nil=>simp[aEqs]
  |cons x p j =>
   intro h;obtain⟨k,a,o,i,rfl,r,h⟩:=YP h
   grind
 have ba:∀ a:ByteArray,(a == a)=true:=fun a=>by obtain⟨l⟩:=a;exact(beq_self_eq_true l)
 split at h
 .grind
 .grind
 .grind
 .grind
 grind
theorem qdP{t R et:j2}{p:List (AV×AV)}{z:AV}{ok:Bool}{σ τ:Nat->Nat}(ht:mapT P t=some (R,et))(hp:PIx σ τ es p)(hd:(es.map Prod.fst).Nodup)
  (ho:∀ e,e∈es->y6 P R e.1=true) (h:jf P mu t (.im es) k ok=some z):jf P mu t (.im p) k ok=some z:=by
 unfold jf at *
 simp only[ht,jI]at h⊢;split at h
 .rename_i T
  rw[if_pos T];obtain⟨U,o⟩:=kQ T p 0 (fun e r=>ho e (hp.mem.1 r));rw[o];split at h
  .rename_i i I
   obtain⟨_,e,r,C⟩:=YR I;simp only[Nat.sub_zero]at r;rw[r]at h;cases U with
   |none=>exact absurd C (kR (U9 o e (hp.mem.2 (qV r))))
   |some j =>
    obtain⟨_,J,g,l⟩:=YR o;simp only[Nat.sub_zero]at g;have:J=e:=qdO hd (hp.mem.1 (qV g)) (qV r) (by rw[<-C,<-l])
    grind
  .rename_i I
   cases U with
   |none=>exact h
   |some j =>
    obtain⟨_,J,g,l⟩:=YR o;simp only[Nat.sub_zero]at g;exact absurd l (kR (U9 I J (hp.mem.1 (qV g))))
  grind
 grind
def yg(P:j1)(mu:Mu)(t:j2)(m k:AV)(ok:Bool):Option AV:=
 match m with
 | .ims I=>(match mapT P t with
  |some (g,_)=>if (I.all fun e=>y6 P g e.1)=true then jf P mu t (.im I) k ok else none
  |none=>none)
 |m=>jf P mu t m k ok
@[go_sem] theorem qo8(P:j1)(mu:Mu)(t:j2)(es:List (AV×AV))(k:AV)(ok:Bool):yg P mu t (.ims es) k ok=(match mapT P t with
  |some (g,_)=>if (es.all fun e=>y6 P g e.1)=true then jf P mu t (.im es) k ok else none
  |none=>none):=rfl
@[go_sem] theorem qo9(P:j1)(mu:Mu)(t:j2)(es:List (AV×AV))(k:AV)(ok:Bool):yg P mu t (.im es) k ok=jf P mu t (.im es) k ok:=rfl
@[go_sem] theorem qpA(P:j1)(mu:Mu)(t:j2)(b:Nat)(k:AV)(ok:Bool):yg P mu t (.mp b) k ok=jf P mu t (.mp b) k ok:=rfl
@[go_sem] theorem qpB(P:j1)(mu:Mu)(t:j2)(v:uk)(k:AV)(ok:Bool):yg P mu t (.sc v) k ok=jf P mu t (.sc v) k ok:=rfl
theorem qdQ(s:Sim G mu w.heap){t:j2}{m k z:AV}{ok:Bool}{g i:uk}(j:VRel G w.heap m g)(l:VRel G w.heap k i)(h:yg P mu t m k ok=some z) :
  ∃ u,(Instr.lookup t g i ok).run P w = .ok u w/\VRel G w.heap z u:=by
 unfold yg at h;split at h
 .rename_i I
  split at h
  .rename_i J R o
   split at h
   .rename_i T
    cases j with
    |ims _ p U τ _ hp C r =>
     exact kM s r l (qdP o hp C (fun e he=>by grind) h)
   grind
  grind
 .exact kM s j l h
theorem qdR:∀(xs ys:List AV) (g i:List uk) (n:Nat),aEqs xs ys=some true->g.length=xs.length->i.length=ys.length->(∀(k:Nat) x,xs[k]?=some x->∃ v,g[k]?=some v/\VRel G h x v) ->
  (∀(k:Nat) x,ys[k]?=some x->∃ v,i[k]?=some v/\VRel G h x v)->g.length=i.length/\((g.zip i).all fun (x,y)=>Instr.sameBits n x y)=true:=by
 intro xs;induction xs with
 |nil =>
  intro ys g i n o p r _ _;cases ys with
  |nil=>simp_all
  |cons=>simp[aEqs]at o
 |cons x xs R =>
  intro ys g i n o p r I l;have T:=YP o;clear o;obtain⟨k,a,b',t,rfl,rfl,h⟩:=T;rcases h with ⟨U,h⟩|⟨_,h⟩
  .cases g with
   |nil=>simp at p
   |cons v g =>
    cases i with
    |nil=>simp at r
    |cons u i =>
     obtain⟨v',J,r1⟩:=I 0 _ rfl;obtain⟨u',P,r2⟩:=l 0 _ rfl;simp at J P;subst J;subst P;cases r1;cases r2;obtain⟨g1,g2⟩:=R t g i n h (zUs p) (zUs r) (fun j y C=>I (j+1) y (zUs C)) (fun j y C=>l (j+1) y (zUs C));refine⟨by simp[g1],?_⟩;simp_all[List.zip_cons_cons,List.all_cons,Instr.sameBits]
  grind
theorem Wa{kt:j2}{u v:uk}(R:VRel G h x u)(T:VRel G h y v)(g:js P kt x y=some true):Instr.sameBits 10000 v u=true:=by
 unfold js at g;split at g
 .split at g
  .cases R;cases T
   split at g
   .simp_all [qp,beq_iff_eq,Instr.sameBits]
   grind
  grind
 .split at g
  .cases R;cases T
   simp_all[Option.some.inj,Instr.sameBits,beq_toListBytes,beq_iff_eq]
  grind
 .split at g
  .cases R;cases T
   have g:=Option.some.inj g;simp_all[Instr.sameBits,beq_iff_eq]
  grind
 .split at g
  .split at g
   .rename_i p j
    split at g
    .rename_i hl
     cases R with
     |agg _ o U hv =>
     cases T with
     |agg _ t hm hw =>
     have g1:=ZT U hv;have g2:=ZT hm hw;have:=qdR (G:=G) (h:=h) p j o.toList t.toList 9999 g (zUs U) (zUs hm) (fun k x hx=>by have:=g1 k x hx;simpa using this) (fun k x hx=>by have:=g2 k x hx;simpa using this);have C:∀(a b:List uk),a.length=b.length->((a.zip b).all fun (x,y)=>Instr.sameBits 9999 x y)=true->(∀ c,c∈a->∃ k n,c = .int k n)->(∀ c,c∈b->∃ k n,c = .int k n)->((b.zip a).all fun (x,y)=>Instr.sameBits 9999 x y)=true:=by
      intro a;induction a with
      |nil=>intro b _ _ _ _;simp
      |cons c a ih =>
       intro b hl h ha hb;cases b with
       |nil=>simp at hl
       |cons d b =>
        obtain⟨k1,n1,rfl⟩:=ha c zSp;obtain⟨k2,n2,rfl⟩:=hb d zSp;simp only[List.zip_cons_cons,List.all_cons,qB]at h⊢;refine⟨?_,ih b (zUs hl) h.2 (fun c i=>ha c (zP1 i)) (fun c i=>hb c (zP1 i))⟩;simp only[Instr.sameBits,qB,beq_iff_eq]at h⊢;exact⟨h.1.1.symm,h.1.2.symm⟩
     have ints:∀(p j:List AV),aEqs p j=some true->(∀ c,c∈p->∃ k n,c = .sc (.int k n))/\(∀ c,c∈j->∃ k n,c = .sc (.int k n)):=by
      intro p;induction p with
      |nil=>intro j h;cases j with
       |nil=>simp
       |cons=>simp[aEqs]at h
      |cons x p ih =>
       intro j h;have h':=YP h;clear h;obtain⟨k,a,b',a0,rfl,rfl,h⟩:=h';rcases h with ⟨_,h⟩|⟨_,h⟩
       .obtain ⟨g1,g2⟩:=ih a0 h
        refine⟨fun c i=>?_,fun c i=>?_⟩
        .rcases qt.1 i with rfl|i
         .exact ⟨k,a,rfl⟩
         .exact g1 c i
        .rcases qt.1 i with rfl|i
         .exact ⟨k,b',rfl⟩
         .exact g2 c i
       .exact absurd h zSp
     obtain⟨i1,i2⟩:=ints p j g;have val:∀(l:List AV) (I:Array uk),I.size=l.length->(∀(k:Nat) x,l[k]?=some x->VRel G h x (I.getD k xa))->(∀ c,c∈l->∃ k n,c = .sc (.int k n))->∀ c,c∈I.toList->∃ k n,c = .int k n:=by
      intro l I U hv hi c i;obtain⟨k,g⟩:=List.mem_iff_getElem?.1 i;have J:I[k]?=some c:=zUs g;have a1:k<l.length:=by have:=(yf.1 J).1;omega
      obtain⟨q,n,e⟩:=hi l[k] zSp;have r:=hv k l[k] (zP1 a1);rw[e,qcM J]at r;cases r;exact⟨q,n,rfl⟩
     have hs:=C o.toList t.toList this.1 this.2 (val p o U hv i1) (val j t hm hw i2);show (t.size == o.size&&(t.toList.zip o.toList).all fun (x,y)=>Instr.sameBits 9999 x y)=true
     grind
    grind
   grind
  grind
 grind
theorem Wb:∀(es:List (AV×AV)) (i j:Nat),zm P g k es i=some (some j)->i<=j/\∃ e,es[j-i]?=some e/\js P g k e.1=some true:=by
 intro es;induction es with
 |nil=>intro i j h;simp[zm]at h
 |cons e es l =>
  intro i j h;simp only[zm]at h;split at h
  .grind
  .grind
  grind
end
end Go.Ev
namespace Go.Ev
open Go Go.RowKit
section
variable {ce:Array xc}{h:Array Obj}{G:Gh}{es:List (AV×AV)}{mu mu':Mu}{g:Nat}{P:j1}{w:j3}
@[go_sem] def ZV(es:List (AV×AV))(i:Option Nat)(k v:AV):List (AV×AV):=
 match i with
 |some i=>es.set i (k,v)
 |none=>es++[(k,v)]
theorem wA{r:Nat}(h:w.heap[r]?=some (.map ce g))(o:Obj):(setObj r o).run P w = .ok () { w with heap:=w.heap.setIfInBounds r o }:=by
 simp[setObj,Sem.run,h]
theorem Wc(w:j3)(r:Nat)(o:Obj)(h:r<w.heap.size):({ w with heap:=w.heap.setIfInBounds r o }:j3).heap[r]?=some o:=by
 simp[h]
theorem Wd(w:j3)(r k:Nat)(o:Obj)(h:k≠r):({ w with heap:=w.heap.setIfInBounds r o }:j3).heap[k]?=w.heap[k]?:=by
 grind
theorem Vi(s:Sim G mu w.heap){b:Nat}{v:uk}{es:List (AV×AV)}(r:VRel G w.heap (.mp b) v)(l:mu[b]?=some (.mp es)) :
  ∃ m g ce,v = .map (some m)/\G.blk[b]?=some (m,g)/\w.heap[m]?=some (.map ce ce.size)/\y7 G w.heap es ce.toList/\(∀(k:Nat) (e:xc),ce[k]?=some e->e.born=k):=by
 cases r with
 |mp _ i g j =>
  obtain⟨ce,I,o,p,J,P,t,C⟩:=s.mp _ _ i g l j;subst t;refine⟨i,g,ce,rfl,j,o,⟨zUs p,fun k x hx=>?_⟩,C⟩
  grind [qk,Vh]
theorem qdS(i:y7 G h es ce.toList)(j:∀(k:Nat) (e:xc),ce[k]?=some e->e.born=k):vP G h g (.map ce ce.size) (.mp es):=by
 refine⟨ce,ce.size,rfl,by simpa using i.1,fun k x hx=>?_,fun k x hx=>?_,rfl,j⟩
 .obtain ⟨e,l,o,p⟩:=i.2 k x hx
  simp_all
 .obtain ⟨e,l,o,p⟩:=i.2 k x hx
  simp_all
theorem kS(g:y7 G h es ce.toList){i:Nat}(t:i<es.length){k v:AV}{l o:uk}(C:VRel G h k l)(I:VRel G h v o) :
  y7 G h (es.set i (k,v)) (ce.modify i fun e=>{ e with key:=l,val:=o }).toList:=by
 refine⟨by simpa using g.1,fun j x hx=>?_⟩;rcases vd hx with ⟨rfl,rfl⟩|⟨p,hx⟩
 .have r:j<ce.size:=by have:=g.1;simp at this;omega
  simp_all
 .obtain ⟨e,J,P,R⟩:=g.2 j x hx
  grind
theorem We(g:y7 G h es ce.toList){k v:AV}{i l:uk}(r:VRel G h k i)(t:VRel G h v l)(n:Nat) :
  y7 G h (es++[(k,v)]) (ce.push { key:=i,val:=l,born:=n }).toList:=by
 have p:ce.size=es.length:=by simpa using g.1
 refine⟨zP1 p,fun j x hx=>?_⟩;rcases z6 hx with ⟨C,hx⟩|⟨rfl,rfl⟩
 .obtain ⟨e,I,J,P⟩:=g.2 j x hx
  grind
 simp_all
theorem Wf(g:∀(k:Nat) (e:xc),ce[k]?=some e->e.born=k)(i:Nat)(f:xc->xc)(hf:∀ e,(f e).born=e.born):∀(k:Nat) (e:xc),(ce.modify i f)[k]?=some e->e.born=k:=by
 grind
theorem kT(g:∀(k:Nat) (e:xc),ce[k]?=some e->e.born=k)(x:xc)(hx:x.born=ce.size):∀(k:Nat) (e:xc),(ce.push x)[k]?=some e->e.born=k:=by
 grind
theorem Stp.putMap(s:Sim G mu w.heap){b m j:Nat}{es i:List (AV×AV)}{ce g:Array xc}(o:mu[b]?=some (.mp es))(p:G.blk[b]?=some (m,j))(r:w.heap[m]?=some (.map ce ce.size))
  (t:y7 G w.heap i g.toList) (l:∀(k:Nat) (e:xc),g[k]?=some e->e.born=k):Stp G mu w G (mu.set b (.mp i)) { w with heap:=w.heap.setIfInBounds m (.map g g.size) }:=by
 grind [yf,Stp.write,Wc,Wd,qdS]
theorem qdT(s:Sim G mu w.heap){b:Nat}{v:uk}{es:List (AV×AV)}(r:VRel G w.heap (.mp b) v)(o:mu[b]?=some (.md es)) :
  ∃ m g ce j,v = .map (some m)/\G.blk[b]?=some (m,g)/\w.heap[m]?=some (.map ce j)/\y7 G w.heap es ce.toList/\jU ce j:=by
 cases r with
 |mp _ i g l =>
  obtain⟨ce,j,p,t,I,J,C⟩:=s.md _ _ i g o l;refine⟨i,g,ce,j,rfl,l,p,⟨zUs t,fun k x hx=>?_⟩,C⟩
  grind [qk,Vh]
theorem qdU{i:Nat}(j:y7 G h es ce.toList)(l:jU ce g):vP G h i (.map ce g) (.md es):=by
 refine⟨ce,g,rfl,by simpa using j.1,fun k x hx=>?_,fun k x hx=>?_,l⟩
 .obtain ⟨e,o,p,r⟩:=j.2 k x hx
  simp_all
 .obtain ⟨e,o,p,r⟩:=j.2 k x hx
  simp_all
theorem Stp.putMapD(s:Sim G mu w.heap){b m j:Nat}{c:Cell}{i:List (AV×AV)}{o:Obj}{g:Array xc}{p:Nat}(r:mu[b]?=some c)(t:c ≠ .dead)(C:G.blk[b]?=some (m,j))(I:w.heap[m]?=some o)
  (J:y7 G w.heap i g.toList) (l:jU g p):Stp G mu w G (mu.set b (.md i)) { w with heap:=w.heap.setIfInBounds m (.map g p) }:=by
 grind [yf,Stp.write,Wc,Wd,qdU]
theorem qdV{l:Nat}(o:jU ce l)(i:Nat)(f:xc->xc)(hf:∀ e,(f e).born=e.born):jU (ce.modify i f) l:=by
 have key:∀(k:Nat) (e:xc),(ce.modify i f)[k]?=some e->∃ g,ce[k]?=some g/\g.born=e.born:=by
  grind
 refine⟨fun k e h=>?_,fun j k e p r t T=>?_⟩
 .obtain ⟨g,C,I⟩:=key k e h
  rw[<-I];exact o.1 k g C
 .obtain ⟨J,g1,U⟩:=key j e r
  obtain⟨P,R,g4⟩:=key k p t;exact o.2 j k J P g1 R zOm
theorem qdW{i:Nat}(g:jU ce i)(x:xc)(hx:x.born=i):jU (ce.push x) (i+1):=by
 have key:∀(k:Nat) (e:xc),(ce.push x)[k]?=some e->(k=ce.size/\e=x)\/ce[k]?=some e:=by
  grind
 refine⟨fun k e h=>?_,fun j k e l r t C=>?_⟩
 .rcases key k e h with ⟨_,rfl⟩|h
  .omega
  .have:=g.1 k e h;omega
 .rcases key j e r with ⟨o,rfl⟩|o<;>rcases key k l t with ⟨p,rfl⟩|p
  .omega
  .have:=g.1 k l p;omega
  .have:=g.1 j e o;omega
  .exact g.2 j k e l o p C
theorem qdX{l:Nat}(o:jU ce l)(i:Nat):jU (ce.eraseIdxIfInBounds i) l:=by
 have key:∀ k:Nat,∃ j:Nat,(ce.eraseIdxIfInBounds i)[k]?=ce[j]?/\j=if k<i then k else if i<ce.size then k+1 else k:=by
  grind
 refine⟨fun k e h=>?_,fun j k e t p r C=>?_⟩
 .obtain ⟨j,g,_⟩:=key k
  rw[g]at h;exact o.1 j e h
 .obtain ⟨I,g,R⟩:=key j
  obtain⟨J,P,T⟩:=key k;rw[g]at p;rw[P]at r;have:=o.2 I J e t p r C
  grind
theorem qdY(g:y7 G h es ce.toList){i:Nat}(r:i<es.length):y7 G h (es.eraseIdx i) (ce.eraseIdxIfInBounds i).toList:=by
 have l:ce.size=es.length:=by simpa using g.1
 have e:(ce.eraseIdxIfInBounds i).toList=ce.toList.eraseIdx i:=by
  simp_all
 rw[e];refine⟨by simp[List.length_eraseIdx,l],fun k x hx=>?_⟩;rw[List.getElem?_eraseIdx]at hx;by_cases j:k<i
 .rw [if_pos j]at hx
  obtain⟨c,o,p⟩:=g.2 k x hx
  grind
 .rw [if_neg j]at hx
  obtain⟨c,o,p⟩:=g.2 (k+1) x hx
  grind
@[go_sem] def jt(P:j1)(mu:Mu)(t:j2)(m k v:AV):Option Mu:=
 match m,mapT P t with
 | .mp b,some (g,_)=>match mu[b]? with
  |some (.mp I)=>if y6 P g k=true then (zm P g k I 0).map fun r=>mu.set b (.mp (ZV I r k v)) else none
  |some (.md I)=>if y6 P g k=true then (zm P g k I 0).map fun r=>mu.set b (.md (ZV I r k v)) else none
  |_=>none
 |_,_=>none
theorem Wg{o n:uk}(h:Instr.sameBits 10000 o n=true):(Instr.keyThatStays o n).run P w = .ok n w:=by
 simp[Instr.keyThatStays,h]
theorem kU(s:Sim G mu w.heap){t:j2}{m k v:AV}{vm vk vv:uk}(rm:VRel G w.heap m vm)(rk:VRel G w.heap k vk)(rv:VRel G w.heap v vv)(h:jt P mu t m k v=some mu') :
  ∃ w',(Instr.mapUpdate t vm vk vv).run P w = .ok () w'/\Stp G mu w G mu' w':=by
 unfold jt at h;split at h
 .rename_i b kt et ht
  have hu:=Zj ht;split at h
  .rename_i I hm
   split at h
   .rename_i C
    obtain⟨mb,a4,ce,rfl,hb,J,R,g⟩:=Vi s rm hm;have T:(Instr.checkKey false 10000 kt vk).run P w = .ok () w:=YQ false rk C;have hg:=uQ (P:=P) J;have a5:ce.size=I.length:=by simpa using R.1
    cases hf:zm P kt k I 0 with
    |none=>simp[hf]at h
    |some r =>
     simp only[hf,zd,qp]at h;subst h;obtain⟨j,a0⟩:=Qj rk C R hf;cases r with
     |none =>
      have l:=We R rk rv ce.size;have o:=kT g { key:=vk,val:=vv,born:=ce.size } rfl;refine⟨_,?_,Stp.putMap s hm hb J l o⟩;simp only[Option.map_none]at j;simp[Instr.mapUpdate,run_underlying hu,hg,T,j,wA J]
     |some i =>
      obtain⟨_,e,he,U⟩:=Wb I 0 i hf;rw[Nat.sub_zero]at he;obtain⟨c,hc,a1,a6⟩:=R.2 i e he;have a2:ce[i]?=some c:=zUs hc;have p:=Wa rk a1 U;have l:=kS R (a0 i rfl) rk rv;have o:=Wf g i (fun e=>{ e with key:=vk,val:=vv }) (fun _=>rfl);refine⟨_,?_,Stp.putMap s hm hb J l o⟩;simp only[zd]at j;simp[Instr.mapUpdate,run_underlying hu,hg,T,j,a2,Wg p,wA J]
   grind
  .rename_i I hm
   split at h
   .rename_i C
    obtain⟨mb,a4,ce,cl,rfl,hb,J,R,g⟩:=qdT s rm hm;have T:(Instr.checkKey false 10000 kt vk).run P w = .ok () w:=YQ false rk C;have hg:=uQ (P:=P) J;have a5:ce.size=I.length:=by simpa using R.1
    cases hf:zm P kt k I 0 with
    |none=>simp[hf]at h
    |some r =>
     simp only[hf,zd,qp]at h;subst h;obtain⟨j,a0⟩:=Qj rk C R hf;cases r with
     |none =>
      have l:=We R rk rv cl;have o:=qdW g { key:=vk,val:=vv,born:=cl } rfl;refine⟨_,?_,Stp.putMapD s hm zSp hb J l o⟩;simp only[Option.map_none]at j;simp[Instr.mapUpdate,run_underlying hu,hg,T,j,wA J]
     |some i =>
      obtain⟨_,e,he,U⟩:=Wb I 0 i hf;rw[Nat.sub_zero]at he;obtain⟨c,hc,a1,a6⟩:=R.2 i e he;have a2:ce[i]?=some c:=zUs hc;have p:=Wa rk a1 U;have l:=kS R (a0 i rfl) rk rv;have o:=qdV g i (fun e=>{ e with key:=vk,val:=vv }) (fun _=>rfl);refine⟨_,?_,Stp.putMapD s hm zSp hb J l o⟩;simp only[zd]at j;simp[Instr.mapUpdate,run_underlying hu,hg,T,j,a2,Wg p,wA J]
   grind
  grind
 grind
@[go_sem] def ZW(P:j1)(mu:Mu)(t:j2)(m k:AV):Option (AV×Mu):=
 match m,mapT P t with
 | .mp b,some (g,j)=>match mu[b]? with
  |some (.mp I)=>if y6 P g k=true then
    match zm P g k I 0 with
    |some (some i)=>(I[i]?).map fun e=>(.tup [e.2,.sc (.int .i64 i)],mu.set b (.mp (I.set i (k,e.2))))
    |some none=>(qC P j).map fun z=>(.tup [z,.sc (.int .i64 I.length)],mu.set b (.mp (I++[(k,z)])))
    |none=>none
   else none
  |_=>none
 |_,_=>none
theorem qdZ(s:Sim G mu w.heap){t:j2}{m k z:AV}{vm T:uk}(rm:VRel G w.heap m vm)(rk:VRel G w.heap k T)(h:ZW P mu t m k=some (z,mu')) :
  Good P G mu w (Instr.mapEntry t vm T) z mu':=by
 unfold ZW at h;split at h
 .rename_i b kt et ht
  have hu:=Zj ht;split at h
  .rename_i I hm
   split at h
   .rename_i o
    obtain⟨mb,a9,ce,rfl,hb,hh,p,g⟩:=Vi s rm hm;have a0:(Instr.checkKey false 10000 kt T).run P w = .ok () w:=YQ false rk o;have hg:=uQ (P:=P) hh;have a2:ce.size=I.length:=by simpa using p.1
    split at h
    .rename_i i hf
     obtain⟨l,aa⟩:=Qj rk o p hf;obtain⟨_,e,he,a1⟩:=Wb I 0 i hf;rw[Nat.sub_zero]at he;rw[he]at h;simp only[zd,qp,ul]at h;obtain⟨rfl,rfl⟩:=h;obtain⟨c,hc,a3,a4⟩:=p.2 i e he;have r:ce[i]?=some c:=zUs hc;have C:=Wa rk a3 a1;have a5:ce.getD i default=c:=by simp[qH,r]
     have J:y7 G w.heap (I.set i (k,e.2)) (ce.modify i fun e=>{ e with key:=T }).toList:=by
      refine⟨by simpa using p.1,fun j x hx=>?_⟩;rcases vd hx with ⟨rfl,rfl⟩|⟨ab,hx⟩
      .grind
      .obtain ⟨e',ad,h1,h2⟩:=p.2 j x hx
       grind
     have R:=Wf g i (fun e=>{ e with key:=T }) (fun _=>rfl);have a6:c.born=i:=g i c r;have U:=Stp.putMap s hm hb hh J R;refine⟨.tuple #[c.val,.int .i64 i],_,G,?_,U,tup2 (U.vrel s a4) (.sc _ rfl)⟩;simp only[zd,a5]at l;simp[Instr.mapEntry,run_underlying hu,hg,a0,l,r,Wg C,wA hh,goInt,a6]
    .rename_i hf
     obtain⟨l,_⟩:=Qj rk o p hf;cases hz:qC P et with
     |none=>simp[hz]at h
     |some z0 =>
      simp only[hz,zd,qp,ul]at h;obtain⟨rfl,rfl⟩:=h;obtain⟨zv,a7,rfl⟩:=Zh hz w;have J:=We p rk (VRel.ofV (G:=G) (h:=w.heap) zv) ce.size;have R:=kT g { key:=T,val:=zv,born:=ce.size } rfl;have U:=Stp.putMap s hm hb hh J R;refine⟨.tuple #[zv,.int .i64 I.length],_,G,?_,U,tup2 (.ofV zv) (.sc _ rfl)⟩;simp only[Option.map_none]at l;simp[Instr.mapEntry,run_underlying hu,hg,a0,l,a7,wA hh,goInt,a2]
    grind
   grind
  grind
 grind
@[go_sem] def Wh(mu:Mu)(m g v:AV):Option Mu:=
 match m,g with
 | .mp b,.sc (.int _ i)=>match mu[b]? with
  |some (.mp I)=>if 0<=i then (I[i.toNat]?).map fun e=>mu.set b (.mp (I.set i.toNat (e.1,v))) else none
  |_=>none
 |_,_=>none
theorem qd0(s:Sim G mu w.heap){t:j2}{m st v:AV}{vm vs o:uk}(rm:VRel G w.heap m vm)(rs:VRel G w.heap st vs)(rv:VRel G w.heap v o)(h:Wh mu m st v=some mu') :
  ∃ w',(Instr.entryStore t vm vs o).run P w = .ok () w'/\Stp G mu w G mu' w':=by
 unfold Wh at h;split at h
 .rename_i b q i
  split at h
  .rename_i I hm
   split at h
   .rename_i a0
    cases p:I[i.toNat]? with
    |none=>simp[p]at h
    |some e =>
     simp only[p,zd,qp]at h;subst h;obtain⟨mb,a1,ce,rfl,hb,r,C,g⟩:=Vi s rm hm;cases rs;have hg:=uQ (P:=P) r;obtain⟨c,hc,a2,a3⟩:=C.2 _ e p;have J:ce[i.toNat]?=some c:=zUs hc;have R:i.toNat<ce.size:=(yf.1 J).1;have l:ce.findIdx? (fun e=>(e.born:Int) == i)=some i.toNat:=by
      rw[Array.findIdx?_eq_some_iff_getElem];refine⟨R,?_,fun j hj=>?_⟩
      .grind
      .have:ce[j].born=j:=g j _ (by simp[show j<ce.size by omega])
       simp[this];omega
     have T:y7 G w.heap (I.set i.toNat (e.1,v)) (ce.modify i.toNat fun e=>{ e with val:=o }).toList:=by
      refine⟨by simpa using C.1,fun j x hx=>?_⟩;rcases vd hx with ⟨rfl,rfl⟩|⟨a4,hx⟩
      .grind
      .obtain ⟨e',a5,h1,h2⟩:=C.2 j x hx
       grind
     have U:=Wf g i.toNat (fun e=>{ e with val:=o }) (fun _=>rfl);refine⟨_,?_,Stp.putMap s hm hb r T U⟩;simp[Instr.entryStore,hg,asInt,asIntOf,l,wA r]
   grind
  grind
 grind
theorem qd1(s:Sim G mu w.heap){t:j2}:Good P G mu w (Instr.makeMap t none) (.mp mu.length) (mu++[.mp []]):=by
 have U:=Stp.allocNew s (.map #[] 0) (.mp []) 0 (fun _=>⟨#[],0,rfl,rfl,zSp,zSp,rfl,zSp⟩);refine⟨.map (some w.heap.size),_,_,?_,U,.mp _ w.heap.size 0 ?_⟩
 .simp [Instr.makeMap]
 .show (G.blk++[_])[mu.length]?=_
  rw[<-s.len];simp
@[go_sem] def Vj(P:j1)(mu:Mu)(t:j2)(m:AV):Option (AV×Mu):=
 match mapT P t,m with
 |some _,.im I=>some (.ptr mu.length 0,mu++[.it I []])
 |some _,.ims I=>some (.ptr mu.length 0,mu++[.it I []])
 |some _,.sc (.map none)=>some (.ptr mu.length 0,mu++[.it [] []])
 |_,_=>none
theorem qd2(s:Sim G mu w.heap){t:j2}{m z:AV}{R:uk}(i:VRel G w.heap m R)(h:Vj P mu t m=some (z,mu')):Good P G mu w (Instr.range t R) z mu':=by
 unfold Vj at h;split at h
 .rename_i l I o
  obtain⟨T,et⟩:=l;have p:=Zj o;simp only[qp,ul]at h;obtain⟨rfl,rfl⟩:=h;have j:=i;cases i with
  |im _ g ce clock r C hn hk hv hd =>
  have U:=Stp.allocNew s (.mapIter (some g) clock #[] clock) (.it I []) 0 (fun h => .inl ⟨g,I,id,id,ce,clock,j,r,C,PIx.refl I,zSp,zSp⟩);refine⟨.pointer (some ⟨w.heap.size,0,none⟩),_,_,?_,U,.ptr _ 0 w.heap.size 0 ?_⟩
  .have hg:=uQ (P:=P) r
   simp[Instr.range,run_underlying p,hg]
  .show (G.blk++[_])[mu.length]?=_
   rw[<-s.len];simp
 .rename_i l I o
  obtain⟨T,et⟩:=l;have p:=Zj o;simp only[qp,ul]at h;obtain⟨rfl,rfl⟩:=h;cases i with
  |ims _ J σ τ _ hp a0 i =>
  have j:=i;cases i with
  |im _ g ce clock r C hn hk hv hd =>
  have U:=Stp.allocNew s (.mapIter (some g) clock #[] clock) (.it I []) 0 (fun h => .inl ⟨g,J,σ,τ,ce,clock,j,r,C,hp,zSp,zSp⟩);refine⟨.pointer (some ⟨w.heap.size,0,none⟩),_,_,?_,U,.ptr _ 0 w.heap.size 0 ?_⟩
  .have hg:=uQ (P:=P) r
   simp[Instr.range,run_underlying p,hg]
  .show (G.blk++[_])[mu.length]?=_
   rw[<-s.len];simp
 .rename_i l o
  obtain⟨T,et⟩:=l;have p:=Zj o;simp only[qp,ul]at h;obtain⟨rfl,rfl⟩:=h;cases i;have U:=Stp.allocNew s (.mapIter none 0 #[] 0) (.it [] []) 0 (fun _ => .inr ⟨rfl,rfl⟩);refine⟨.pointer (some ⟨w.heap.size,0,none⟩),_,_,?_,U,.ptr _ 0 w.heap.size 0 ?_⟩
  .simp [Instr.range,run_underlying p]
  .show (G.blk++[_])[mu.length]?=_
   rw[<-s.len];simp
 grind
def Wi(mu:Mu)(g:AV)(K:AV->Mu->Prop):Prop:=
 ∃ b I seen,g = .ptr b 0/\mu[b]?=some (.it I seen) /\
  (∀(i:Nat) e,I[i]?=some e->i ∉ seen->K (.tup [.sc (.bool true),e.1,e.2]) (mu.set b (.it I (seen++[i])))) /\
  ((∀ i,i<I.length->i∈seen)->K (.tup [.sc (.bool false)]) mu)
theorem tup1{y:AV}{u:uk}(i:VRel G h y u):VRel G h (.tup [y]) (.tuple #[u]):=by
 refine .tup _ _ rfl (fun k c g=>?_);cases k with
 |zero=>simp at g;subst g;exact i
 |succ k=>simp at g
theorem tup3{x y z:AV}{t u v:uk}(i:VRel G h x t)(j:VRel G h y u)(l:VRel G h z v):VRel G h (.tup [x,y,z]) (.tuple #[t,u,v]):=by
 refine .tup _ _ rfl (fun k c g=>?_)
 match k,g with
 | 0,g=>simp at g;subst g;exact i
 | 1,g=>simp at g;subst g;exact j
 | 2,g=>simp at g;subst g;exact l
 |k+3,g=>simp at g
theorem qd3(s:Sim G mu w.heap){an:AV}{vi:uk}{ty:j2}(ri:VRel G w.heap an vi){K:AV->Mu->Prop}(h:Wi mu an K) :
  ∃ z mu',K z mu'/\Good P G mu w (Instr.next vi false ty) z mu':=by
 obtain⟨b,I,seen,rfl,hm,h1,h2⟩:=h;cases ri with
 |ptr _ _ p ao hb =>
 obtain⟨o,ho,ag⟩:=s.obj b _ p ao hm zSp hb;have b2:p<w.heap.size:=(yf.1 ho).1;rcases ag with ⟨m,a1,σ,τ,g,l,rm,a6,hi,C,a2,rfl⟩|⟨rfl,rfl⟩
 .cases rm with
  |im _ _ ce clock ab a7 aq hk hv hd =>
  rw[a6]at ab;obtain⟨rfl,rfl⟩:g=ce/\l=clock:=zUs ab;have hn:g.size=I.length:=by rw[aq];exact C.1
  have ar:∀ j,j<I.length->g[j]?=some (g.getD j default):=fun j hj=>by
   simp_all
  generalize au:(seen.map fun i=>(g.getD (σ i) default).born)=sn at ho;have ad:∀ j,j<I.length->((g.getD j default).born∈sn↔τ j∈seen):=by
   intro j hj;rw[<-au,qr];constructor
   .rintro ⟨i,a7,b3⟩
    have h1:=C.2 i (a2 i a7);have:=hd.2 _ _ _ _ (ar _ h1.1) (ar j hj) b3
    grind
   .intro b4
    exact⟨τ j,b4,by simp only[(C.2 j hj).2.2.2.1]⟩
  have a3:(getObj p).run P w = .ok (.mapIter (some m) l sn.toArray l) w:=by simp[getObj,Sem.run,ho]
  have ah:=uQ (P:=P) a6;have J:(!sn.toArray.isEmpty&&!g.isEmpty&&g.all fun e=>decide (e.born>=l))=false:=by
   by_cases bb:g.size=0
   .grind
   .have:(g.all fun e=>decide (e.born>=l))=false:=by
     cases hq:(g.all fun e=>decide (e.born>=l)) with
     |false=>rfl
     |true =>
      have h0:g[0]?=some (g[0]' zOm):=by simp[show 0<g.size by omega]
      have:=(Array.all_eq_true'.1 hq) _ (Array.mem_of_getElem? h0);have bc:=hd.1 0 _ h0
      grind
    rw[this];simp
  have av:∀(a:Array xc),(∀ e,e∈a->e∈g)->(a.filter fun e=>decide (e.born<l))=a/\(a.filter fun e=>decide (e.born>=l))=#[]:=by
   intro a ha;have hb:∀ e,e∈a->e.born<l:=by
    intro e he;obtain⟨k,hk⟩:=Array.mem_iff_getElem?.1 (ha e he);exact hd.1 k e hk
   simp_all
  obtain⟨ai,aj⟩:=av (g.filter fun e=>!sn.toArray.contains e.born) (fun e he=>(Array.mem_filter.1 he).1);generalize r:(g.filter fun e=>!sn.toArray.contains e.born)=left at ai aj;have a0:∀ e,e∈left->∃(k:Nat) (x:AV×AV),I[k]?=some x/\k ∉ seen/\e.born=(g.getD (σ k) default).born/\VRel G w.heap x.1 e.key/\VRel G w.heap x.2 e.val:=by
   intro e he;rw[<-r,Array.mem_filter]at he;obtain⟨k,aw⟩:=Array.mem_iff_getElem?.1 he.1;have a8:k<g.size:=(yf.1 aw).1;have a4:k<I.length:=zOm;have hx:a1[k]?=some (a1[k]' zOm):=by simp[show k<a1.length by omega]
   have a9:g.getD k default=e:=by simp[qH,aw]
   refine⟨τ k,_,by rw[<-C.back a4];exact hx,?_,by rw[(C.2 k a4).2.2.2.1,a9],by have:=hk k _ hx;rwa[a9]at this,by have:=hv k _ hx;rwa[a9]at this⟩;intro hs;have:=he.2;have h3:=(ad k a4).2 hs;rw[a9]at h3;simp[h3]at this
  by_cases a5:left=#[]
  ·
   have ax:∀ i,i<I.length->i∈seen:=by
    intro i hi;refine Classical.byContradiction fun ak=>?_
    obtain⟨q1,q2,q3,q4,q5⟩:=C.2 i hi;have a7:σ i<g.size:=zOm;have:g[σ i]∈left:=by
     rw[<-r,Array.mem_filter];refine⟨zSp,?_⟩;have h4:g.getD (σ i) default=g[σ i]:=by simp[qH,a7]
     have h3:g[σ i].born ∉ sn:=fun h=>ak (by rw[<-h4]at h;have:=(ad _ q1).1 h;rwa[q3]at this)
     simp[h3]
    rw[a5]at this;simp at this
   refine⟨_,_,h2 ax,?_⟩;refine Good.quiet s (v := .tuple #[.bool false]) ?_ (tup1 (.sc _ rfl));simp only[Instr.next,qT,a3,qW,ah,J,Bool.false_eq_true,if_false,r,a5];simp[Question.forced]
  .have R:0<left.size:=by
    rcases Nat.eq_zero_or_pos left.size with h|h
    .exact absurd (Array.eq_empty_of_size_eq_zero h) a5
    .exact h
   have ay:left.isEmpty=false:=by simp[Array.isEmpty];omega
   have ae:∀(n:Nat) (h:n<left.size),left[n]?=some left[n]:=fun n h=>zP1 h
   have key:∀(n:Nat) (T:j3) (b5:n<left.size),T.heap=w.heap->Stp G mu w G mu T->∃ z mu',K z mu'/\∃ v w' G',((do
     setObj p (.mapIter (some m) l (sn.toArray.push left[n].born) l)
     pure (.tuple #[.bool true,left[n].key,left[n].val]):Sem uk)).run P T = .ok v w'/\Stp G mu w G' mu' w'/\VRel G' w'.heap z v:=by
    intro n T b5 aa al;obtain⟨k,x,hx,ak,b6,r1,r2⟩:=a0 left[n] zSp;have b7:T.heap[p]?=some (.mapIter (some m) l sn.toArray l):=by rw[aa];exact ho
    have az:p<T.heap.size:=by rw[aa];exact b2
    have b8:VRel G T.heap (.im a1) (.map (some m)):=by rw[aa];exact .im _ m g _ a6 hi aq hk hv hd
    have a4:k<I.length:=(qk.1 hx).1;have U:=Stp.write al.sim b (.it I seen) (.it I (seen++[k])) p ao (.mapIter (some m) l (sn++[(g.getD (σ k) default).born]).toArray l) hm zSp zSp hb (w':={ T with heap:=T.heap.setIfInBounds p (.mapIter (some m) l (sn++[(g.getD (σ k) default).born]).toArray l) }) zSp
     (Wc T p _ az) (fun j hj=>Wd T p j _ hj) rfl rfl rfl (.inl ⟨m,a1,σ,τ,g,l,b8,by rw[aa];exact a6,hi,C,fun i hi=>by
      rcases List.mem_append.1 hi with h|h
      .exact a2 i h
      .simp at h;subst h;exact a4,by rw[zx,au,List.map_singleton]⟩)
    have b0:(setObj p (.mapIter (some m) l (sn.toArray.push left[n].born) l)).run P T = .ok () { T with heap:=T.heap.setIfInBounds p (.mapIter (some m) l (sn++[(g.getD (σ k) default).born]).toArray l) }:=by
     simp[setObj,Sem.run,b7,b6]
    refine⟨_,_,h1 k x hx ak,.tuple #[.bool true,left[n].key,left[n].val],_,G,?_,al.trans s U,?_⟩
    .simp only[qT,b0,qW,zD]
    .have t:=al.trans s U
     exact tup3 (.sc _ rfl) (t.vrel s r1) (t.vrel s r2)
   have b9:∀(z:AV) (mu':Mu),True:=fun _ _=>trivial
   by_cases af:left.size<=1
   .obtain ⟨z,mu',a8,v,w',G',g1,g2,g3⟩:=key 0 w R rfl (Stp.refl s)
    refine⟨z,mu',a8,v,w',G',?_,g2,g3⟩;rw[<-g1];simp only[Instr.next,qT,a3,qW,ah,J,Bool.false_eq_true,if_false,r,ai,aj,ay];simp[Question.forced,af,ae 0 R]
   .obtain ⟨z,mu',a8,v,w',G',g1,g2,g3⟩:=key (w.tape w.drawn (.mapNext left.size) % left.size) w.drew (Nat.mod_lt _ R) rfl (Stp.drew s)
    refine⟨z,mu',a8,v,w',G',?_,g2,g3⟩;rw[<-g1];simp only[Instr.next,qT,a3,qW,ah,J,Bool.false_eq_true,if_false,r,ai,aj,ay];have b1:=Nat.mod_lt (w.tape w.drawn (.mapNext left.size)) R;simp[Question.forced,Question.cut,af,ae _ b1]
 .have a3:(getObj p).run P w = .ok (.mapIter none 0 #[] 0) w:=by simp[getObj,Sem.run,ho]
  refine⟨_,_,h2 (fun i hi=>by simp at hi),Good.quiet s (v := .tuple #[.bool false]) ?_ (tup1 (.sc _ rfl))⟩;simp[Instr.next,a3]
@[go_sem] def Zk(mu:Mu)(g:AV):Option AV:=
 match g with
 | .ptr b 0=>match mu[b]? with
  |some (.it I seen)=>match seen.getLast? with
   |some i=>(I[i]?).map fun e => .tup [e.1,e.2]
   |none=>none
  |_=>none
 |_=>none
theorem qd4(s:Sim G mu w.heap){R z:AV}{vi:uk}(ri:VRel G w.heap R vi)(h:Zk mu R=some z) :
  ∃ u,(Instr.entry vi).run P w = .ok u w/\VRel G w.heap z u:=by
 unfold Zk at h;split at h
 .rename_i b
  split at h
  .rename_i I seen hm
   split at h
   .rename_i i hi
    cases hx:I[i]? with
    |none=>simp[hx]at h
    |some x =>
     simp only[hx,zd,qp]at h;subst h;cases ri with
     |ptr _ _ T a2 hb =>
     obtain⟨o,ho,r⟩:=s.obj b _ T a2 hm zSp hb;rcases r with ⟨m,a3,U,τ,g,t,rm,a0,aa,a1,a4,rfl⟩|⟨rfl,rfl⟩
     .cases rm with
      |im _ _ ce clock p a5 a6 hk hv hd =>
      rw[a0]at p;obtain⟨rfl,rfl⟩:g=ce/\t=clock:=zUs p;have hn:g.size=I.length:=by rw[a6];exact a1.1
      obtain⟨q1,q2,q3,q4,q5⟩:=a1.2 i (qk.1 hx).1;have C:a3[U i]?=some x:=by rw[q5];exact hx
      have l:(seen.map fun i=>(g.getD (U i) default).born).toArray.back?=some ((g.getD (U i) default).born):=zP1 hi;generalize (seen.map fun i=>(g.getD (U i) default).born)=sn at ho l;generalize U i=i at C l q1;have ab:(getObj T).run P w = .ok (.mapIter (some m) t sn.toArray t) w:=by simp[getObj,Sem.run,ho]
      have ad:=uQ (P:=P) a0;have J:i<g.size:=zOm;have a7:g.getD i default=g[i]:=by simp[qH,J]
      rw[a7]at l;have a8:g.find? (fun e=>e.born == g[i].born)=some g[i]:=by
       rw[Array.find?_eq_some_iff_getElem];refine⟨zSp,i,J,rfl,fun j hj=>?_⟩;have a9:j<g.size:=zOm;have:g[j].born≠g[i].born:=fun h=>by
        have:=hd.2 j i _ _ (zP1 a9) (zP1 J) h;omega
       simp[this]
      have r1:=hk i x C;have r2:=hv i x C;simp_all[Instr.entry,tup2]
     .simp at hx
   grind
  grind
 grind
end
end Go.Ev
namespace Go.Ev
open Go Go.RowKit
section
variable {mu:Mu}{w:j3}
theorem qd5{P:j1}{G:Gh}(s:Sim G mu w.heap){x:AV}{v:uk}{ys:List (List AV)}{sz:Nat}(r:VRel G w.heap x v)(h:qO mu x=some ys)(hz:zy sz ys)(n:Nat)(hn:n<=ys.length) :
  ∃(news:List uk),news.length=n*sz/\(∀ u∈news,u.oneCell'=true)/\(∀(k:Nat) y,(ys.take n).flatten[k]?=some y->VRel G w.heap y (news.getD k xa)) /\
   (Builtin.lenOf v).run P w = .ok ys.length w/\(Builtin.firstCells sz n v).run P w = .ok news.toArray w:=by
 have J:zy sz (ys.take n):=fun r hr=>hz r (uK hr)
 have R:(ys.take n).flatten.length=n*sz:=by rw[jG J.ok];simp[Nat.min_eq_left hn]
 have l:∀(k:Nat) y,(ys.take n).flatten[k]?=some y->ys.flatten[k]?=some y:=by
  intro k y C;have:ys.flatten=(ys.take n).flatten++(ys.drop n).flatten:=by rw[<-List.flatten_append,uf]
  rw[this,qo (qk.1 C).1];exact C
 have fin:∀(a:Addr) (cap:Nat) (rd:Nat->uk),(∀(k:Nat) y,ys.flatten[k]?=some y->w.cell? (a.add k)=some (rd k)/\VRel G w.heap y (rd k))->v = .slice (some a) ys.length cap ->
   ∃(news:List uk),news.length=n*sz/\(∀ u∈news,u.oneCell'=true)/\(∀(k:Nat) y,(ys.take n).flatten[k]?=some y->VRel G w.heap y (news.getD k xa)) /\
   (Builtin.lenOf v).run P w = .ok ys.length w/\(Builtin.firstCells sz n v).run P w = .ok news.toArray w:=by
  intro a cap rd I hv;subst hv;have t:∀ k,k<n*sz->∃ y,(ys.take n).flatten[k]?=some y:=fun k C=>⟨(ys.take n).flatten[k]' zOm,by simp only[qA (show k<(ys.take n).flatten.length by omega)]⟩
  refine⟨(qu (n*sz)).map rd,zSp,?_,?_,by simp[Builtin.lenOf],?_⟩
  .intro u hu
   obtain⟨k,C,rfl⟩:=qr.1 hu;obtain⟨y,g⟩:=t k (zUs C);exact(I k y (l k y g)).2.one (J.one y (qV g))
  .intro k y g
   have C:k<n*sz:=by rw[<-R];exact(qk.1 g).1
   have e:((qu (n*sz)).map rd).getD k xa=rd k:=by simp[zT,C]
   rw[e];exact(I k y (l k y g)).2
  .simp only[Builtin.firstCells]
   exact run_loadCells w a _ rd (fun j hj=>by obtain⟨y,g⟩:=t j hj;exact(I j y (l j y g)).1)
 unfold qO at h;split at h
 .rename_i full p
  simp only[qp]at h;subst h;cases r with
  |nil =>
   simp only[List.length_nil,Nat.le_zero]at hn;subst hn;exact⟨[],zSp,zSp,zSp,by simp[Builtin.lenOf],by simp[Builtin.firstCells]⟩
  |emp _ a cap hc=>exact fin a cap (fun _=>xa) zSp rfl
  |lst _ _ i a cap cs e fr rd hb hs hl hc hi a4 hr hv =>
   exact fin a cap rd (fun k y g=>⟨by rw[Zi hb hs];exact hr k y g,hv k y g⟩) rfl
 .rename_i b i off len
  split at h
  .rename_i cells hc
   split at h
   .rename_i a5
    simp only[qp]at h;cases r with
    |sl _ _ _ _ o a1 cap hb ht hl =>
    obtain⟨arr,e,h1,h2,h3,h4⟩:=s.arr b cells o a1 hc hb;have T:ys.length=len:=by rw[<-h];simp
    subst T;by_cases h0:ys.length=0
    .have:ys=[]:=ug h0
     subst this;exact fin ⟨o,off,none⟩ cap (fun _=>xa) zSp rfl
    .have U:i=sz:=by
      have a0:0<ys.length:=zOm;have hm:(cells.drop (off+0*i)).take i∈ys:=by
       rw[<-h];exact qr.2 ⟨0,zUs a0,rfl⟩
      have:=(hz _ hm).1;have a3:i<=ys.length*i:=Nat.le_mul_of_pos_left _ a0;simp at this;omega
     subst U;have a2:ys.flatten=(cells.drop off).take (ys.length*i):=by
      rw[<-h];have:=U6 i ys.length (cells.drop off) zSo;simp only[List.drop_drop]at this;simpa using this
     refine fin ⟨o,off,none⟩ cap (fun k=>arr.getD (off+k) xa) (fun k y g=>?_) rfl;rw[a2,jp]at g;split at g
     .rw [jF]at g
      refine⟨?_,(h4 _ y g).2⟩;rw[Zi (a:=⟨o,off,none⟩) h1 rfl];have a6:off+k<cells.length:=(qk.1 g).1;have:off+k<arr.size:=zOm;simp[qH,this]
     .exact absurd g zSp
   .exact absurd h zSp
  .exact absurd h zSp
 .exact absurd h zSp
theorem Stp.cellsAt{G:Gh}(s:Sim G mu w.heap){b off g l:Nat}{cells xs:List AV}{arr:Array uk}{e:j2}{news:List uk}(P:mu[b]?=some (.arr cells))(R:G.blk[b]?=some (g,l))
  (T:w.heap[g]?=some (.cells arr e (0,0))) (h2:arr.size=l) (h3:cells.length<=l) (J:∀(j:Nat) x,cells[j]?=some x->x.one=true/\VRel G w.heap x (arr.getD j xa))
  (o:off+xs.length<=cells.length) (hn:news.length=xs.length) (p:∀ x,x∈xs->x.one=true) (hx:∀(k:Nat) x,xs[k]?=some x->VRel G w.heap x (news.getD k xa)) :
  Stp G mu w G (mu.set b (.arr (putCells cells off xs))) (w.setRow g (arr.toList.take off++news++arr.toList.drop (off+news.length)).toArray):=by
 refine Stp.write s b (.arr cells) _ g l (.cells (arr.toList.take off++news++arr.toList.drop (off+news.length)).toArray e (0,0)) P zSp zSp R zSp (setRow_heap w g arr _ e _ T)
  (fun k U=>setRow_other w g k _ U) rfl rfl rfl ?_
 refine⟨_,e,rfl,zSo,by rw[jl _ _ _ o];simp;omega,?_⟩;intro j y i;rw[jl _ _ _ o,zE]at i;rw[U5,zT,zE];have t:(arr.toList.take off).length=off:=zSo;have C:(cells.take off).length=off:=zSo;by_cases r:j<off
 .rw [qo zOm,jp,if_pos r]at i
  rw[qo zOm,jp,if_pos r,uI,<-qH];exact J j y i
 .rw [zf zOm,C]at i
  rw[zf zOm,t];by_cases I:j-off<xs.length
  .rw [qo I]at i
   rw[qo zOm,<-zT];exact⟨p y (qV i),hx _ y i⟩
  .rw [zf zOm,jF]at i
   rw[zf zOm,jF,uI,<-qH];have e1:off+xs.length+(j-off-xs.length)=j:=zOm;have e2:off+news.length+(j-off-news.length)=j:=zOm;rw[e1]at i;rw[e2];exact J j y i
def delE(es:List (AV×AV)):Option Nat->List (AV×AV)
 |some i=>es.eraseIdx i
 |none=>es
inductive ExtB (P:j1) (mu:Mu):Builtin->Array j2->List AV->AV->Mu->Prop where
 |copy {t t' e:j2} {sz sz0 bt b off len:Nat} {cells:List AV} {ys:List (List AV)} {x:AV} (hs:qN P t=some (e,sz,bt)) (hc:mu[b]?=some (.arr cells)) (hl:off+len*sz<=cells.length)
   (hr:qO mu x=some ys) (hw:zy sz ys) :
   ExtB P mu .copy #[t,t'] [.sl b sz0 off len,x] (.sc (.int .i64 ((min ys.length len:Nat):Int))) (mu.set b (.arr (putCells cells off (ys.take len).flatten)))
 |clear {t e:j2} {sz bt b off len:Nat} {cells:List AV} {zv:AV} (hs:qN P t=some (e,sz,bt)) (hz:qC P e=some zv) (hz1:zv.cells.length=sz) (hz2:zv.cells.all AV.one=true) (hz0:sz≠0) (hc:mu[b]?=some (.arr cells)) (hl:off+len*sz<=cells.length) (hp:0<len) :
   ExtB P mu .clear #[t] [.sl b sz off len] (.tup []) (mu.set b (.arr (putCells cells off ((qu (len*sz)).map fun i=>zv.cells.getD (i % sz) .any))))
 |delete {t t' kt et:j2} {b:Nat} {es:List (AV×AV)} {k:AV} {r:Option Nat} (ht:mapT P t=some (kt,et)) (hc:mu[b]?=some (.mp es)) (hk:y6 P kt k=true) (hf:zm P kt k es 0=some r) :
   ExtB P mu .delete #[t,t'] [.mp b,k] (.tup []) (mu.set b (.md (delE es r)))
theorem qd6{P:j1}{G:Gh}{mu':Mu}(s:Sim G mu w.heap){b:Builtin}{af:Array j2}{ty:j2}{cs:Array Bool}{args:List AV}{o:Array uk}{z:AV}
  (hn:o.size=args.length) (hr:∀(k:Nat) x,args[k]?=some x->VRel G w.heap x (o.getD k xa)) (h:ExtB P mu b af args z mu') :
  ∃ u w',(builtin b af ty cs o).run P w = .ok (.value u) w'/\Stp G mu w G mu' w'/\VRel G w'.heap z u:=by
 cases h with
 | @copy t t' e g b6 bt b off len cells j x hs T hl aw hw =>
  have r0:=hr 0 _ rfl;have r1:=hr 1 _ rfl;have a0:o=#[o.getD 0 xa,o.getD 1 xa]:=by
   have h2:o.size=2:=zUs hn;apply Array.ext
   .simpa using h2
   .intro i hi ag
    have:i=0\/i=1:=zOm;rcases this with rfl|rfl<;>simp[qH,hi]
  generalize o.getD 0 xa=u0 at *
  generalize o.getD 1 xa=u1 at *
  subst a0;obtain⟨ax,hu,a6,ah,ay⟩:=vQ hs;have az:szOf P e=some g:=by simp[szOf,a6,ah]
  obtain⟨J,a9,aa,ai,aj,ak⟩:=qd5 (P:=P) s r1 aw hw (min j.length len) (Nat.min_le_left _ _);have ab:j.take (min j.length len)=j.take len:=by
   rcases Nat.le_total j.length len with h|h
   .rw [Nat.min_eq_left h,ye (qm _),ye h]
   .rw [Nat.min_eq_right h]
  rw[ab]at ai;have al:zy g (j.take len):=fun r hr=>hw r (uK hr)
  have b5:(j.take len).flatten.length=min j.length len*g:=by
   rw[jG al.ok,vM,Nat.min_comm]
  cases r0 with
  |sl _ _ _ _ a1 a3 cap hb ht b0 =>
   obtain⟨arr,el,R,h2,h3,h4⟩:=s.arr b cells a1 a3 T hb;have b7:min j.length len*g<=len*g:=Nat.mul_le_mul_right _ (Nat.min_le_right _ _);have U:=Stp.cellsAt s (off:=off) (xs:=(j.take len).flatten) (news:=J) T hb R h2 h3 h4 zOm zOm al.one ai;have C:=run_storeCells_at P a1 off el J 0 arr w R zOm aa;simp only[Nat.add_zero]at C;refine⟨_,_,?_,U,.sc _ rfl⟩;have an:Nat.min j.length len=min j.length len:=rfl;simp only[builtin,Builtin.copy_,qT,zD,goInt];simp only[Qf,Yy,j7];simp[run_underlying hu,aj,jk az,an,ak,C]
 | @clear t e g bt b off len cells zv hs hz ao b1 b8 T hl hp =>
  have r0:=hr 0 _ rfl;have a0:o=#[o.getD 0 xa]:=by
   have h2:o.size=1:=zUs hn;apply Array.ext
   .simpa using h2
   .intro i hi ag
    have:i=0:=zOm;subst this;simp[qH,hi]
  generalize o.getD 0 xa=u0 at *
  subst a0;obtain⟨ax,hu,a6,ah,ay⟩:=vQ hs;obtain⟨z,b2,rfl⟩:=Zh hz w;have a7:∀ c,c∈(ofV z).cells->c.one=true:=fun c T=>by simpa using qI.1 b1 c T
  obtain⟨c1,c2,c3⟩:=(VRel.ofV (G:=G) (h:=w.heap) z).cells a7;have a4:z.cells.size=g:=by rw[c1,ao]
  have a9:(yO z.cells len).toList.length=len*g:=by simp[yO,a4]
  have a2:∀ i:Nat,i % g<g:=fun i=>Nat.mod_lt i zOm
  have a8:∀ i,i<len*g->(yO z.cells len).toList.getD i xa=z.cells.getD (i % g) xa:=by
   intro i hi;have R:i % g<z.cells.size:=by rw[a4];exact a2 i
   simp[yO,a4,zT,hi,qH];rw[getElem!_pos z.cells (i % g) R,uM R];rfl
  cases r0 with
  |sl _ _ _ _ a1 a3 cap hb ht b0 =>
   obtain⟨arr,el,R,h2,h3,h4⟩:=s.arr b cells a1 a3 T hb;have aa:∀ v,v∈(yO z.cells len).toList->v.oneCell'=true:=by
    intro v hv;obtain⟨i,hi⟩:=List.mem_iff_getElem?.1 hv;have b3:i<len*g:=by rw[<-a9];exact(qk.1 hi).1
    have:=a8 i b3;rw[zT,hi]at this;simp only[Option.getD_some]at this;rw[this];have R:i % g<z.cells.size:=by rw[a4];exact a2 i
    rw[qH,uM R];exact c3 _ zSp
   have aq:∀(k:Nat) x,((qu (len*g)).map fun i=>(ofV z).cells.getD (i % g) .any)[k]?=some x->k<len*g/\(ofV z).cells[k % g]?=some x:=by
    intro k x hx;have hk:k<len*g:=by have:=(qk.1 hx).1;simpa using this
    refine⟨hk,?_⟩;have R:k % g<(ofV z).cells.length:=by rw[ao];exact a2 k
    rw[zu,uH hk]at hx;simp only[zd,qp,zT,qA R,Option.getD_some]at hx;rw[qA R,hx]
   have U:=Stp.cellsAt s (off:=off) (xs:=(qu (len*g)).map fun i=>(ofV z).cells.getD (i % g) .any) (news:=(yO z.cells len).toList) T hb R h2 h3 h4 (zUs hl) (by rw[a9];simp)
    (fun x hx=>by
     obtain⟨k,hk⟩:=List.mem_iff_getElem?.1 hx;exact a7 x (qV (aq k x hk).2))
    (fun k x hx=>by
     obtain⟨g1,g2⟩:=aq k x hx;rw[a8 k g1];exact c2 _ x g2)
   have C:=run_storeCells_at P a1 off el (yO z.cells len).toList 0 arr w R zOm aa;simp only[Nat.add_zero]at C;refine⟨_,_,?_,U,.tup [] #[] rfl zSp⟩;obtain⟨l,rfl⟩:∃ l,len=l+1:=⟨len-1,zOm⟩;simp only[builtin,Builtin.clear_,qT,Qf,Yy];simp[run_underlying hu,b2,C]
 | @delete t t' kt et b I k r ht T ar hf =>
  have r0:=hr 0 _ rfl;have r1:=hr 1 _ rfl;have a0:o=#[o.getD 0 xa,o.getD 1 xa]:=by
   have h2:o.size=2:=zUs hn;apply Array.ext
   .simpa using h2
   .intro i hi ag
    have:i=0\/i=1:=zOm;rcases this with rfl|rfl<;>simp[qH,hi]
  generalize o.getD 0 xa=u0 at *
  generalize o.getD 1 xa=u1 at *
  subst a0;have hu:=Zj ht;obtain⟨mb,a3,ce,rfl,hb,hh,ad,ae⟩:=Vi s r0 T;have au:(Instr.checkKey ce.isEmpty 10000 kt u1).run P w = .ok () w:=YQ _ r1 ar;have hg:=uQ (P:=P) hh;obtain⟨a5,b4⟩:=Qj r1 ar ad hf;have av:jU ce ce.size := .of rfl ae;cases r with
  |none =>
   refine⟨_,_,?_,Stp.putMapD s T zSp hb hh ad av,.tup [] #[] rfl zSp⟩;simp only[Option.map_none]at a5;simp[builtin,Builtin.delete_,run_underlying hu,hg,au,a5,wA hh]
  |some i =>
   refine⟨_,_,?_,Stp.putMapD s T zSp hb hh (qdY ad (b4 i rfl)) (qdX av i),.tup [] #[] rfl zSp⟩;simp only[zd]at a5;simp[builtin,Builtin.delete_,run_underlying hu,hg,au,a5,wA hh]
end
end Go.Ev
namespace Go.Ev
open Go Go.RowKit
section
variable {P:j1}
theorem kV{g:j2}{k:AV}{x:AV×AV}:∀{es:List (AV×AV)} {i:Nat} {r:Option Nat},zm P g k es i=some r->(r.isSome=true->zm P g k (es++[x]) i=some r)/\(r=none->zm P g k (es++[x]) i=zm P g k [x] (i+es.length))
 | [],i,r,h=>by
  simp[zm]at h;subst h;exact⟨fun h=>by simp at h,fun _=>zSp⟩
 |e :: es,i,r,h=>by
  unfold zm at h;split at h
  .rename_i j
   simp only[qp]at h;subst h;refine⟨fun _=>?_,fun h=>absurd h zSp⟩;rw[jd,zm,j]
  .rename_i j
   obtain⟨o,p⟩:=kV (x:=x) h;refine⟨fun l=>?_,fun l=>?_⟩
   .rw [jd,zm,j];exact o l
   .rw [jd,zm,j]
    simp only;rw[p l,zG];congr 1;omega
  .exact absurd h zSp
theorem kW{mu mu':Mu}{t:j2}{m k z R k' v:AV}(h:ZW P mu t m k=some (z,mu'))(g:jf P mu t R k' false=some v):jf P mu' t R k' false=some v:=by
 unfold ZW at h;split at h
 .rename_i b kt et ht
  split at h
  .rename_i I hm
   split at h
   .rename_i a0
    split at h
    ·
     rename_i i hf;obtain⟨_,e,he,a3⟩:=YR hf;simp only[Nat.sub_zero]at he;simp only[he,zd,qp,ul]at h;have e1:I.set i (k,e.2)=I:=by
      rw[a3];apply ui;intro j;rw[K9];split
      .rename_i C;subst C
       split
       .exact he.symm
       .rw [jj zOm]
      .rfl
     rw[e1]at h;have e2:mu.set b (.mp I)=mu:=by
      apply ui;intro j;rw[K9];split
      .rename_i C;subst C
       split
       .exact hm.symm
       .rw [jj zOm]
      .rfl
     rw[<-h.2,e2];exact g
    .rename_i hf
     cases T:qC P et with
     |none=>simp[T]at h
     |some U =>
      simp only[T,zd,qp,ul]at h;obtain⟨_,rfl⟩:=h;have a4:b<mu.length:=(qk.1 hm).1;unfold jf at g⊢;rw[ht]at g⊢
      have key:jI (mu.set b (.mp (I++[(k,U)]))) R=jI mu R\/(jI mu R=some I/\jI (mu.set b (.mp (I++[(k,U)]))) R=some (I++[(k,U)])):=by
       unfold jI;split
       .exact .inl rfl
       .rename_i b'
        by_cases l:b=b'
        .subst l
         rw[hm,List.getElem?_set_self a4];exact .inr ⟨rfl,rfl⟩
        .rw [List.getElem?_set_ne l];exact .inl rfl
       .exact .inl rfl
       .exact .inl rfl
      rcases key with key|⟨k1,k2⟩
      .rw [key];exact g
      .rw [k1]at g
       rw[k2];simp only at g⊢;split at g
       .rename_i p
        rw[if_pos p];cases J:zm P kt k' I 0 with
        |none=>rw[J]at g;simp at g
        |some r =>
         rw[J]at g;obtain⟨a1,a2⟩:=kV (x:=(k,U)) J;cases r with
         |some i =>
          rw[a1 rfl];simp only at g⊢;cases o:I[i]? with
          |none=>rw[o]at g;simp at g
          |some e =>
           rw[o]at g;rw[qo (qk.1 o).1,o];exact g
         |none =>
          rw[a2 rfl];simp only[T,zd]at g;obtain⟨bb,l⟩:=kP p a0;rw[zm,l];cases bb with
          |true =>
           simp only[yy];rw[zf (qm _),Nat.sub_self];simpa using g
          |false =>
           simp only[zm,T,zd];exact g
       .exact absurd g zSp
    .exact absurd h zSp
   .exact absurd h zSp
  .exact absurd h zSp
 .exact absurd h zSp
theorem qd7{mu mu':Mu}{t:j2}{m k z i k' v:AV}(h:ZW P mu t m k=some (z,mu'))(g:yg P mu t i k' false=some v):yg P mu' t i k' false=some v:=by
 cases i with
 |ims I =>
  simp only[yg]at g⊢;cases j:mapT P t with
  |none=>rw[j]at g;exact absurd g zSp
  |some q =>
   rw[j]at g;simp only at g⊢;split at g
   .rename_i l
    rw[if_pos l];exact kW h g
   .exact absurd g zSp
 |_=>exact kW h g
end
end Go.Ev
