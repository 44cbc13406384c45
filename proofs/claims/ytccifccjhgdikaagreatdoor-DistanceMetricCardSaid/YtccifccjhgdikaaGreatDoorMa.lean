/-
  Own library, part 1: an abstract reading of values and a calculus over it; contracts of functions; plain lemmas.
-/
import GoSem.Claim
import Derived.WalkKit
import Derived.Laws.AppendOwn
import Derived.Laws.CopyRow
import Derived.Below
import Derived.RangeFuncRecord
import Derived.Laws.BytesString
import Derived.IntWalk
import Derived.Lib.AppendZerosOnto
set_option linter.unusedVariables false
set_option linter.unusedSimpArgs false
set_option maxRecDepth 100000
open Option.some renaming injEq->qb
open List renaming getElem?_eq_some_iff->qc,range->qg,getElem?_append_left->qh,mem_map->qr,getElem?_eq_getElem->qs,all_eq_true->qt,mem_cons->qz,getElem?_append_right->qB,mem_of_getElem?->qC,getD_eq_getElem?_getD->qH,getElem?_map->qW,length_map->zr,getElem?_take->zu,length_append->zF,getElem?_drop->zH,length_cons->zN,append_assoc->zW,mem_of_mem_take->yb,eq_nil_of_length_eq_zero->yn,flatten_cons->yo,map_append->yC,getElem?_toArray->yE,replicate->yO,getElem?_cons_succ->y6,getElem?_cons_zero->uo,mem_flatten->wE
open Bool renaming and_eq_true->qe
open Array renaming getD_eq_getD_getElem?->qi,getElem?_eq_some_iff->qR,getElem?_toList->zI,getElem?_setIfInBounds_ne->vB,getElem?_push->VB
open Go.Sem renaming run_bind->ql,run_pure->qG
open Go.Result renaming andThen_ok->qm
open Nat renaming le_refl->qu,le_trans->zt,zero_add->zX
open Option renaming map_some->qw,map_eq_some_iff->zj
open Go.IntKind renaming i64->qJ
open Go.Builtin renaming zeroCells->za
open Prod.mk renaming injEq->yd
open List.cons renaming injEq->yF
namespace Go.Ev
open Go
def tabs:List (Nat×List Value):=[(0,[.int .u64 1,.int .u64 10,.int .u64 100,.int .u64 1000,.int .u64 10000,.int .u64 100000,.int .u64 1000000,.int .u64 10000000,.int .u64 100000000,.int .u64 1000000000,.int .u64 10000000000,.int .u64 100000000000,.int .u64 1000000000000,.int .u64 10000000000000,.int .u64 100000000000000,.int .u64 1000000000000000,.int .u64 10000000000000000,.int .u64 100000000000000000,.int .u64 1000000000000000000,.int .u64 10000000000000000000])]
end Go.Ev
namespace Go.Ev
open Go
inductive AV where
 |any
 |sc (v:Value)
 |lst (full:Bool) (xs:List (List AV))
 |sl (b sz off len:Nat)
 |agg (cs:List AV)
 |tup (vs:List AV)
 |ip (cs:List AV)
 |ptr (b off:Nat)
 |mp (b:Nat)
 |im (es:List (AV×AV))
 |ims (es:List (AV×AV))
 |fn (f:Fn) (first caps:List AV)
 |ifc (t:TypeId) (v:AV)
 |yl (b:Nat)
 deriving Inhabited
def ZC:Value->Bool
 | .bool _ | .int _ _ | .float _ _ | .complex _ _ _ | .string _ | .pointer none | .map none | .chan none | .nilFunc | .nilIface=>true
 | .tuple ⟨[]⟩=>true
 |_=>false
def ofC:Value->AV
 | .slice none 0 0 => .lst true []
 | .func f ⟨[]⟩ ⟨[]⟩ => .fn f [] []
 |v=>if ZC v then .sc v else .any
def ofV:Value->AV
 | .agg cs => .agg (cs.toList.map ofC)
 |v=>ofC v
def AV.cells:AV->List AV
 | .agg cs=>cs
 |v=>[v]
def AV.one:AV->Bool
 | .any | .agg _ | .tup _=>false
 | .sc v=>v.oneCell'
 |_=>true
structure Gh where
 imm:Nat->Prop
 blk:List (Nat×Nat)
structure Gh.le (G G':Gh):Prop where
 imm:∀ b,G.imm b->G'.imm b
 blk:∀(i:Nat) (x:Nat×Nat),G.blk[i]?=some x->G'.blk[i]?=some x
theorem Gh.le.refl(G:Gh):G.le G:=⟨fun _ h=>h,fun _ _ h=>h⟩
theorem Gh.le.trans{A B C:Gh}(h:A.le B)(k:B.le C):A.le C:=⟨fun b x=>k.imm b (h.imm b x),fun i x y=>k.blk i x (h.blk i x y)⟩
structure Ext (G:Gh) (h h':Array Obj):Prop where
 size:h.size<=h'.size
 keep:∀ b,G.imm b->h'[b]?=h[b]?
theorem Ext.refl(G:Gh)(h:Array Obj):Ext G h h:=⟨qu _,fun _ _=>rfl⟩
def PIx{α:Type}(σ τ:Nat->Nat)(es es':List α):Prop:=es'.length=es.length/\∀ k,k<es.length->σ k<es.length/\τ k<es.length/\τ (σ k)=k/\σ (τ k)=k/\es'[σ k]?=es[k]?
theorem PIx.refl{α:Type}(es:List α):PIx id id es es:=⟨rfl,fun k h=>⟨h,h,rfl,rfl,rfl⟩⟩
theorem PIx.back{α:Type}{σ τ:Nat->Nat}{es es':List α}(p:PIx σ τ es es'){j:Nat}(h:j<es.length):es'[j]?=es[τ j]?:=by
 obtain⟨h1,h2,h3,h4,h5⟩:=p.2 j h;have:=(p.2 (τ j) h2).2.2.2.2;rw[h4]at this;exact this
def zO(ce:Array MapEntry)(clock:Nat):Prop:=(∀(k:Nat) (e:MapEntry),ce[k]?=some e->e.born<clock)/\∀(j k:Nat) (e f:MapEntry),ce[j]?=some e->ce[k]?=some f->e.born=f.born->j=k
theorem zO.of{ce:Array MapEntry}{clock:Nat}(h1:clock=ce.size)(h2:∀(k:Nat) (e:MapEntry),ce[k]?=some e->e.born=k):zO ce clock:=
 ⟨fun k e h=>by rw[h2 k e h,h1];exact(qR.1 h).1,fun j k e f hj hk he=>by rw[<-h2 j e hj,<-h2 k f hk,he]⟩
inductive VRel (G:Gh) (h:Array Obj):AV->Value->Prop
 |any (v:Value):VRel G h .any v
 |sc (v:Value) (hv:ZC v=true):VRel G h (.sc v) v
 |nil (full:Bool):VRel G h (.lst full []) (.slice none 0 0)
 |emp (full:Bool) (a:Addr) (cap:Nat) (hc:full=true->cap=0):VRel G h (.lst full []) (.slice (some a) 0 cap)
 |lst (full:Bool) (xs:List (List AV)) (sz:Nat) (a:Addr) (cap:Nat) (cs:Array Value) (e:TypeId) (fr:Nat×Nat) (rd:Nat->Value)
   (hb:h[a.block]?=some (.cells cs e fr)) (hs:a.spot=none) (hl:xs.length<=cap) (hc:full=true->cap=xs.length) (hi:G.imm a.block)
   (hz:∀ r,r∈xs->r.length=sz)
   (hr:∀(k:Nat) x,xs.flatten[k]?=some x->cs[a.off+k]?=some (rd k))
   (hv:∀(k:Nat) x,xs.flatten[k]?=some x->VRel G h x (rd k)):VRel G h (.lst full xs) (.slice (some a) xs.length cap)
 |sl (b sz off len blk tot cap:Nat) (hb:G.blk[b]?=some (blk,tot)) (ht:off+cap*sz<=tot) (hl:len<=cap) :
   VRel G h (.sl b sz off len) (.slice (some ⟨blk,off,none⟩) len cap)
 |agg (cs:List AV) (vs:Array Value) (hn:vs.size=cs.length) (hv:∀(k:Nat) x,cs[k]?=some x->VRel G h x (vs.getD k undef)):VRel G h (.agg cs) (.agg vs)
 |tup (cs:List AV) (vs:Array Value) (hn:vs.size=cs.length) (hv:∀(k:Nat) x,cs[k]?=some x->VRel G h x (vs.getD k undef)):VRel G h (.tup cs) (.tuple vs)
 |ip (cs:List AV) (a:Addr) (arr:Array Value) (e:TypeId) (fr:Nat×Nat) (rd:Nat->Value)
   (hb:h[a.block]?=some (.cells arr e fr)) (hs:a.spot=none) (hi:G.imm a.block)
   (hr:∀(k:Nat) x,cs[k]?=some x->arr[a.off+k]?=some (rd k))
   (hv:∀(k:Nat) x,cs[k]?=some x->VRel G h x (rd k)):VRel G h (.ip cs) (.pointer (some a))
 |ptr (b off blk tot:Nat) (hb:G.blk[b]?=some (blk,tot)):VRel G h (.ptr b off) (.pointer (some ⟨blk,off,none⟩))
 |mp (b blk tot:Nat) (hb:G.blk[b]?=some (blk,tot)):VRel G h (.mp b) (.map (some blk))
 |im (es:List (AV×AV)) (blk:Nat) (ce:Array MapEntry) (clock:Nat) (hb:h[blk]?=some (.map ce clock)) (hi:G.imm blk) (hn:ce.size=es.length)
   (hk:∀(k:Nat) x,es[k]?=some x->VRel G h x.1 (ce.getD k default).key) (hv:∀(k:Nat) x,es[k]?=some x->VRel G h x.2 (ce.getD k default).val)
   (hd:zO ce clock):VRel G h (.im es) (.map (some blk))
 |ims (es es':List (AV×AV)) (σ τ:Nat->Nat) (v:Value) (hp:PIx σ τ es es') (hd:(es.map Prod.fst).Nodup) (r:VRel G h (.im es') v):VRel G h (.ims es) v
 |fn (f:Fn) (first caps:List AV) (vs ws:Array Value) (hn:vs.size=first.length) (hm:ws.size=caps.length)
   (hv:∀(k:Nat) x,first[k]?=some x->VRel G h x (vs.getD k undef)) (hw:∀(k:Nat) x,caps[k]?=some x->VRel G h x (ws.getD k undef)):VRel G h (.fn f first caps) (.func f vs ws)
 |ifc (t:TypeId) (x:AV) (v:Value) (hv:VRel G h x v):VRel G h (.ifc t x) (.iface t v)
 |yl (b blk tot:Nat) (hb:G.blk[b]?=some (blk,tot)):VRel G h (.yl b) (.func (.yield blk) #[] #[])
theorem VRel.mono{G G':Gh}{h h':Array Obj}(hg:G.le G')(he:Ext G h h'){x:AV}{v:Value}(r:VRel G h x v):VRel G' h' x v:=by
 induction r with
 |any v=>exact .any v
 |sc v hv=>exact .sc v hv
 |nil full=>exact .nil full
 |emp full a cap hc=>exact .emp full a cap hc
 |lst full xs sz a cap cs e fr rd hb hs hl hc hi hz hr hv ih=>exact .lst full xs sz a cap cs e fr rd (by rw[he.keep _ hi];exact hb) hs hl hc (hg.imm _ hi) hz hr ih
 |sl b sz off len blk tot cap hb ht hl=>exact .sl b sz off len blk tot cap (hg.blk _ _ hb) ht hl
 |agg cs vs hn hv ih=>exact .agg cs vs hn ih
 |tup cs vs hn hv ih=>exact .tup cs vs hn ih
 |ip cs a arr e fr rd hb hs hi hr hv ih=>exact .ip cs a arr e fr rd (by rw[he.keep _ hi];exact hb) hs (hg.imm _ hi) hr ih
 |ptr b off blk tot hb=>exact .ptr b off blk tot (hg.blk _ _ hb)
 |mp b blk tot hb=>exact .mp b blk tot (hg.blk _ _ hb)
 |im es blk ce clock hb hi hn hk hv hd ihk ihv=>exact .im es blk ce clock (by rw[he.keep _ hi];exact hb) (hg.imm _ hi) hn ihk ihv hd
 |ims es es' σ τ v hp hd r ih=>exact .ims es es' σ τ v hp hd ih
 |fn f first caps vs ws hn hm hv hw ihv ihw=>exact .fn f first caps vs ws hn hm ihv ihw
 |ifc t x v hv ih=>exact .ifc t x v ih
 |yl b blk tot hb=>exact .yl b blk tot (hg.blk _ _ hb)
theorem VRel.le{G G':Gh}{h:Array Obj}(hg:G.le G'){x:AV}{v:Value}(r:VRel G h x v):VRel G' h x v:=r.mono hg (.refl _ _)
theorem VRel.ext{G:Gh}{h h':Array Obj}(he:Ext G h h'){x:AV}{v:Value}(r:VRel G h x v):VRel G h' x v:=r.mono (.refl _) he
theorem VRel.ofC{G:Gh}{h:Array Obj}(v:Value):VRel G h (ofC v) v:=by
 unfold Ev.ofC;split
 .exact .nil true
 .exact .fn _ [] [] _ _ rfl rfl (by simp) (by simp)
 .split
  .rename_i hv;exact .sc v hv
  .exact .any v
theorem VRel.ofV{G:Gh}{h:Array Obj}(v:Value):VRel G h (ofV v) v:=by
 unfold Ev.ofV;split
 .rename_i cs
  refine .agg _ _ (by simp) ?_;intro k x hx;simp only[qW,zj,zI]at hx;obtain⟨v,hv,rfl⟩:=hx;have:cs.getD k undef=v:=by simp[qi,hv]
  rw[this];exact .ofC v
 .exact .ofC v
theorem VRel.one{G:Gh}{h:Array Obj}{x:AV}{v:Value}(r:VRel G h x v)(hx:x.one=true):v.oneCell'=true:=by
 cases r with
 |ims _ _ _ _ _ _ _ r=>cases r;rfl
 |_=>simp_all[AV.one,Value.oneCell']
theorem VD{v:Value}(h:v.oneCell'=true):v.cells=#[v]:=by
 cases v<;>simp_all[Value.cells,Value.oneCell']
theorem VRel.cells{G:Gh}{h:Array Obj}{x:AV}{v:Value}(r:VRel G h x v)(hx:∀ c,c∈x.cells->c.one=true) :
  v.cells.size=x.cells.length/\(∀(k:Nat) c,x.cells[k]?=some c->VRel G h c (v.cells.getD k undef))/\(∀ u,u∈v.cells.toList->u.oneCell'=true):=by
 by_cases ha:∃ cs,x = .agg cs
 .obtain ⟨cs,rfl⟩:=ha
  cases r with
  |agg _ vs hn hv =>
   refine⟨by simpa[Value.cells,AV.cells] using hn,by simpa[Value.cells,AV.cells] using hv,?_⟩;intro u hu;simp only[Value.cells]at hu;obtain⟨k,hk⟩:=List.mem_iff_getElem?.1 hu;rw[zI]at hk;have hlt:k<cs.length:=by
    have:=(qR.1 hk).1;omega
   have h1:=hv k cs[k] (by simp[hlt]);have:vs.getD k undef=u:=by simp[qi,hk]
   rw[this]at h1;exact h1.one (hx _ (by simp[AV.cells]))
 .have e:x.cells=[x]:=by cases x<;>simp_all[AV.cells]
  have h1:=r.one (hx x (by simp[e]));rw[VD h1,e];refine⟨rfl,?_,by simp[h1]⟩;intro k c hk;cases k with
  |zero=>simp at hk;subst hk;simpa using r
  |succ k=>simp at hk
inductive Cell where
 |arr (cells:List AV)
 |mp (es:List (AV×AV))
 |md (es:List (AV×AV))
 |it (es:List (AV×AV)) (seen:List Nat)
 |lp (r:Loop) (tm:Nat->AV)
 |dead
 deriving Inhabited
abbrev Mu:=List Cell
def Live(G:Gh)(mu:Mu)(b:Nat):Prop:=∃(i:Nat) (c:Cell) (tot:Nat),mu[i]?=some c/\c ≠ .dead/\G.blk[i]?=some (b,tot)
def yp(G:Gh)(h:Array Obj)(tot:Nat)(o:Obj):Cell->Prop
 | .arr cells=>∃ cs e,o = .cells cs e (0,0)/\cs.size=tot/\cells.length<=tot/\∀(j:Nat) x,cells[j]?=some x->x.one=true/\VRel G h x (cs.getD j undef)
 | .mp es=>∃ ce clock,o = .map ce clock/\ce.size=es.length/\(∀(k:Nat) x,es[k]?=some x->VRel G h x.1 (ce.getD k default).key)/\(∀(k:Nat) x,es[k]?=some x->VRel G h x.2 (ce.getD k default).val) /\
   clock=ce.size/\(∀(k:Nat) (e:MapEntry),ce[k]?=some e->e.born=k)
 | .md es=>∃ ce clock,o = .map ce clock/\ce.size=es.length/\(∀(k:Nat) x,es[k]?=some x->VRel G h x.1 (ce.getD k default).key)/\(∀(k:Nat) x,es[k]?=some x->VRel G h x.2 (ce.getD k default).val)/\zO ce clock
 | .it es seen=>(∃ m es' σ τ ce clk,VRel G h (.im es') (.map (some m))/\h[m]?=some (.map ce clk)/\G.imm m/\PIx σ τ es es'/\(∀ i,i∈seen->i<es.length)/\o = .mapIter (some m) clk (seen.map fun i=>(ce.getD (σ i) default).born).toArray clk)\/(es=[]/\o = .mapIter none 0 #[] 0)
 | .lp r tm=>o = .loop r/\∀ i,VRel G h (tm i) (r.tmps.getD i undef)
 | .dead=>True
theorem yp.mono{G G':Gh}{h h':Array Obj}(hg:G.le G')(he:Ext G h h'){tot:Nat}{o:Obj}{c:Cell}(r:yp G h tot o c):yp G' h' tot o c:=by
  cases c with
  |arr cells=>obtain⟨cs,e,h1,h2,h3,h4⟩:=r;exact⟨cs,e,h1,h2,h3,fun j x hx=>⟨(h4 j x hx).1,(h4 j x hx).2.mono hg he⟩⟩
  |mp es=>obtain⟨ce,cl,h1,h2,h3,h4,h5⟩:=r;exact⟨ce,cl,h1,h2,fun k x hx=>(h3 k x hx).mono hg he,fun k x hx=>(h4 k x hx).mono hg he,h5⟩
  |md es=>obtain⟨ce,cl,h1,h2,h3,h4,h5⟩:=r;exact⟨ce,cl,h1,h2,fun k x hx=>(h3 k x hx).mono hg he,fun k x hx=>(h4 k x hx).mono hg he,h5⟩
  | it es seen =>
                  rcases r with ⟨m,es',σ,τ,ce,clk,h1,h2,h3,h4⟩|r
                  · exact .inl ⟨m,es',σ,τ,ce,clk,h1.mono hg he,by rw[he.keep _ h3];exact h2,hg.imm _ h3,h4⟩
                  · exact .inr r
  |lp r1 tm=>exact⟨r.1,fun i=>(r.2 i).mono hg he⟩
  |dead=>trivial
theorem yp.le{G G':Gh}{h:Array Obj}(hg:G.le G'){tot:Nat}{o:Obj}{c:Cell}(r:yp G h tot o c):yp G' h tot o c:=r.mono hg (.refl _ _)
def jA(imm:Nat->Prop)(h:Array Obj):Prop:=∀ x,x∈tabs->imm x.1/\∃ e fr,h[x.1]?=some (.cells x.2.toArray e fr)
theorem jA.mono{imm imm':Nat->Prop}{h h':Array Obj}(t:jA imm h)(hi:∀ b,imm b->imm' b)(he:∀ b,imm b->h'[b]?=h[b]?):jA imm' h':=fun x hx=>by
 obtain⟨h1,e,fr,h2⟩:=t x hx;exact⟨hi _ h1,e,fr,by rw[he _ h1];exact h2⟩
structure Sim (G:Gh) (mu:Mu) (h:Array Obj):Prop where
 len:G.blk.length=mu.length
 imm:∀ b,G.imm b->b<h.size
 obj:∀(i:Nat) (c:Cell) blk tot,mu[i]?=some c->c ≠ .dead->G.blk[i]?=some (blk,tot)->∃ o,h[blk]?=some o/\yp G h tot o c
 live:∀(i:Nat) (c:Cell) blk tot,mu[i]?=some c->c ≠ .dead->G.blk[i]?=some (blk,tot)->¬G.imm blk
 inj:∀(i j:Nat) (ci cj:Cell) b ti tj,mu[i]?=some ci->mu[j]?=some cj->ci ≠ .dead->cj ≠ .dead->G.blk[i]?=some (b,ti)->G.blk[j]?=some (b,tj)->i=j
 tab:jA G.imm h
theorem Sim.bare{G:Gh}{mu:Mu}{h:Array Obj}(s:Sim G mu h):Sim ⟨G.imm,[]⟩ [] h:=
 ⟨rfl,s.imm,fun i c b t h=>by simp at h,fun i c b t h=>by simp at h,fun i j ci cj b t t' h=>by simp at h,s.tab⟩
theorem Sim.arr{G:Gh}{mu:Mu}{h:Array Obj}(s:Sim G mu h)(i:Nat)(cells:List AV)(blk tot:Nat)(hc:mu[i]?=some (.arr cells))(hk:G.blk[i]?=some (blk,tot)) :
  ∃ cs e,h[blk]?=some (.cells cs e (0,0))/\cs.size=tot/\cells.length<=tot/\∀(j:Nat) x,cells[j]?=some x->x.one=true/\VRel G h x (cs.getD j undef):=by
 obtain⟨o,ho,cs,e,rfl,h⟩:=s.obj i _ blk tot hc (by simp) hk;exact⟨cs,e,ho,h⟩
theorem Sim.mp{G:Gh}{mu:Mu}{h:Array Obj}(s:Sim G mu h)(i:Nat)(es:List (AV×AV))(blk tot:Nat)(hc:mu[i]?=some (.mp es))(hk:G.blk[i]?=some (blk,tot)) :
  ∃ ce clock,h[blk]?=some (.map ce clock)/\ce.size=es.length/\(∀(k:Nat) x,es[k]?=some x->VRel G h x.1 (ce.getD k default).key)/\(∀(k:Nat) x,es[k]?=some x->VRel G h x.2 (ce.getD k default).val) /\
   clock=ce.size/\(∀(k:Nat) (e:MapEntry),ce[k]?=some e->e.born=k):=by
 obtain⟨o,ho,ce,cl,rfl,h⟩:=s.obj i _ blk tot hc (by simp) hk;exact⟨ce,cl,ho,h⟩
theorem Sim.md{G:Gh}{mu:Mu}{h:Array Obj}(s:Sim G mu h)(i:Nat)(es:List (AV×AV))(blk tot:Nat)(hc:mu[i]?=some (.md es))(hk:G.blk[i]?=some (blk,tot)) :
  ∃ ce clock,h[blk]?=some (.map ce clock)/\ce.size=es.length/\(∀(k:Nat) x,es[k]?=some x->VRel G h x.1 (ce.getD k default).key)/\(∀(k:Nat) x,es[k]?=some x->VRel G h x.2 (ce.getD k default).val)/\zO ce clock:=by
 obtain⟨o,ho,ce,cl,rfl,h⟩:=s.obj i _ blk tot hc (by simp) hk;exact⟨ce,cl,ho,h⟩
theorem Sim.livesize{G:Gh}{mu:Mu}{h:Array Obj}(s:Sim G mu h){b:Nat}(l:Live G mu b):b<h.size:=by
 obtain⟨i,c,tot,hc,hd,hb⟩:=l;obtain⟨o,ho,_⟩:=s.obj i c b tot hc hd hb;exact(qR.1 ho).1
theorem Sim.all{G:Gh}{mu:Mu}{h:Array Obj}(s:Sim G mu h):Sim ⟨fun b=>G.imm b\/Live G mu b,[]⟩ [] h:=
 ⟨rfl,fun b h=>h.elim (s.imm b) (fun l=>s.livesize l),fun i c b t h=>by simp at h,fun i c b t h=>by simp at h,fun i j ci cj b t t' h=>by simp at h,s.tab.mono (fun b h => .inl h) (fun b h=>rfl)⟩
structure Stp (G:Gh) (mu:Mu) (w:World) (G':Gh) (mu':Mu) (w':World):Prop where
 le:G.le G'
 sim:Sim G' mu' w'.heap
 keep:∀ b,b<w.heap.size->¬Live G mu b->w'.heap[b]?=w.heap[b]?
 size:w.heap.size<=w'.heap.size
 live:∀ b,Live G' mu' b->Live G mu b\/w.heap.size<=b
 inew:∀ b,G'.imm b->G.imm b\/Live G mu b\/w.heap.size<=b
 tape:w'.tape=w.tape
 os:w'.os=w.os
 output:w'.output=w.output
 drawn:w.drawn<=w'.drawn
theorem Stp.ext{G G':Gh}{mu mu':Mu}{w w':World}(s:Sim G mu w.heap)(t:Stp G mu w G' mu' w'):Ext G w.heap w'.heap:=
 ⟨t.size,fun b hb=>t.keep b (s.imm b hb) (fun⟨i,c,tot,hc,hd,hk⟩=>s.live i c b tot hc hd hk hb)⟩
theorem Stp.vrel{G G':Gh}{mu mu':Mu}{w w':World}(s:Sim G mu w.heap)(t:Stp G mu w G' mu' w'){x:AV}{v:Value}(r:VRel G w.heap x v):VRel G' w'.heap x v:=
 r.mono t.le (t.ext s)
theorem Stp.refl{G:Gh}{mu:Mu}{w:World}(s:Sim G mu w.heap):Stp G mu w G mu w:=
 ⟨.refl G,s,fun _ _ _=>rfl,qu _,fun _ h => .inl h,fun _ h => .inl h,rfl,rfl,rfl,qu _⟩
theorem Stp.trans{A B C:Gh}{a b c:Mu}{u v w:World}(s:Sim A a u.heap)(h:Stp A a u B b v)(k:Stp B b v C c w):Stp A a u C c w:=by
 refine⟨h.le.trans k.le,k.sim,?_,zt h.size k.size,?_,?_,k.tape.trans h.tape,k.os.trans h.os,k.output.trans h.output,zt h.drawn k.drawn⟩
 .intro x hx hl
  rw[k.keep x (Nat.lt_of_lt_of_le hx h.size) (fun l=>(h.live x l).elim hl (fun g=>absurd hx (Nat.not_lt.2 g))),h.keep x hx hl]
 .intro x hx
  rcases k.live x hx with l|l
  .exact h.live x l
  .exact .inr (zt h.size l)
 .intro x hx
  rcases k.inew x hx with l|l|l
  .exact h.inew x l
  .exact .inr (h.live x l)
  .exact .inr (.inr (zt h.size l))
theorem Stp.drew{G:Gh}{mu:Mu}{w:World}(s:Sim G mu w.heap):Stp G mu w G mu w.drew:=
 ⟨.refl G,s,fun _ _ _=>rfl,qu _,fun _ h => .inl h,fun _ h => .inl h,rfl,rfl,rfl,Nat.le_succ _⟩
end Go.Ev
namespace Go.Ev
open Go Go.RowKit
theorem qO{α:Type}{l:List α}{a x:α}{i:Nat}(h:(l++[a])[i]?=some x):(i<l.length/\l[i]?=some x)\/(i=l.length/\x=a):=by
 rcases Nat.lt_trichotomy i l.length with hi|hi|hi
 .rw [qh hi]at h;exact .inl ⟨hi,h⟩
 .subst hi;simp at h;exact .inr ⟨rfl,h.symm⟩
 .rw [List.getElem?_eq_none (by simp;omega)]at h;exact absurd h (by simp)
theorem jB(w:World)(o:Obj)(b:Nat)(hb:b<w.heap.size):(w.alloc o).heap[b]?=w.heap[b]?:=Below.heap_alloc w o b hb
theorem uw(w:World)(o:Obj):(w.alloc o).heap[w.heap.size]?=some o:=by
 show (w.heap.push o)[w.heap.size]?=some o;simp
theorem wH{G:Gh}{mu:Mu}{w:World}(s:Sim G mu w.heap)(o:Obj):Ext G w.heap (w.alloc o).heap:=
 ⟨by simp,fun b hb=>jB w o b (s.imm b hb)⟩
theorem Stp.allocImm{G:Gh}{mu:Mu}{w:World}(s:Sim G mu w.heap)(o:Obj) :
  Stp G mu w ⟨fun b=>G.imm b\/b=w.heap.size,G.blk⟩ mu (w.alloc o):=by
 have hle:G.le ⟨fun b=>G.imm b\/b=w.heap.size,G.blk⟩:=⟨fun b h => .inl h,fun _ _ h=>h⟩;have he:=wH s o;have key:∀ b,Live G mu b->(w.alloc o).heap[b]?=w.heap[b]?:=fun b hb=>jB w o b (s.livesize hb)
 refine⟨hle,⟨s.len,?_,?_,?_,s.inj,s.tab.mono hle.imm he.keep⟩,fun b hb _=>jB w o b hb,by simp,fun b h => .inl h,fun b h=>h.elim .inl (fun e => .inr (.inr (by omega))),rfl,rfl,rfl,qu _⟩
 .intro b hb
  rcases hb with hb|hb
  .have:=s.imm b hb;simp;omega
  .simp;omega
 .intro i c blk tot hc hd hk
  obtain⟨o',h1,h2⟩:=s.obj i c blk tot hc hd hk;exact⟨o',by rw[key blk ⟨i,_,tot,hc,hd,hk⟩];exact h1,h2.mono hle he⟩
 .intro i c blk tot hc hd hk hi
  rcases hi with hi|hi
  .exact s.live i c blk tot hc hd hk hi
  .have:=s.livesize ⟨i,c,tot,hc,hd,hk⟩;omega
theorem Stp.allocNew{G:Gh}{mu:Mu}{w:World}(s:Sim G mu w.heap)(o:Obj)(c:Cell)(tot:Nat)
  (ha:c ≠ .dead->yp G w.heap tot o c) :
  Stp G mu w ⟨G.imm,G.blk++[(w.heap.size,tot)]⟩ (mu++[c]) (w.alloc o):=by
 have hle:G.le ⟨G.imm,G.blk++[(w.heap.size,tot)]⟩:=⟨fun b h=>h,fun i x h=>by
  have:i<G.blk.length:=(qc.1 h).1;show (G.blk++[_])[i]?=_;rw[qh this];exact h⟩
 have he:=wH s o;have key:∀ b,Live G mu b->(w.alloc o).heap[b]?=w.heap[b]?:=fun b hb=>jB w o b (s.livesize hb)
 have hlen:=s.len;refine⟨hle,⟨by simp[s.len],?_,?_,?_,?_,s.tab.mono hle.imm he.keep⟩,fun b hb _=>jB w o b hb,by simp,?_,fun b h => .inl h,rfl,rfl,rfl,qu _⟩
 .intro b hb
  have:=s.imm b hb;simp;omega
 .intro i c' blk tot' hc hd hk
  rcases qO hc with ⟨hi,hc'⟩|⟨hi,hc'⟩
  .have hk':G.blk[i]?=some (blk,tot'):=by
    rcases qO hk with ⟨_,h⟩|⟨h,_⟩
    .exact h
    .omega
   obtain⟨o',h1,h2⟩:=s.obj i c' blk tot' hc' hd hk';exact⟨o',by rw[key blk ⟨i,_,tot',hc',hd,hk'⟩];exact h1,h2.mono hle he⟩
  .have hk':(blk,tot')=(w.heap.size,tot):=by
    rcases qO hk with ⟨h,_⟩|⟨_,h⟩
    .omega
    .exact h
   obtain⟨rfl,rfl⟩:=Prod.mk.inj hk';subst hc';exact⟨o,uw w _,(ha hd).mono hle he⟩
 .intro i c' blk tot' hc hd hk himm
  rcases qO hc with ⟨hi,hc'⟩|⟨hi,hc'⟩
  .have hk':G.blk[i]?=some (blk,tot'):=by
    rcases qO hk with ⟨_,h⟩|⟨h,_⟩
    .exact h
    .omega
   exact s.live i c' blk tot' hc' hd hk' himm
  .have hk':(blk,tot')=(w.heap.size,tot):=by
    rcases qO hk with ⟨h,_⟩|⟨_,h⟩
    .omega
    .exact h
   have:=s.imm blk himm;obtain⟨rfl,_⟩:=Prod.mk.inj hk';omega
 .intro i j ci cj b ti tj hi hj hdi hdj hbi hbj
  rcases qO hi with ⟨hi1,hi2⟩|⟨hi1,hi2⟩<;>rcases qO hj with ⟨hj1,hj2⟩|⟨hj1,hj2⟩
  .have a:G.blk[i]?=some (b,ti):=by
    rcases qO hbi with ⟨_,h⟩|⟨h,_⟩
    .exact h
    .omega
   have c:G.blk[j]?=some (b,tj):=by
    rcases qO hbj with ⟨_,h⟩|⟨h,_⟩
    .exact h
    .omega
   exact s.inj i j ci cj b ti tj hi2 hj2 hdi hdj a c
  .have a:G.blk[i]?=some (b,ti):=by
    rcases qO hbi with ⟨_,h⟩|⟨h,_⟩
    .exact h
    .omega
   have c:(b,tj)=(w.heap.size,tot):=by
    rcases qO hbj with ⟨h,_⟩|⟨_,h⟩
    .omega
    .exact h
   have:=s.livesize ⟨i,ci,ti,hi2,hdi,a⟩;have:=(Prod.mk.inj c).1;omega
  .have a:G.blk[j]?=some (b,tj):=by
    rcases qO hbj with ⟨_,h⟩|⟨h,_⟩
    .exact h
    .omega
   have c:(b,ti)=(w.heap.size,tot):=by
    rcases qO hbi with ⟨h,_⟩|⟨_,h⟩
    .omega
    .exact h
   have:=s.livesize ⟨j,cj,tj,hj2,hdj,a⟩;have:=(Prod.mk.inj c).1;omega
  .omega
 .intro b hb
  obtain⟨i,c',t',hc,hd,hk⟩:=hb;rcases qO hc with ⟨hi,hc'⟩|⟨hi,hc'⟩
  .have hk':G.blk[i]?=some (b,t'):=by
    rcases qO hk with ⟨_,h⟩|⟨h,_⟩
    .exact h
    .omega
   exact .inl ⟨i,c',t',hc',hd,hk'⟩
  .have hk':(b,t')=(w.heap.size,tot):=by
    rcases qO hk with ⟨h,_⟩|⟨_,h⟩
    .omega
    .exact h
   exact .inr (by have:=(Prod.mk.inj hk').1;omega)
theorem zk{α:Type}{l:List α}{a x:α}{i j:Nat}(h:(l.set i a)[j]?=some x):(j=i/\x=a)\/(j≠i/\l[j]?=some x):=by
 rw[List.getElem?_set]at h;by_cases hij:i=j
 .subst hij
  rw[if_pos rfl]at h;split at h
  .exact .inl ⟨rfl,(Option.some.inj h).symm⟩
  .exact absurd h (by simp)
 .rw [if_neg hij]at h;exact .inr ⟨fun e=>hij e.symm,h⟩
theorem Stp.write{G:Gh}{mu:Mu}{w w':World}(s:Sim G mu w.heap)(i:Nat)(c:Cell)(c':Cell)(blk tot:Nat)(o:Obj)
  (hc:mu[i]?=some c) (hd:c ≠ .dead) (hd':c' ≠ .dead) (hk:G.blk[i]?=some (blk,tot))
  (hw:w'.heap.size=w.heap.size) (ho:w'.heap[blk]?=some o) (hother:∀ b,b≠blk->w'.heap[b]?=w.heap[b]?)
  (ht:w'.tape=w.tape) (hos:w'.os=w.os) (hout:w'.output=w.output)
  (ha:yp G w.heap tot o c') (hdr:w.drawn<=w'.drawn:=by exact qu _) :
  Stp G mu w G (mu.set i c') w':=by
 have hlv:Live G mu blk:=⟨i,c,tot,hc,hd,hk⟩;have he:Ext G w.heap w'.heap:=⟨by omega,fun b hb=>hother b (fun e=>by subst e;exact s.live i c b tot hc hd hk hb)⟩;have hne:∀(j:Nat) (cj:Cell) b t,j≠i->mu[j]?=some cj->cj ≠ .dead->G.blk[j]?=some (b,t)->b≠blk:=by
  intro j cj b t hj hcj hdj hkj e;subst e;exact hj (s.inj j i cj c b t tot hcj hc hdj hd hkj hk)
 refine⟨.refl G,⟨by simpa using s.len,?_,?_,?_,?_,s.tab.mono (fun _ h=>h) he.keep⟩,?_,by omega,?_,fun b h => .inl h,ht,hos,hout,hdr⟩
 .intro b hb;have:=s.imm b hb;omega
 .intro j cj b t hcj hdj hkj
  rcases zk hcj with ⟨rfl,hx⟩|⟨hj,hx⟩
  .rw [hk]at hkj
   obtain⟨rfl,rfl⟩:=Prod.mk.inj (Option.some.inj hkj);subst hx;exact⟨o,ho,ha.mono (.refl G) he⟩
  .obtain ⟨o',h1,h2⟩:=s.obj j cj b t hx hdj hkj
   exact⟨o',by rw[hother b (hne j _ b t hj hx hdj hkj)];exact h1,h2.mono (.refl G) he⟩
 .intro j cj b t hcj hdj hkj
  rcases zk hcj with ⟨rfl,hx⟩|⟨hj,hx⟩
  .rw [hk]at hkj
   obtain⟨rfl,rfl⟩:=Prod.mk.inj (Option.some.inj hkj);exact s.live j c _ _ hc hd hk
  .exact s.live j cj b t hx hdj hkj
 .intro a b ca cb blk' ta tb hca hcb hda hdb hka hkb
  rcases zk hca with ⟨rfl,hx⟩|⟨hj,hx⟩<;>rcases zk hcb with ⟨rfl,hy⟩|⟨hj',hy⟩
  .rfl
  .exact s.inj a b c cb blk' ta tb hc hy hd hdb hka hkb
  .exact s.inj a b ca c blk' ta tb hx hc hda hd hka hkb
  .exact s.inj a b ca cb blk' ta tb hx hy hda hdb hka hkb
 .intro b hb hl
  exact hother b (fun e=>hl (e ▸ hlv))
 .intro b hb
  obtain⟨j,cj,t,hcj,hdj,hkj⟩:=hb;rcases zk hcj with ⟨rfl,hx⟩|⟨hj,hx⟩
  .exact .inl ⟨j,c,t,hc,hd,hkj⟩
  .exact .inl ⟨j,cj,t,hx,hdj,hkj⟩
theorem Stp.freeze{G:Gh}{mu:Mu}{w:World}(s:Sim G mu w.heap)(i:Nat)(c:Cell)(blk tot:Nat)(hc:mu[i]?=some c)(hd:c ≠ .dead)(hk:G.blk[i]?=some (blk,tot)) :
  Stp G mu w ⟨fun b=>G.imm b\/b=blk,G.blk⟩ (mu.set i .dead) w:=by
 have hlv:Live G mu blk:=⟨i,c,tot,hc,hd,hk⟩;have hle:G.le ⟨fun b=>G.imm b\/b=blk,G.blk⟩:=⟨fun b h => .inl h,fun _ _ h=>h⟩;refine⟨hle,⟨by simpa using s.len,?_,?_,?_,?_,s.tab.mono hle.imm (fun _ _=>rfl)⟩,fun _ _ _=>rfl,qu _,?_,fun b h=>h.elim .inl (fun e => .inr (.inl (e ▸ hlv))),rfl,rfl,rfl,qu _⟩
 .intro b hb
  rcases hb with hb|hb
  .exact s.imm b hb
  .subst hb;exact s.livesize hlv
 .intro j cj b t hcj hdj hkj
  rcases zk hcj with ⟨rfl,hx⟩|⟨hj,hx⟩
  .exact absurd hx hdj
  .obtain ⟨o',h1,h2⟩:=s.obj j cj b t hx hdj hkj
   exact⟨o',h1,h2.le hle⟩
 .intro j cj b t hcj hdj hkj hi
  rcases zk hcj with ⟨rfl,hx⟩|⟨hj,hx⟩
  .exact hdj hx
  .rcases hi with hi|hi
   .exact s.live j cj b t hx hdj hkj hi
   .subst hi;exact hj (s.inj j i cj c b t tot hx hc hdj hd hkj hk)
 .intro a b ca cb blk' ta tb hca hcb hda hdb hka hkb
  rcases zk hca with ⟨rfl,hx⟩|⟨hj,hx⟩
  .exact absurd hx hda
  .rcases zk hcb with ⟨rfl,hy⟩|⟨hj',hy⟩
   .exact absurd hy hdb
   .exact s.inj a b ca cb blk' ta tb hx hy hda hdb hka hkb
 .intro b hb
  obtain⟨j,cj,t,hcj,hdj,hkj⟩:=hb;rcases zk hcj with ⟨rfl,hx⟩|⟨hj,hx⟩
  .exact absurd hx hdj
  .exact .inl ⟨j,cj,t,hx,hdj,hkj⟩
theorem Stp.kill{G:Gh}{mu:Mu}{w:World}(s:Sim G mu w.heap)(i:Nat):Stp G mu w G (mu.set i .dead) w:=by
 refine⟨.refl G,⟨by simpa using s.len,s.imm,?_,?_,?_,s.tab⟩,fun _ _ _=>rfl,qu _,?_,fun b h => .inl h,rfl,rfl,rfl,qu _⟩
 .intro j cj b t hcj hdj hkj
  rcases zk hcj with ⟨rfl,hx⟩|⟨hj,hx⟩
  .exact absurd hx hdj
  .exact s.obj j cj b t hx hdj hkj
 .intro j cj b t hcj hdj hkj hi
  rcases zk hcj with ⟨rfl,hx⟩|⟨hj,hx⟩
  .exact hdj hx
  .exact s.live j cj b t hx hdj hkj hi
 .intro a b ca cb blk' ta tb hca hcb hda hdb hka hkb
  rcases zk hca with ⟨rfl,hx⟩|⟨hj,hx⟩
  .exact absurd hx hda
  .rcases zk hcb with ⟨rfl,hy⟩|⟨hj',hy⟩
   .exact absurd hy hdb
   .exact s.inj a b ca cb blk' ta tb hx hy hda hdb hka hkb
 .intro b hb
  obtain⟨j,cj,t,hcj,hdj,hkj⟩:=hb;rcases zk hcj with ⟨rfl,hx⟩|⟨hj,hx⟩
  .exact absurd hx hdj
  .exact .inl ⟨j,cj,t,hx,hdj,hkj⟩
end Go.Ev
namespace Go.Ev
open Go Go.RowKit
def szOf(P:Program)(t:TypeId):Option Nat:=(P.info? t).map (·.size)
def qP(P:Program)(t:TypeId):Option Bool:=(P.underlying t).map fun | .struct _ | .array .. => true|_=>false
def qn(P:Program)(t:TypeId):Option AV:=((P.info? t).bind (·.zero)).map ofV
def qp(P:Program)(t:TypeId):Option (TypeId×Nat×Nat):=
 match P.underlying t with
 |some (.slice e)=>(P.info? e).map fun i=>(e,i.size,i.bytes)
 |_=>none
def q7(P:Program)(s f:Nat):Option (Nat×TypeId×Nat):=
 match P.underlying s with
 |some (.struct fs)=>(fs[f]?).bind fun fd=>match szOf P fd.type with|some (n+1)=>some (fd.offset,fd.type,n+1)|_=>none
 |_=>none
def vD(P:Program)(t:TypeId):Option (Nat×TypeId×Nat):=
 match P.underlying t with
 |some (.array n e)=>(szOf P e).map fun k=>(n,e,k)
 |_=>none
theorem ux{P:Program}{t:TypeId}{b:Bool}(h:qP P t=some b)(w:World):(isAgg t).run P w = .ok b w:=by
 unfold qP at h;cases hu:P.underlying t with
 |none=>simp[hu]at h
 |some d =>
  simp only[hu,qw,qb]at h;subst h;simp only[isAgg,ql,run_underlying hu,Result.andThen];cases d<;>rfl
theorem zl{P:Program}{t:TypeId}{n:Nat}(h:szOf P t=some n)(w:World):(sizeOf t).run P w = .ok n w:=by
 unfold szOf at h;cases hu:P.info? t with
 |none=>simp[hu]at h
 |some d =>
  simp only[hu,qw,qb]at h;subst h;simp[sizeOf,typeInfo,hu]
theorem jC{P:Program}{t:TypeId}{x:AV}(h:qn P t=some x)(w:World):∃ v,(zeroValue t).run P w = .ok v w/\x=ofV v:=by
 unfold qn at h;cases hu:P.info? t with
 |none=>simp[hu]at h
 |some d =>
  simp only[hu,Option.bind_some,zj]at h;obtain⟨v,hv,rfl⟩:=h;exact⟨v,by simp[zeroValue,typeInfo,hu,hv],rfl⟩
theorem jD{w:World}{a:Addr}{cs:Array Value}{e:TypeId}{fr:Nat×Nat}(hb:w.heap[a.block]?=some (.cells cs e fr))(hs:a.spot=none)(k:Nat) :
  w.cell? (a.add k)=cs[a.off+k]?:=by
 unfold Addr.add;split
 .rename_i h;subst h;simp[World.cell?,hb,hs]
 .simp [World.cell?,hb]
@[go_sem] def ye(mu:Mu):AV->Nat->Option (List AV)
 | .ip cs,n=>if n<=cs.length then some (cs.take n) else none
 | .ptr b off,n=>match mu[b]? with
  |some (.arr cells)=>if off+n<=cells.length then some ((cells.drop off).take n) else none
  |_=>none
 |_,_=>none
theorem ZD{G:Gh}{mu:Mu}{w:World}(s:Sim G mu w.heap){p:AV}{v:Value}(r:VRel G w.heap p v){n:Nat}{cs:List AV}(h:ye mu p n=some cs) :
  ∃(a:Addr) (rd:Nat->Value),v = .pointer (some a)/\cs.length=n/\∀(k:Nat) x,cs[k]?=some x->w.cell? (a.add k)=some (rd k)/\VRel G w.heap x (rd k):=by
 cases r with
 |ip cs' a arr e fr rd hb hs hi hr hv =>
  simp only[ye]at h;split at h
  .rename_i hn
   simp only[qb]at h;subst h;refine⟨a,rd,rfl,by simp;omega,fun k x hx=>?_⟩;have hx':cs'[k]?=some x:=by
    rw[zu]at hx;split at hx
    .exact hx
    .exact absurd hx (by simp)
   exact⟨by rw[jD hb hs];exact hr k x hx',hv k x hx'⟩
  .exact absurd h (by simp)
 |ptr b off blk tot hb =>
  simp only[ye]at h;split at h
  .rename_i cells hc
   obtain⟨arr,e,h1,h2,h3,h4⟩:=s.arr b cells blk tot hc hb;split at h
   .rename_i hn
    simp only[qb]at h;subst h;refine⟨⟨blk,off,none⟩,fun k=>arr.getD (off+k) undef,rfl,by simp;omega,fun k x hx=>?_⟩;have hx':cells[off+k]?=some x:=by
     rw[zu]at hx;split at hx
     .rwa [zH]at hx
     .exact absurd hx (by simp)
    refine⟨?_,(h4 _ _ hx').2⟩;rw[jD (a:=⟨blk,off,none⟩) h1 rfl];have hlt:off+k<cells.length:=(qc.1 hx').1;have:off+k<arr.size:=by omega
    simp[qi,this]
   .exact absurd h (by simp)
  .exact absurd h (by simp)
 |_=>exact absurd h (by simp[ye])
@[go_sem] def yR(P:Program)(mu:Mu)(t:TypeId)(p:AV):Option AV:=
 match qP P t,szOf P t with
 |some true,some n=>(ye mu p n).map .agg
 |some false,some _=>(ye mu p 1).bind fun | [x]=>some x|_=>none
 |_,_=>none
theorem ZE{P:Program}{G:Gh}{mu:Mu}{w:World}(s:Sim G mu w.heap){t:TypeId}{p:AV}{v:Value}(r:VRel G w.heap p v){x:AV}(h:yR P mu t p=some x) :
  ∃ a u,v = .pointer (some a)/\(loadVar t a).run P w = .ok u w/\VRel G w.heap x u:=by
 unfold yR at h;split at h
 .rename_i n ha hn
  cases hm:ye mu p n with
  |none=>simp[hm]at h
  |some cs =>
   simp only[hm,qw,qb]at h;subst h;obtain⟨a,rd,rfl,hl,hk⟩:=ZD s r hm;have hrun:=run_loadCells (P:=P) w a n rd (fun j hj=>(hk j cs[j] (by simp[hl,hj])).1);refine⟨a,.agg ((qg n).map rd).toArray,rfl,?_,?_⟩
   .simp [loadVar,ux ha,zl hn,hrun]
   .refine .agg _ _ (by simp[hl]) (fun k x hx=>?_)
    have hlt:k<n:=by rw[<-hl];exact(qc.1 hx).1
    have:(((qg n).map rd).toArray).getD k undef=rd k:=by simp[qi,hlt]
    rw[this];exact(hk k x hx).2
 .rename_i n ha hn
  cases hm:ye mu p 1 with
  |none=>simp[hm]at h
  |some cs =>
   simp only[hm,Option.bind_some]at h
   match cs,hm,h with
   | [y],hm,h =>
    simp only[qb]at h;subst h;obtain⟨a,rd,rfl,hl,hk⟩:=ZD s r hm;have h0:=hk 0 y rfl;rw[show a.add 0=a by simp[Addr.add]]at h0;exact⟨a,rd 0,rfl,by simp[loadVar,ux ha,h0.1],h0.2⟩
 .exact absurd h (by simp)
def zJ(cells:List AV)(off:Nat)(xs:List AV):List AV:=
 match xs with
 | [x]=>cells.set off x
 |xs=>cells.take off++xs++cells.drop (off+xs.length)
@[go_sem] theorem KL(z:List AV)(o:Nat)(x:AV):zJ z o [x]=z.set o x:=rfl
@[go_sem] theorem KM(z:List AV)(o:Nat)(x y:AV)(l:List AV):zJ z o (x :: y :: l)=z.take o++(x :: y :: l)++z.drop (o+(x :: y :: l).length):=rfl
@[go_sem] theorem KN(z:List AV)(o:Nat):zJ z o []=z.take o++[]++z.drop (o+0):=rfl
theorem yS(cells:List AV)(off:Nat)(xs:List AV)(h:off+xs.length<=cells.length):zJ cells off xs=cells.take off++xs++cells.drop (off+xs.length):=by
 unfold zJ;split
 .rename_i x
  simp at h;rw[List.set_eq_take_append_cons_drop,if_pos (by omega)];simp
 .rfl
@[go_sem] def vE(P:Program)(mu:Mu)(t:TypeId)(p x:AV):Option Mu:=
 match p,szOf P t with
 | .ptr b off,some n=>match mu[b]? with
  |some (.arr cells)=>if x.cells.length=n/\off+n<=cells.length/\x.cells.all AV.one=true then some (mu.set b (.arr (zJ cells off x.cells))) else none
  |_=>none
 |_,_=>none
theorem VE{cs:Array Value}{k:Nat}{v:Value}(h:cs[k]?=some v):cs.getD k undef=v:=by simp[qi,h]
theorem VF{P:Program}{G:Gh}{mu mu':Mu}{w:World}(s:Sim G mu w.heap){t:TypeId}{p x:AV}{v u:Value}(r:VRel G w.heap p v)(rx:VRel G w.heap x u)(h:vE P mu t p x=some mu') :
  ∃ a w',v = .pointer (some a)/\(storeVar t a u).run P w = .ok () w'/\Stp G mu w G mu' w':=by
 unfold vE at h;split at h
 .rename_i b off n hn
  split at h
  .rename_i cells hc
   split at h
   .rename_i hcond
    obtain⟨hxn,hoff,hone⟩:=hcond;simp only[qb]at h;subst h;cases r with
    |ptr _ _ blk tot hb =>
     obtain⟨arr,e,h1,h2,h3,h4⟩:=s.arr b cells blk tot hc hb;obtain⟨hsz,hcells,hones⟩:=rx.cells (fun c hcm=>by simpa using qt.1 hone c hcm);have hrun:=run_storeCells_at P blk off e u.cells.toList 0 arr w h1 (by simp[hsz];omega) hones;simp only[Nat.add_zero]at hrun;refine⟨⟨blk,off,none⟩,w.setRow blk (arr.toList.take off++u.cells.toList++arr.toList.drop (off+u.cells.toList.length)).toArray,rfl,?_,?_⟩
     .simp only[storeVar,ql,zl hn,qm]
      rw[if_neg (by rw[hsz,hxn];simp)];simpa using hrun
     .refine Stp.write s b (.arr cells) _ blk tot (.cells (arr.toList.take off++u.cells.toList++arr.toList.drop (off+u.cells.toList.length)).toArray e (0,0)) hc (by simp) (by simp) hb (by simp) (setRow_heap w blk arr _ e _ h1)
       (fun k hk=>setRow_other w blk k _ hk) rfl rfl rfl ?_
      have hul:u.cells.toList.length=n:=by simp[hsz,hxn]
      refine⟨_,e,rfl,by simp[hsz];omega,by rw[yS _ _ _ (by omega)];simp;omega,?_⟩;intro j y hj;rw[yS _ _ _ (by omega)]at hj;rw[zW]at hj;by_cases hj1:j<off
      .rw [qh (by simp;omega),zu,if_pos hj1]at hj
       have:=h4 j y hj;refine⟨this.1,?_⟩;have e1:(((arr.toList.take off++u.cells.toList++arr.toList.drop (off+u.cells.toList.length)).toArray).getD j undef)=arr.getD j undef:=by
        simp only[qi,yE,zW];rw[qh (by simp;omega),zu,if_pos hj1,zI]
       rw[e1];exact this.2
      .rw [qB (by simp;omega)]at hj
       have hmin:(cells.take off).length=off:=by simp;omega
       rw[hmin]at hj;by_cases hj2:j-off<n
       .rw [qh (by omega)]at hj
        refine⟨by simpa using qt.1 hone y (qC hj),?_⟩;have:=hcells (j-off) y hj;have e1:(((arr.toList.take off++u.cells.toList++arr.toList.drop (off+u.cells.toList.length)).toArray).getD j undef)=u.cells.getD (j-off) undef:=by
         simp only[qi,yE,zW];rw[qB (by simp;omega)];have:(arr.toList.take off).length=off:=by simp;omega
         rw[this,qh (by omega),zI]
        rw[e1];exact this
       .rw [qB (by omega),zH,hxn]at hj
        have hj':cells[j]?=some y:=by rw[<-hj];congr 1;omega
        have:=h4 j y hj';refine⟨this.1,?_⟩;have e1:(((arr.toList.take off++u.cells.toList++arr.toList.drop (off+u.cells.toList.length)).toArray).getD j undef)=arr.getD j undef:=by
         simp only[qi,yE,zW];rw[qB (by simp;omega)];have:(arr.toList.take off).length=off:=by simp;omega
         rw[this,qB (by omega),zH,zI,hul];congr 2;omega
        rw[e1];exact this.2
   .exact absurd h (by simp)
  .exact absurd h (by simp)
 .exact absurd h (by simp)
end Go.Ev
namespace Go.Ev
open Go Go.RowKit
def Good(P:Program)(G:Gh)(mu:Mu)(w:World)(s:Sem Value)(x:AV)(mu':Mu):Prop:=
 ∃ v w' G',s.run P w = .ok v w'/\Stp G mu w G' mu' w'/\VRel G' w'.heap x v
theorem Good.quiet{P:Program}{G:Gh}{mu:Mu}{w:World}(s:Sim G mu w.heap){c:Sem Value}{x:AV}{v:Value}(h:c.run P w = .ok v w)(r:VRel G w.heap x v):Good P G mu w c x mu:=
 ⟨v,w,G,h,.refl s,r⟩
theorem wI{xs:List (List AV)}{sz:Nat}:(∀ r,r∈xs->r.length=sz)->∀{i k:Nat} {r:List AV} {x:AV},xs[i]?=some r->r[k]?=some x->xs.flatten[i*sz+k]?=some x:=by
 induction xs with
 |nil=>intro _ i k r x h;simp at h
 |cons y ys ih =>
  intro hz i k r x h hx;have hy:=hz y (by simp);cases i with
  |zero =>
   simp at h;subst h;have:k<y.length:=(qc.1 hx).1;simp only[yo,Nat.zero_mul,zX];rw[qh this];exact hx
  |succ i =>
   simp only[y6]at h;have:=ih (fun r hr=>hz r (by simp[hr])) h hx;simp only[yo];rw[qB (by rw[hy,Nat.succ_mul];omega),hy,<-this];congr 1;rw[Nat.succ_mul];omega
theorem zd{xs:List (List AV)}{sz:Nat}(h:∀ r,r∈xs->r.length=sz):xs.flatten.length=xs.length*sz:=by
 induction xs with
 |nil=>simp
 |cons y ys ih =>
  simp only[yo,zF,zN,h y (by simp),ih (fun r hr=>h r (by simp[hr])),Nat.succ_mul];omega
@[go_sem] def aInt(op:BinOp)(k:IntKind)(a b:Int):Option AV:=
 match op with
 | .add=>some (.sc (.int k (k.wrap (a+b))))
 | .sub=>some (.sc (.int k (k.wrap (a-b))))
 | .mul=>some (.sc (.int k (k.wrap (a*b))))
 | .quo=>if b=0 then none else some (.sc (.int k (k.wrap (a.tdiv b))))
 | .rem=>if b=0 then none else some (.sc (.int k (a.tmod b)))
 | .eql=>some (.sc (.bool (a == b)))
 | .neq=>some (.sc (.bool (a != b)))
 | .lss=>some (.sc (.bool (decide (a<b))))
 | .leq=>some (.sc (.bool (decide (a<=b))))
 | .gtr=>some (.sc (.bool (decide (a > b))))
 | .geq=>some (.sc (.bool (decide (a>=b))))
 |_=>none
@[go_sem] def aStr(op:BinOp)(x y:ByteArray):Option AV:=
 match op with
 | .eql=>some (.sc (.bool (x.toList == y.toList)))
 | .neq=>some (.sc (.bool (!(x.toList == y.toList))))
 | .lss=>some (.sc (.bool (Op.bytesLess x.toList y.toList)))
 | .add=>if x.size+y.size<=9223372036854775807 then some (.sc (.string (x++y))) else none
 |_=>none
@[go_sem] def aEqs:List AV->List AV->Option Bool
 | [],[]=>some true
 | .sc (.int k a) :: xs,.sc (.int k' b) :: ys=>if k=k' then (if a == b then aEqs xs ys else some false) else none
 |_,_=>none
def wJ(P:Program)(t:TypeId):Bool:=match P.underlying t with|some .bool=>true|_=>false
def ZF(P:Program)(t:TypeId):Bool:=match P.underlying t with|some (.int _)=>true|_=>false
def j0(P:Program):List Field->Nat->Bool
  | [],_=>true
  | f :: fs, i => f.offset == i && f.name != "_" && ZF P f.type && j0 P fs (i + 1)
def wK(P:Program)(t:TypeId):Option Nat:=
 match P.underlying t with
 |some (.struct fs)=>if j0 P fs.toList 0=true/\P.stoodInHeld t=false/\P.eqGuardType P.depth t=false then some fs.size else none
 |some (.array n e)=>match P.underlying e,szOf P e with
  |some (.int _),some 1=>if P.eqGuardType P.depth t=false then some n else none
  |_,_=>none
 |_=>none
def ZG(P:Program)(t:TypeId):Bool:=match P.underlying t with|some (.interface _)=>true|_=>false
def wL(P:Program)(t:TypeId):Bool:=match P.underlying t with|some (.interface ms)=>ms.isEmpty|_=>false
def j1(P:Program)(t:TypeId):Bool:=match P.underlying t with|some (.pointer _)=>true|_=>false
@[go_sem] def ZH(op:BinOp)(k:IntKind)(a b:Int):Option AV:=
 if b<0 then none else match op with
  | .shl=>some (.sc (.int k (k.wrap (a*2 ^ (min b.toNat k.bits)))))
  | .shr=>some (.sc (.int k (a.fdiv (2 ^ (min b.toNat k.bits)))))
  |_=>none
@[go_sem] def aBin(P:Program)(op:BinOp)(t:TypeId)(x y:AV):Option AV:=
 match x,y with
 | .sc (.int k a),.sc (.int k' b)=>if op = .shl\/op = .shr then ZH op k a b else if k=k' then aInt op k a b else none
 | .sc (.bool a),.sc (.bool b)=>if wJ P t=true then (match op with | .eql=>some (.sc (.bool (a == b))) | .neq=>some (.sc (.bool (!(a == b))))|_=>none) else none
 | .sc (.string a),.sc (.string b)=>aStr op a b
 | .ifc _ _,.sc .nilIface=>if ZG P t=true then (match op with | .eql=>some (.sc (.bool false)) | .neq=>some (.sc (.bool true))|_=>none) else none
 | .sc .nilIface,.sc .nilIface=>if wL P t=true then (match op with | .eql=>some (.sc (.bool true)) | .neq=>some (.sc (.bool false))|_=>none) else none
 | .sc (.pointer none),.sc (.pointer none)=>if j1 P t=true then (match op with | .eql=>some (.sc (.bool true)) | .neq=>some (.sc (.bool false))|_=>none) else none
 | .ip _,.sc (.pointer none)=>if j1 P t=true then (match op with | .eql=>some (.sc (.bool false)) | .neq=>some (.sc (.bool true))|_=>none) else none
 | .ptr _ _,.sc (.pointer none)=>if j1 P t=true then (match op with | .eql=>some (.sc (.bool false)) | .neq=>some (.sc (.bool true))|_=>none) else none
 |_,_=>none
theorem VG{P:Program}{w:World}{k:IntKind}{a b:Int}(hb:¬b=0):(Op.intDiv .quo k a b).run P w=(Pure.pure (.int k (k.wrap (a.tdiv b))):Sem Value).run P w:=by
 unfold Op.intDiv;rw[if_neg hb]
theorem VH{P:Program}{w:World}{k:IntKind}{a b:Int}(hb:¬b=0):(Op.intDiv .rem k a b).run P w=(Pure.pure (.int k (a.tmod b)):Sem Value).run P w:=by
 unfold Op.intDiv;rw[if_neg hb]
theorem VI{P:Program}{w:World}(d:Nat){t u:TypeId}{x:Value}{ms:Array (String×TypeId)}(hu:P.underlying t=some (.interface ms)) :
  (Op.equalIn (d+1) t (.iface u x) .nilIface).run P w = .ok false w:=by
 simp[Op.equalIn,run_underlying hu]
theorem VJ{P:Program}{w:World}(d:Nat){t:TypeId}{ms:Array (String×TypeId)}(hu:P.underlying t=some (.interface ms)) :
  (Op.equalIn (d+1) t .nilIface .nilIface).run P w = .ok true w:=by
 simp[Op.equalIn,run_underlying hu]
theorem VK{P:Program}{w:World}(d:Nat){t:TypeId}{ms:Array (String×TypeId)}(hu:P.underlying t=some (.interface ms))(he:ms.isEmpty=true) :
  (Op.eqGuardIn (d+1) t .nilIface .nilIface).run P w = .ok false w:=by
 simp[Op.eqGuardIn,run_underlying hu,he]
theorem VL{P:Program}{w:World}(d:Nat){t e:TypeId}{a:Option Addr}(hu:P.underlying t=some (.pointer e)) :
  (Op.equalIn (d+1) t (.pointer a) (.pointer none)).run P w = .ok a.isNone w:=by
 cases a<;>simp[Op.equalIn,run_underlying hu]
theorem VM{P:Program}{t:TypeId}(h:j1 P t=true):∃ e,P.underlying t=some (.pointer e):=by
 unfold j1 at h;split at h
 .exact ⟨_,by assumption⟩
 .exact absurd h (by simp)
theorem wM{P:Program}{op:BinOp}{t:TypeId}{ox oy:Operand}{w:World}{a:Option Addr}{b c:Bool}(ht:j1 P t=true)(hb:a.isNone=b)(hc:(!b)=c){z:AV}{G:Gh}
  (h:(match op with | .eql=>some (AV.sc (.bool b)) | .neq=>some (AV.sc (.bool c))|_=>none)=some z):∃ r,(do eqGuard op t ox oy (.pointer a) (.pointer none);binOp op t (.pointer a) (.pointer none):Sem Value).run P w = .ok r w/\VRel G w.heap z r:=by
 obtain⟨e,hu⟩:=VM ht;have hg:(eqGuard op t ox oy (.pointer a) (.pointer none)).run P w = .ok () w:=by
  unfold eqGuard;cases op<;>rfl
 simp only[ql,hg,qm];have he:(Op.equal t (.pointer a) (.pointer none)).run P w = .ok a.isNone w:=VL 9999 hu;subst hb;subst hc;cases op<;>simp only[qb]at h<;>first
  | (simp at h;done)
  | (subst h;refine⟨_,?_,.sc _ rfl⟩;simp[binOp,he];done)
theorem VN{P:Program}{op:BinOp}{t:TypeId}{x y z:AV}{ox oy:Operand}{G:Gh}{w:World}{u v:Value}(rx:VRel G w.heap x u)(ry:VRel G w.heap y v)(h:aBin P op t x y=some z) :
    ∃ r,(do eqGuard op t ox oy u v;binOp op t u v:Sem Value).run P w = .ok r w/\VRel G w.heap z r:=by
  unfold aBin at h;split at h
  ·
    rename_i k a k' b;cases rx;cases ry;split at h
    · unfold ZH at h
      split at h
      · cases h
      · rename_i hb
        have hg:(eqGuard op t ox oy (.int k a) (.int k' b)).run P w = .ok () w:=by
          unfold eqGuard;cases op<;>rfl
        simp only[ql,hg,qm];cases op<;>simp only[qb]at h<;>first
          | (cases h;done)
          | (subst h;refine⟨_,?_,.sc _ rfl⟩;simp[binOp,Op.shift,hb];done)
    · rename_i hs
      split at h
      · rename_i hk;subst hk
        have hg:(eqGuard op t ox oy (.int k a) (.int k b)).run P w = .ok () w:=by
          unfold eqGuard;cases op<;>rfl
        simp only[ql,hg,qm];unfold aInt at h;cases op<;>simp only[qb]at h<;>first
          | (simp at h;done)
          | (subst h;refine⟨_,?_,.sc _ rfl⟩;simp[binOp,Op.intArith,Op.intCmp];done)
          | (split at h
             · exact absurd h (by simp)
             · rename_i hb
               simp only[qb]at h;subst h;refine⟨_,?_,.sc _ rfl⟩;simp[binOp,VG hb,VH hb];done)
          | (exfalso;simp at hs)
      · exact absurd h (by simp)
  · rename_i a b
    cases rx;cases ry;split at h
    · rename_i hb
      have hu:P.underlying t=some .bool:=by
        unfold wJ at hb;split at hb
        · assumption
        · exact absurd hb (by simp)
      have hg:(eqGuard op t ox oy (.bool a) (.bool b)).run P w = .ok () w:=by
        unfold eqGuard;cases op<;>rfl
      simp only[ql,hg,qm];cases op<;>simp only[qb]at h<;>first
        | (simp at h;done)
        | (subst h;refine⟨_,?_,.sc _ rfl⟩;simp[binOp,Op.equal,Op.maxDepth,run_equalIn_bool' w 9999 t a b hu];done)
    · exact absurd h (by simp)
  · rename_i a b
    cases rx;cases ry;have hg:(eqGuard op t ox oy (.string a) (.string b)).run P w = .ok () w:=by
      unfold eqGuard;cases op<;>rfl
    simp only[ql,hg,qm];unfold aStr at h;cases op<;>simp only[qb]at h<;>first
      | (simp at h;done)
      | (subst h;refine⟨_,?_,.sc _ rfl⟩;simp[binOp,Op.stringOp];done)
      | (split at h
         · rename_i hb
           simp only[qb]at h;subst h;refine⟨_,?_,.sc _ rfl⟩;have:¬(((a.size+b.size:Nat):Int) > qJ.max):=by simp[IntKind.max,IntKind.signed,IntKind.bits];omega
           simp only[binOp,Op.stringOp,Sem.run_ite,if_neg this,qG]
         · exact absurd h (by simp))
  · rename_i tt vv
    cases ry;cases rx with
    |ifc _ _ vx hv =>
    split at h
    · rename_i hb
      have hu:∃ ms,P.underlying t=some (.interface ms):=by
        unfold ZG at hb;split at hb
        · exact⟨_,by assumption⟩
        · exact absurd hb (by simp)
      obtain⟨ms,hu⟩:=hu;have hg:(eqGuard op t ox oy (.iface tt vx) .nilIface).run P w = .ok () w:=by
        unfold eqGuard;cases op<;>rfl
      simp only[ql,hg,qm];have he:(Op.equal t (.iface tt vx) .nilIface).run P w = .ok false w:=VI 9999 hu;cases op<;>simp only[qb]at h<;>first
        | (simp at h;done)
        | (subst h;refine⟨_,?_,.sc _ rfl⟩;simp[binOp,he];done)
    · exact absurd h (by simp)
  · cases rx
    cases ry;split at h
    · rename_i hb
      have hu:∃ ms,P.underlying t=some (.interface ms)/\ms.isEmpty=true:=by
        unfold wL at hb;split at hb
        · exact⟨_,by assumption,hb⟩
        · exact absurd hb (by simp)
      obtain⟨ms,hu,hem⟩:=hu;have hg:(eqGuard op t ox oy .nilIface .nilIface).run P w = .ok () w:=by
        have hgi:(Op.eqGuardIn Op.maxDepth t .nilIface .nilIface).run P w = .ok false w:=VK 9999 hu hem;unfold eqGuard;cases op<;>first|rfl | (simp only[ql,Sem.run_ite,hgi,qm];simp)
      simp only[ql,hg,qm];have he:(Op.equal t .nilIface .nilIface).run P w = .ok true w:=VJ 9999 hu;cases op<;>simp only[qb]at h<;>first
        | (simp at h;done)
        | (subst h;refine⟨_,?_,.sc _ rfl⟩;simp[binOp,he];done)
    · exact absurd h (by simp)
  · cases rx
    cases ry;split at h
    · rename_i hb;exact wM hb rfl rfl h
    · exact absurd h (by simp)
  · cases ry
    cases rx;split at h
    · rename_i hb;exact wM hb rfl rfl h
    · exact absurd h (by simp)
  · cases ry
    cases rx;split at h
    · rename_i hb;exact wM hb rfl rfl h
    · exact absurd h (by simp)
  · exact absurd h (by simp)
@[go_sem] def aUn(op:UnOp):AV->Option AV
 | .sc (.bool b)=>match op with | .not=>some (.sc (.bool !b))|_=>none
 | .sc (.int k n)=>match op with | .neg=>some (.sc (.int k (k.wrap (0-n))))|_=>none
 |_=>none
theorem VO{P:Program}{op:UnOp}{x z:AV}{G:Gh}{w:World}{u:Value}(rx:VRel G w.heap x u)(h:aUn op x=some z) :
  ∃ r,(Op.unary op u).run P w = .ok r w/\VRel G w.heap z r:=by
 unfold aUn at h;split at h
 .cases rx
  split at h
  .simp only[qb]at h;subst h
   exact⟨_,rfl,.sc _ rfl⟩
  .exact absurd h (by simp)
 .cases rx
  split at h
  .simp only[qb]at h;subst h
   exact⟨_,rfl,.sc _ rfl⟩
  .exact absurd h (by simp)
 .exact absurd h (by simp)
@[go_sem] def vF(P:Program)(src dst:TypeId):AV->Option AV
 | .sc (.int _ n)=>match P.underlying dst with|some (.int k)=>some (.sc (.int k (k.wrap n)))|_=>none
 | .lst _ [[.sc (.int .u8 n)]]=>match P.underlying src with
  |some (.slice e)=>match P.underlying e,P.underlying dst with
   |some (.int .u8),some .string=>some (.sc (.string (ByteArray.empty.push (UInt8.ofNat n.toNat))))
   |_,_=>none
  |_=>none
 |_=>none
theorem VP{P:Program}{src dst:TypeId}{x z:AV}{G:Gh}{w:World}{u:Value}(rx:VRel G w.heap x u)(hs:∃ d,P.underlying src=some d)(h:vF P src dst x=some z) :
  ∃ r,(convert src dst u).run P w = .ok r w/\VRel G w.heap z r:=by
 unfold vF at h;obtain⟨d,hs⟩:=hs;split at h
 .cases rx
  split at h
  .rename_i k hu
   simp only[qb]at h;subst h;refine⟨_,?_,.sc _ rfl⟩;simp only[convert,ql,run_underlying hs,run_underlying hu,qm];simp[Conv.intToInt]
  .exact absurd h (by simp)
 .rename_i f n
  split at h
  .rename_i e hsrc
   split at h
   .rename_i he hd'
    simp only[qb]at h;subst h;cases rx with
    |lst _ _ sz a cap cs e' fr rd hb hs' hl hc hi hz hr hv =>
     have h0:VRel G w.heap (.sc (.int .u8 n)) (rd 0):=hv 0 _ rfl;have h1:cs[a.off+0]?=some (rd 0):=hr 0 _ rfl;generalize rd 0=q at h0 h1;cases h0;refine⟨_,?_,.sc _ rfl⟩;rw[run_convert_bytes_string w src dst e (some a) _ cap hsrc he hd'];have hld:=run_loadCells_list (P:=P) w a [.int .u8 n] (fun j v hj=>by
      match j,hj with
      | 0,hj =>
       simp only[uo,qb]at hj;subst hj;rw[jD hb hs'];exact h1)
     exact run_bytesToString (P:=P) w a 1 cap [n] hld
   .exact absurd h (by simp)
  .exact absurd h (by simp)
 .exact absurd h (by simp)
theorem VRel.ipDrop{G:Gh}{h:Array Obj}{cs:List AV}{a:Addr}(r:VRel G h (.ip cs) (.pointer (some a)))(n:Nat):VRel G h (.ip (cs.drop n)) (.pointer (some (a.add n))):=by
 cases r with
 |ip _ _ arr e fr rd hb hs hi hr hv =>
  have h1:(a.add n).block=a.block:=by unfold Addr.add;split<;>rfl
  have h2:(a.add n).spot=none:=by unfold Addr.add;split<;>simp[hs]
  have h3:(a.add n).off=a.off+n:=by unfold Addr.add;split<;>simp_all
  refine .ip _ _ arr e fr (fun k=>rd (n+k)) (by rw[h1];exact hb) h2 (by rw[h1];exact hi) ?_ ?_
  .intro k x hx
   rw[zH]at hx;rw[h3,Nat.add_assoc];exact hr _ x hx
  .intro k x hx
   rw[zH]at hx;exact hv _ x hx
theorem VRel.ptrAdd{G:Gh}{h:Array Obj}{b o:Nat}{a:Addr}(r:VRel G h (.ptr b o) (.pointer (some a)))(n:Nat):VRel G h (.ptr b (o+n)) (.pointer (some (a.add n))):=by
 cases r with
 |ptr _ _ blk tot hb =>
  have:(⟨blk,o,none⟩:Addr).add n=⟨blk,o+n,none⟩:=by unfold Addr.add;split<;>simp_all
  rw[this];exact .ptr b (o+n) blk tot hb
@[go_sem] def addA(p:AV)(n:Nat):Option AV:=
 match p with
 | .ip cs=>some (.ip (cs.drop n))
 | .ptr b o=>some (.ptr b (o+n))
 |_=>none
theorem ZI{G:Gh}{h:Array Obj}{p z:AV}{v:Value}{n:Nat}(r:VRel G h p v)(e:addA p n=some z):∃ a,v = .pointer (some a)/\VRel G h z (.pointer (some (a.add n))):=by
 unfold addA at e;split at e
 .simp only[qb]at e;subst e
  cases r with
  |ip _ a arr el fr rd hb hs hi hr hv=>exact⟨a,rfl,VRel.ipDrop (.ip _ a arr el fr rd hb hs hi hr hv) n⟩
 .simp only[qb]at e;subst e
  cases r with
  |ptr _ _ blk tot hb=>exact⟨_,rfl,VRel.ptrAdd (.ptr _ _ blk tot hb) n⟩
 .exact absurd e (by simp)
@[go_sem] def vG(P:Program)(s f:Nat)(p:AV):Option AV:=(q7 P s f).bind fun (off,_,_)=>addA p off
theorem ZJ{P:Program}{s f off n:Nat}{t:TypeId}(h:q7 P s f=some (off,t,n)) :
  ∃(fs:Array Field) (fd:Field),P.underlying s=some (.struct fs)/\fs[f]?=some fd/\fd.offset=off/\fd.type=t/\szOf P t=some n/\n≠0:=by
 unfold q7 at h;split at h
 .rename_i fs hu
  cases hf:fs[f]? with
  |none=>simp[hf]at h
  |some fd =>
   simp only[hf,Option.bind_some]at h;split at h
   .rename_i m hm
    simp only[qb,yd]at h;obtain⟨rfl,rfl,rfl⟩:=h;exact⟨fs,fd,hu,hf,rfl,rfl,hm,by simp⟩
   .exact absurd h (by simp)
 .exact absurd h (by simp)
theorem VQ{P:Program}{G:Gh}{w:World}{s f:Nat}{p z:AV}{v:Value}(r:VRel G w.heap p v)(e:vG P s f p=some z) :
  ∃ u,(Instr.fieldAt s v f).run P w = .ok u w/\VRel G w.heap z u:=by
 unfold vG at e;cases hf:q7 P s f with
 |none=>simp[hf]at e
 |some x =>
  obtain⟨off,t,n⟩:=x;simp only[hf,Option.bind_some]at e;obtain⟨a,rfl,hz⟩:=ZI r e;obtain⟨fs,fd,hu,hfd,rfl,rfl,hsz,hn⟩:=ZJ hf;refine⟨_,?_,hz⟩;simp[Instr.fieldAt,run_underlying hu,hfd,Instr.sureAddr,fieldPlace,zl hsz,hn]
@[go_sem] def vH(P:Program)(t:TypeId)(x ix:AV):Option AV:=
 match ix with
 | .sc (.int _ i) =>
  match x,qp P t,vD P t with
  | .lst _ xs,some (_,sz,_),_=>if 0<=i/\i<xs.length then (match xs[i.toNat]? with|some r=>if r.length=sz/\sz≠0 then some (.ip r) else none|none=>none) else none
  | .sl b sz' off len,some (_,sz,_),_=>if 0<=i/\i<len/\(sz'=sz\/sz'=0) then some (.ptr b (off+i.toNat*sz)) else none
  |p,none,some (n,_,sz)=>if 0<=i/\i<n then addA p (i.toNat*sz) else none
  |_,_,_=>none
 |_=>none
theorem yq{P:Program}{t e:TypeId}{sz bt:Nat}(h:qp P t=some (e,sz,bt)):∃ i,P.underlying t=some (.slice e)/\P.info? e=some i/\i.size=sz/\i.bytes=bt:=by
 unfold qp at h;split at h
 .rename_i e' hu
  cases hi:P.info? e' with
  |none=>simp[hi]at h
  |some i =>
   simp only[hi,qw,qb,yd]at h;obtain⟨rfl,rfl,rfl⟩:=h;exact⟨i,hu,hi,rfl,rfl⟩
 .exact absurd h (by simp)
theorem ZK{P:Program}{t e:TypeId}{n sz:Nat}(h:vD P t=some (n,e,sz)):P.underlying t=some (.array n e)/\szOf P e=some sz:=by
 unfold vD at h;split at h
 .rename_i n' e' hu
  cases hi:szOf P e' with
  |none=>simp[hi]at h
  |some i =>
   simp only[hi,qw,qb,yd]at h;obtain⟨rfl,rfl,rfl⟩:=h;exact⟨hu,hi⟩
 .exact absurd h (by simp)
theorem VR{P:Program}{G:Gh}{w:World}{t:TypeId}{x ix z:AV}{v u:Value}(r:VRel G w.heap x v)(ri:VRel G w.heap ix u)(e:vH P t x ix=some z) :
  ∃ y,(Instr.indexAt t v u).run P w = .ok y w/\VRel G w.heap z y:=by
 unfold vH at e;split at e
 .rename_i k i
  cases ri;split at e
  .rename_i full xs e' sz bt hs
   split at e
   .rename_i hi
    split at e
    .rename_i row hrow
     split at e
     .rename_i hz
      simp only[qb]at e;subst e;obtain⟨inf,hu,hinf,hsz,hbt⟩:=yq hs;have hso:szOf P e'=some sz:=by simp[szOf,hinf,hsz]
      cases r with
      |nil=>simp at hrow
      |emp=>simp at hrow
      |lst _ _ sz' a cap cs el fr rd hb hsp hl hc himm hz' hr hv =>
       have hszz:sz'=sz:=by rw[<-hz.1];exact(hz' row (qC hrow)).symm
       subst hszz;refine⟨.pointer (some (a.add (i.toNat*sz'))),?_,?_⟩
       .simp [Instr.indexAt,asIntOf,run_underlying hu,hi,zl hso]
       .have h1:(a.add (i.toNat*sz')).block=a.block:=by unfold Addr.add;split<;>rfl
        have h2:(a.add (i.toNat*sz')).spot=none:=by unfold Addr.add;split<;>simp[hsp]
        have h3:(a.add (i.toNat*sz')).off=a.off+i.toNat*sz':=by unfold Addr.add;split<;>simp_all
        refine .ip _ _ cs el fr (fun k=>rd (i.toNat*sz'+k)) (by rw[h1];exact hb) h2 (by rw[h1];exact himm) ?_ ?_
        .intro k x hx
         rw[h3,Nat.add_assoc];exact hr _ x (wI hz' hrow hx)
        .intro k x hx
         exact hv _ x (wI hz' hrow hx)
     .exact absurd e (by simp)
    .exact absurd e (by simp)
   .exact absurd e (by simp)
  .rename_i b sz' off len e' sz bt hs
   split at e
   .rename_i hi
    obtain⟨hi0,hi1,_⟩:=hi;simp only[qb]at e;subst e;obtain⟨inf,hu,hinf,hsz,hbt⟩:=yq hs;have hso:szOf P e'=some sz:=by simp[szOf,hinf,hsz]
    cases r with
    |sl _ _ _ _ blk tot cap hb ht hl =>
     refine⟨.pointer (some ((⟨blk,off,none⟩:Addr).add (i.toNat*sz))),?_,VRel.ptrAdd (.ptr b off blk tot hb) _⟩;simp[Instr.indexAt,asIntOf,run_underlying hu,hi0,hi1,zl hso]
   .exact absurd e (by simp)
  .rename_i n e' sz ha
   split at e
   .rename_i hi
    obtain⟨hu,hso⟩:=ZK ha;obtain⟨a,rfl,hz⟩:=ZI r e;refine⟨_,?_,hz⟩;simp[Instr.indexAt,asIntOf,run_underlying hu,Instr.sureAddr,hi,zl hso]
   .exact absurd e (by simp)
  .exact absurd e (by simp)
 .exact absurd e (by simp)
end Go.Ev
namespace Go.Ev
open Go Go.RowKit
@[go_sem] def uy(P:Program)(t:TypeId)(cs:List AV)(off:Nat):Option AV:=
 match qP P t,szOf P t with
 |some true,some n=>if off+n<=cs.length then some (.agg ((cs.drop off).take n)) else none
 |some false,_=>cs[off]?
 |_,_=>none
theorem ZL{P:Program}{G:Gh}{w:World}{t:TypeId}{cs:List AV}{vs:Array Value}{off:Nat}{z:AV}
  (hn:vs.size=cs.length) (hv:∀(k:Nat) x,cs[k]?=some x->VRel G w.heap x (vs.getD k undef)) (h:uy P t cs off=some z) :
  ∃ u,(part t vs off).run P w = .ok u w/\VRel G w.heap z u:=by
 unfold uy at h;split at h
 .rename_i n ha hs
  split at h
  .rename_i hle
   simp only[qb]at h;subst h;refine⟨.agg (vs.extract off (off+n)),by simp[part,ux ha,zl hs],.agg _ _ (by simp;omega) ?_⟩;intro k x hx;rw[zu]at hx;split at hx
   .rename_i hk
    rw[zH]at hx;have:=hv _ x hx;have e:(vs.extract off (off+n)).getD k undef=vs.getD (off+k) undef:=by
     simp only[qi];rw[Array.getElem?_extract_of_lt (by omega)];have:off+k<vs.size:=by omega
     simp[this]
    rw[e];exact this
   .exact absurd hx (by simp)
  .exact absurd h (by simp)
 .rename_i ha
  have:=hv off z h;have hlt:off<cs.length:=(qc.1 h).1;have hlt':off<vs.size:=by omega
  refine⟨vs.getD off undef,?_,this⟩;simp[part,ux ha,hlt',qi]
 .exact absurd h (by simp)
@[go_sem] def vI(P:Program)(s f:Nat)(x:AV):Option AV:=
 match x with
 | .agg cs=>(q7 P s f).bind fun (off,t,_)=>uy P t cs off
 |_=>none
theorem VS{P:Program}{G:Gh}{w:World}{s f:Nat}{x z:AV}{v:Value}(r:VRel G w.heap x v)(e:vI P s f x=some z) :
  ∃ u,(Instr.field s v f).run P w = .ok u w/\VRel G w.heap z u:=by
 unfold vI at e;split at e
 .rename_i cs
  cases r with
  |agg _ vs hn hv =>
  cases hf:q7 P s f with
  |none=>simp[hf]at e
  |some y =>
   obtain⟨off,t,n⟩:=y;simp only[hf,Option.bind_some]at e;obtain⟨fs,fd,hu,hfd,rfl,rfl,hsz,hn'⟩:=ZJ hf;obtain⟨u,h1,h2⟩:=ZL hn hv e;exact⟨u,by simp[Instr.field,run_underlying hu,hfd,asAgg,h1],h2⟩
 .exact absurd e (by simp)
@[go_sem] def uz(P:Program)(t:TypeId)(x ix:AV):Option AV:=
 match ix with
 | .sc (.int _ i) =>
  match x with
  | .agg cs=>match vD P t with
   |some (n,e,sz)=>if 0<=i/\i<n then uy P e cs (i.toNat*sz) else none
   |none=>none
  | .sc (.string s)=>match P.underlying t with
   |some .string=>if 0<=i then (match s.data[i.toNat]? with|some b=>some (.sc (.int .u8 b.toNat))|none=>none) else none
   |_=>none
  |_=>none
 |_=>none
theorem VT{P:Program}{G:Gh}{w:World}{t:TypeId}{x ix z:AV}{v u:Value}(r:VRel G w.heap x v)(ri:VRel G w.heap ix u)(e:uz P t x ix=some z) :
  ∃ y,(Instr.index t v u).run P w = .ok y w/\VRel G w.heap z y:=by
 unfold uz at e;split at e
 .rename_i k i
  cases ri;split at e
  .rename_i cs
   cases r with
   |agg _ vs hn hv =>
   split at e
   .rename_i n el sz ha
    split at e
    .rename_i hi
     obtain⟨hu,hso⟩:=ZK ha;obtain⟨y,h1,h2⟩:=ZL hn hv e;exact⟨y,by simp[Instr.index,asIntOf,run_underlying hu,hi,zl hso,h1],h2⟩
    .exact absurd e (by simp)
   .exact absurd e (by simp)
  .rename_i s
   cases r;split at e
   .rename_i hu
    split at e
    .rename_i hi
     split at e
     .rename_i b hb
      simp only[qb]at e;subst e;refine⟨.int .u8 b.toNat,?_,.sc _ rfl⟩;have hlt:i.toNat<s.data.size:=(qR.1 hb).1;have hb':s[i.toNat]?=some b:=by
       have h2:s.data[i.toNat]=b:=(qR.1 hb).2;have hlt':i.toNat<s.size:=hlt;rw[getElem?_pos s i.toNat hlt'];exact congrArg some h2
      simp[Instr.index,asIntOf,run_underlying hu,hi,hb']
     .exact absurd e (by simp)
    .exact absurd e (by simp)
   .exact absurd e (by simp)
  .exact absurd e (by simp)
 .exact absurd e (by simp)
@[go_sem] def optI:Option AV->Option (Option Int)
 |none=>some none
 |some (.sc (.int _ n))=>some (some n)
 |_=>none
@[go_sem] def vJ(P:Program)(t:TypeId)(x:AV)(lo hi mx:Option AV):Option AV:=
 match optI lo,optI hi,optI mx with
 |some lo,some hi,some mx =>
  match x,P.underlying t with
  | .lst full xs,some (.slice _) =>
   let n:Int:=xs.length
   let h:=hi.getD n
   let l:=lo.getD 0
   match mx with
   |none=>if 0<=l/\l<=h/\h<=n then some (.lst (full&&decide (h=n)) ((xs.take h.toNat).drop l.toNat)) else none
   |some m=>if 0<=l/\l<=h/\h<=m/\m<=n/\hi.isSome then some (.lst (decide (m=h)) ((xs.take h.toNat).drop l.toNat)) else none
  | .sl b sz off len,some (.slice e) =>
   let h:=hi.getD len
   let l:=lo.getD 0
   match mx with
   |none=>if 0<=l/\l<=h/\h<=len/\(l=0\/l<len)/\szOf P e=some sz then some (.sl b sz (off+l.toNat*sz) (h-l).toNat) else none
   |some _=>none
  | .ip cs,some (.array n e) =>
   let h:=hi.getD n
   let l:=lo.getD 0
   match mx with
   |none=>if 0<=l/\l<=h/\h<=n/\(l=0\/l<n)/\szOf P e=some 1/\cs.length=n then some (.lst (decide (h=n)) (((cs.take h.toNat).drop l.toNat).map fun c=>[c])) else none
   |some _=>none
  | .ptr b off,some (.array n e) =>
   match mx with
   |none=>if off=0/\lo.getD 0=0/\0<=hi.getD n/\hi.getD n<=n/\(szOf P e).isSome=true then some (.sl b 0 0 (hi.getD n).toNat) else none
   |some _=>none
  | .sc (.string s),some .string =>
   let n:Int:=s.size
   let h:=hi.getD n
   let l:=lo.getD 0
   match mx with
   |none=>if 0<=l/\l<=h/\h<=n then some (.sc (.string (s.extract l.toNat h.toNat))) else none
   |some _=>none
  |_,_=>none
 |_,_,_=>none
theorem y8{P:Program}{w:World}{k:IntKind}{i:Int}{y:Nat}{c:BoundsCode}(h0:0<=i)(h1:i<=y):(Instr.sliceBound (.int k i) y c).run P w = .ok i.toNat w:=by
 simp[Instr.sliceBound,asIntOf,h0,h1]
theorem wN{G:Gh}{h:Array Obj}{o:Option AV}{oo:Option Int}(e:optI o=some oo) :
  ∀{v:Option Value},(∀ x,o=some x->∃ u,v=some u/\VRel G h x u)->(o=none->v=none)->(oo=none/\v=none)\/∃ k n,oo=some n/\v=some (.int k n):=by
 intro v h1 h2;unfold optI at e;split at e
 .simp only[qb]at e;exact .inl ⟨e.symm,h2 rfl⟩
 .rename_i k n
  simp only[qb]at e;obtain⟨u,hu,r⟩:=h1 _ rfl;cases r;exact .inr ⟨k,n,e.symm,hu⟩
 .exact absurd e (by simp)
theorem j2{P:Program}{w:World}{isSlice:Bool}{len cap:Nat}{lo hi mx:Option Int}{vlo vhi vmx:Option Value}
  (hlo:(lo=none/\vlo=none)\/∃ k n,lo=some n/\vlo=some (.int k n)) (hhi:(hi=none/\vhi=none)\/∃ k n,hi=some n/\vhi=some (.int k n))
  (hmx:(mx=none/\vmx=none)\/∃ k n,mx=some n/\vmx=some (.int k n)) (hmh:mx.isSome=true->hi.isSome=true)
  (h0:0<=lo.getD 0) (h1:lo.getD 0<=hi.getD len) (h2:hi.getD len<=mx.getD cap) (h3:mx.getD cap<=cap) (hlc:len<=cap) :
  (Instr.sliceBounds isSlice len cap vlo vhi vmx).run P w = .ok ((lo.getD 0).toNat,(hi.getD len).toNat,(mx.getD cap).toNat) w:=by
 rcases hlo with ⟨rfl,rfl⟩|⟨k1,l,rfl,rfl⟩<;>rcases hhi with ⟨rfl,rfl⟩|⟨k2,h,rfl,rfl⟩<;>rcases hmx with ⟨rfl,rfl⟩|⟨k3,m,rfl,rfl⟩<;>simp only[Option.getD_none,Option.getD_some]at * <;>
  simp only[Option.isSome_none,Option.isSome_some,reduceCtorEq,imp_false,not_true_eq_false]at hmh
 .simp [Instr.sliceBounds]
 .have e2:(Instr.sliceBound (.int k2 h) cap (if isSlice then .sliceAcap else .sliceAlen)).run P w = .ok h.toNat w:=y8 (by omega) (by omega)
  simp only[Instr.sliceBounds,ql,qG,qm,e2];simp
 .have e3:(Instr.sliceBound (.int k3 m) cap (if isSlice then .slice3Acap else .slice3Alen)).run P w = .ok m.toNat w:=y8 (by omega) (by omega)
  have e2:(Instr.sliceBound (.int k2 h) m.toNat .slice3B).run P w = .ok h.toNat w:=y8 (by omega) (by omega);simp only[Instr.sliceBounds,ql,qG,qm,e2,e3];simp
 .have e1:(Instr.sliceBound (.int k1 l) len (if (none:Option Value).isSome then .slice3C else .sliceB)).run P w = .ok l.toNat w:=y8 (by omega) (by omega)
  simp only[Instr.sliceBounds,ql,qG,qm,e1];simp
 .have e2:(Instr.sliceBound (.int k2 h) cap (if isSlice then .sliceAcap else .sliceAlen)).run P w = .ok h.toNat w:=y8 (by omega) (by omega)
  have e1:(Instr.sliceBound (.int k1 l) h.toNat (if (none:Option Value).isSome then .slice3C else .sliceB)).run P w = .ok l.toNat w:=y8 (by omega) (by omega);simp only[Instr.sliceBounds,ql,qG,qm,e1,e2];simp
 .have e3:(Instr.sliceBound (.int k3 m) cap (if isSlice then .slice3Acap else .slice3Alen)).run P w = .ok m.toNat w:=y8 (by omega) (by omega)
  have e2:(Instr.sliceBound (.int k2 h) m.toNat .slice3B).run P w = .ok h.toNat w:=y8 (by omega) (by omega);have e1:(Instr.sliceBound (.int k1 l) h.toNat (if (some (Value.int k3 m)).isSome then .slice3C else .sliceB)).run P w = .ok l.toNat w:=y8 (by omega) (by omega);simp only[Instr.sliceBounds,ql,qG,qm,e1,e2,e3]
theorem ZM{xs:List (List AV)}{sz:Nat}:(∀ r,r∈xs->r.length=sz)->∀ l:Nat,(xs.drop l).flatten=xs.flatten.drop (l*sz):=by
 induction xs with
 |nil=>intro _ l;simp
 |cons y ys ih =>
  intro hz l;cases l with
  |zero=>simp
  |succ l =>
   simp only[List.drop_succ_cons,yo];rw[ih (fun r hr=>hz r (by simp[hr])),Nat.succ_mul,Nat.add_comm,<-List.drop_drop];congr 1;rw[List.drop_append_of_le_length (by simp[hz y (by simp)])];rw[<-hz y (by simp),List.drop_length];simp
theorem VRel.lstSub{G:Gh}{h:Array Obj}{full:Bool}{xs:List (List AV)}{sz:Nat}{a:Option Addr}{cap l hi m:Nat}
  (r:VRel G h (.lst full xs) (.slice a xs.length cap)) (hsz:∀ x,x∈xs->x.length=sz) (h1:l<=hi) (h2:hi<=xs.length) (h3:hi<=m) (hm:m<=cap) (f':Bool) (hf:f'=true->m=hi) :
  VRel G h (.lst f' ((xs.take hi).drop l)) (.slice (if m=l then a else a.map (·.add (l*sz))) (hi-l) (m-l)):=by
 have hlen:((xs.take hi).drop l).length=hi-l:=by simp;omega
 by_cases he:hi=l
 .subst he
  have hnil:(xs.take hi).drop hi=[]:=yn (by omega);rw[hnil,Nat.sub_self];cases a with
  |none =>
   have:xs=[]/\cap=0:=by cases r;exact⟨rfl,rfl⟩
   have hm0:m=0:=by omega
   subst hm0;simp;exact .nil f'
  |some a =>
   have:(if m=hi then some a else (some a).map (·.add (hi*sz)))=some (if m=hi then a else a.add (hi*sz)):=by split<;>rfl
   rw[this];exact .emp f' _ _ (fun h=>by have:=hf h;omega)
 .have hml:m≠l:=by omega
  rw[if_neg hml];generalize hlv:xs.length=n at r;cases r with
  |nil=>simp at h2;omega
  |emp=>simp at h2;omega
  |lst _ _ sz' a cap cs e fr rd hb hs hl hc hi' hz hr hv =>
   have hne:xs≠[]:=by intro e;subst e;simp at h2;omega
   obtain⟨y,hy⟩:∃ y,y∈xs:=List.exists_mem_of_ne_nil xs hne;have hszz:sz'=sz:=by rw[<-hz y hy,hsz y hy]
   subst hszz;have h1':(a.add (l*sz')).block=a.block:=by unfold Addr.add;split<;>rfl
   have h2':(a.add (l*sz')).spot=none:=by unfold Addr.add;split<;>simp[hs]
   have h3':(a.add (l*sz')).off=a.off+l*sz':=by unfold Addr.add;split<;>simp_all
   have key:∀(k:Nat) x,((xs.take hi).drop l).flatten[k]?=some x->xs.flatten[l*sz'+k]?=some x:=by
    intro k x hx;rw[ZM (fun r hr=>hz r (yb hr)),zH]at hx;have:xs.flatten=(xs.take hi).flatten++(xs.drop hi).flatten:=by rw[<-List.flatten_append,List.take_append_drop]
    rw[this,qh (qc.1 hx).1];exact hx
   have:=VRel.lst (G:=G) (h:=h) f' ((xs.take hi).drop l) sz' (a.add (l*sz')) (m-l) cs e fr (fun k=>rd (l*sz'+k)) (by rw[h1'];exact hb) h2' (by omega) (fun h=>by have:=hf h;omega) (by rw[h1'];exact hi')
    (fun r hr=>hz r (yb (List.mem_of_mem_drop hr))) (fun k x hx=>by rw[h3',Nat.add_assoc];exact hr _ x (key k x hx)) (fun k x hx=>hv _ x (key k x hx))
   rw[hlen]at this;exact this
theorem VRel.lst_inv{G:Gh}{h:Array Obj}{full:Bool}{xs:List (List AV)}{v:Value}(r:VRel G h (.lst full xs) v) :
  ∃ a cap,v = .slice a xs.length cap/\xs.length<=cap/\(full=true->cap=xs.length)/\(∃ sz,∀ x,x∈xs->x.length=sz):=by
 cases r with
 |nil=>exact⟨none,0,rfl,qu _,fun _=>rfl,0,by simp⟩
 |emp _ a cap hc=>exact⟨some a,cap,rfl,Nat.zero_le _,hc,0,by simp⟩
 |lst _ _ sz a cap cs e fr rd hb hs hl hc hi hz hr hv=>exact⟨some a,cap,rfl,hl,hc,sz,hz⟩
def zm(sz:Nat)(xs:List (List AV)):Prop:=∀ r,r∈xs->r.length=sz
theorem VU{P:Program}{G:Gh}{w:World}{t:TypeId}{x z:AV}{lo hi mx:Option AV}{v:Value}{vlo vhi vmx:Option Value}(r:VRel G w.heap x v)
  (hlo:∀ y,lo=some y->∃ u,vlo=some u/\VRel G w.heap y u) (hlo':lo=none->vlo=none) (hhi:∀ y,hi=some y->∃ u,vhi=some u/\VRel G w.heap y u) (hhi':hi=none->vhi=none)
  (hmx:∀ y,mx=some y->∃ u,vmx=some u/\VRel G w.heap y u) (hmx':mx=none->vmx=none)
  (hrow:∀ full xs,x = .lst full xs->∃ e sz bt,qp P t=some (e,sz,bt)/\zm sz xs)
  (e:vJ P t x lo hi mx=some z):∃ y,(Instr.sliceAt t v vlo vhi vmx).run P w = .ok y w/\VRel G w.heap z y:=by
 unfold vJ at e;split at e
 .rename_i olo ohi omx elo ehi emx
  have xlo:=wN (G:=G) (h:=w.heap) elo hlo hlo';have xhi:=wN (G:=G) (h:=w.heap) ehi hhi hhi';have xmx:=wN (G:=G) (h:=w.heap) emx hmx hmx';clear elo ehi emx hlo hlo' hhi hhi' hmx hmx';split at e
  .rename_i full xs el hu
   obtain⟨a,cap,rfl,hlc,hfc,_⟩:=r.lst_inv;obtain⟨e',sz,bt,hs,hok⟩:=hrow full xs rfl;obtain⟨inf,hu',hinf,hsz,hbt⟩:=yq hs;have hel:e'=el:=by rw[hu]at hu';simpa using hu'.symm
   subst hel;have hso:szOf P e'=some sz:=by simp[szOf,hinf,hsz]
   simp only at e;split at e
   .split at e
    .rename_i hc
     obtain⟨c1,c2,c3⟩:=hc;simp only[qb]at e;subst e;have hrun:=j2 (P:=P) (w:=w) (isSlice:=true) (len:=xs.length) (cap:=cap) xlo xhi xmx (by simp) c1 c2 (by simp;omega) (by simp) hlc;refine⟨_,by simp only[Instr.sliceAt,Instr.slice,ql,run_underlying hu,qm,hrun,zl hso,qG];rfl,?_⟩;have hl:(olo.getD 0).toNat<=(ohi.getD xs.length).toNat:=by omega
     simp only[Option.getD_none,Int.toNat_natCast];exact VRel.lstSub r hok hl (by omega) (by omega) (qu _) _ (fun hf=>by
      simp only[qe,decide_eq_true_eq]at hf;have:=hfc hf.1;omega)
    .exact absurd e (by simp)
   .rename_i m
    split at e
    .rename_i hc
     obtain⟨c1,c2,c3,c4,c5⟩:=hc;simp only[qb]at e;subst e;have hrun:=j2 (P:=P) (w:=w) (isSlice:=true) (len:=xs.length) (cap:=cap) xlo xhi xmx (fun _=>c5) c1 c2 (by simpa using c3) (by simp;omega) hlc;refine⟨_,by simp only[Instr.sliceAt,Instr.slice,ql,run_underlying hu,qm,hrun,zl hso,qG];rfl,?_⟩;have hl:(olo.getD 0).toNat<=(ohi.getD xs.length).toNat:=by omega
     simp only[Option.getD_some];exact VRel.lstSub r hok hl (by omega) (by omega) (by omega) _ (fun hf=>by
      simp only[decide_eq_true_eq]at hf;omega)
    .exact absurd e (by simp)
  .rename_i b sz off len el hu
   simp only at e;split at e
   .split at e
    .rename_i hc
     obtain⟨c1,c2,c3,c4,hso⟩:=hc;simp only[qb]at e;subst e;cases r with
     |sl _ _ _ _ blk tot cap hb ht hl =>
     have hrun:=j2 (P:=P) (w:=w) (isSlice:=true) (len:=len) (cap:=cap) xlo xhi xmx (by simp) c1 c2 (by simp;omega) (by simp) hl;refine⟨_,by simp only[Instr.sliceAt,Instr.slice,ql,run_underlying hu,qm,hrun,zl hso,qG];rfl,?_⟩;simp only[Option.getD_none,Int.toNat_natCast];have e1:(if cap=(olo.getD 0).toNat then some (⟨blk,off,none⟩:Addr) else (some (⟨blk,off,none⟩:Addr)).map (·.add ((olo.getD 0).toNat*sz)))=some ⟨blk,off+(olo.getD 0).toNat*sz,none⟩:=by
      split
      .rename_i hcap
       have:(olo.getD 0).toNat=0:=by omega
       simp[this]
      .simp only[qw,Addr.add]
       split<;>simp_all
     rw[e1,show (ohi.getD (len:Int)).toNat-(olo.getD 0).toNat=(ohi.getD (len:Int)-olo.getD 0).toNat by omega];refine .sl b sz _ _ blk tot _ hb ?_ (by omega);have hle:(olo.getD 0).toNat<=cap:=by omega
     refine zt (Nat.le_of_eq ?_) ht;rw[Nat.add_assoc,<-Nat.add_mul];congr 2;omega
    .exact absurd e (by simp)
   .exact absurd e (by simp)
  .rename_i cs n el hu
   simp only at e;split at e
   .split at e
    .rename_i hc
     obtain⟨c1,c2,c3,c4,hso,hcn⟩:=hc;simp only[qb]at e;subst e;cases r with
     |ip _ a arr e' fr rd hb hs hi hr hv =>
     obtain⟨ab,ao,aas⟩:=a;simp only at hb hs hi hr;subst hs;have hrun:=j2 (P:=P) (w:=w) (isSlice:=false) (len:=n) (cap:=n) xlo xhi xmx (by simp) c1 c2 (by simp;omega) (by simp) (qu n);refine⟨_,by simp only[Instr.sliceAt,Instr.sureAddr,ql,run_underlying hu,qm,hrun,zl hso,qG];rfl,?_⟩;simp only[Option.getD_none,Int.toNat_natCast,Nat.mul_one];have e1:(some (if n=(olo.getD 0).toNat then (⟨ab,ao,none⟩:Addr) else (⟨ab,ao,none⟩:Addr).add (olo.getD 0).toNat))=some ⟨ab,ao+(olo.getD 0).toNat,none⟩:=by
      split
      .rename_i hcap
       have:(olo.getD 0).toNat=0:=by omega
       simp[this]
      .simp only[Addr.add]
       split<;>simp_all
     rw[e1];have hlen:(((cs.take (ohi.getD (n:Int)).toNat).drop (olo.getD 0).toNat).map fun c=>[c]).length=(ohi.getD (n:Int)).toNat-(olo.getD 0).toNat:=by
      simp only[zr,List.length_drop,List.length_take];omega
     have hflat:∀ l:List AV,(l.map fun c=>[c]).flatten=l:=by
      intro l;induction l with
      |nil=>rfl
      |cons x l ih=>simp[ih]
     by_cases h0:(ohi.getD (n:Int)).toNat-(olo.getD 0).toNat=0
     .rw [h0]
      have:(((cs.take (ohi.getD (n:Int)).toNat).drop (olo.getD 0).toNat).map fun c=>[c])=[]:=yn (by rw[hlen,h0]);rw[this];exact .emp _ _ _ (fun h=>by rw[decide_eq_true_eq]at h;omega)
     .rw [<-hlen]
      have hget:∀(k:Nat) x,(((cs.take (ohi.getD (n:Int)).toNat).drop (olo.getD 0).toNat).map fun c=>[c]).flatten[k]?=some x->cs[(olo.getD 0).toNat+k]?=some x:=by
       intro k x hx;rw[hflat,zH,zu]at hx;split at hx
       .exact hx
       .exact absurd hx (by simp)
      refine .lst _ _ 1 ⟨ab,ao+(olo.getD 0).toNat,none⟩ _ arr e' fr (fun k=>rd ((olo.getD 0).toNat+k)) hb rfl (by rw[hlen];omega) (fun h=>by rw[decide_eq_true_eq]at h;rw[hlen];omega) hi ?_ ?_ ?_
      .intro r hr'
       obtain⟨c,_,rfl⟩:=qr.1 hr';rfl
      .intro k x hx
       have:=hr _ x (hget k x hx);simpa[Nat.add_assoc] using this
      .intro k x hx
       exact hv _ x (hget k x hx)
    .exact absurd e (by simp)
   .exact absurd e (by simp)
  .rename_i b off n el hu
   split at e
   .split at e
    .rename_i hc
     obtain⟨rfl,c1,c2,c3,c4⟩:=hc;obtain⟨sz,hso⟩:=Option.isSome_iff_exists.1 c4;simp only[qb]at e;subst e;cases r with
     |ptr _ _ blk tot hb =>
     have hrun:=j2 (P:=P) (w:=w) (isSlice:=false) (len:=n) (cap:=n) xlo xhi xmx (by simp) (by omega) (by omega) (by simp;omega) (by simp) (qu n);refine⟨_,by simp only[Instr.sliceAt,Instr.sureAddr,ql,run_underlying hu,qm,hrun,zl hso,qG];rfl,?_⟩;simp only[Option.getD_none,Int.toNat_natCast,c1,Int.toNat_zero,Nat.zero_mul,Nat.sub_zero];have e1:(some (if n=0 then (⟨blk,0,none⟩:Addr) else (⟨blk,0,none⟩:Addr).add 0))=some ⟨blk,0,none⟩:=by
      split
      .rfl
      .simp only[Addr.add]
       split<;>simp_all
     rw[e1];exact .sl b 0 0 _ blk tot n hb (by simp) (by omega)
    .exact absurd e (by simp)
   .exact absurd e (by simp)
  .rename_i s hu
   cases r;simp only at e;split at e
   .split at e
    .rename_i hc
     obtain⟨c1,c2,c3⟩:=hc;simp only[qb]at e;subst e;rcases xmx with ⟨_,rfl⟩|⟨_,_,h,_⟩
     .have hrun:=j2 (P:=P) (w:=w) (isSlice:=false) (len:=s.size) (cap:=s.size) xlo xhi (mx:=none) (vmx:=none) (.inl ⟨rfl,rfl⟩) (by simp) c1 c2 (by simp<;>omega) (by simp) (qu _)
      exact⟨_,by simp only[Instr.sliceAt,Instr.slice,ql,run_underlying hu,qm,hrun,qG,Option.isSome_none,Bool.false_eq_true,if_false],.sc _ rfl⟩
     .exact absurd h (by simp)
    .exact absurd e (by simp)
   .exact absurd e (by simp)
  .exact absurd e (by simp)
 .exact absurd e (by simp)
end Go.Ev
namespace Go.Ev
open Go Go.RowKit
theorem VV(off:Nat):∀(l:List Value) (s:Nat) (cs:Array Value),((l.zipIdx s).foldl (fun (cs:Array Value) (x:Value×Nat)=>cs.setIfInBounds (off+x.2) x.1) cs).size=cs.size:=by
 intro l;induction l with
 |nil=>intro s cs;rfl
 |cons y ys ih=>intro s cs;simp only[List.zipIdx_cons,List.foldl_cons,ih];simp
theorem VW(off:Nat):∀(l:List Value) (s:Nat) (cs:Array Value) (k:Nat),off+s+l.length<=cs.size ->
  ((l.zipIdx s).foldl (fun (cs:Array Value) (x:Value×Nat)=>cs.setIfInBounds (off+x.2) x.1) cs).getD k undef =
   if off+s<=k/\k<off+s+l.length then l.getD (k-(off+s)) undef else cs.getD k undef:=by
 intro l;induction l with
 |nil=>intro s cs k _;rw[if_neg (by simp only[List.length_nil];omega)];simp
 |cons y ys ih =>
  intro s cs k h;simp only[zN]at h;simp only[List.zipIdx_cons,List.foldl_cons];rw[ih (s+1) _ k (by simp;omega)];by_cases h1:off+(s+1)<=k/\k<off+(s+1)+ys.length
  .rw [if_pos h1,if_pos (by simp only[zN];omega)]
   rw[show k-(off+s)=(k-(off+(s+1)))+1 by omega];simp
  .rw [if_neg h1]
   by_cases h2:k=off+s
   .subst h2
    rw[if_pos (by simp only[zN];omega)];simp[qi,show off+s<cs.size by omega]
   .rw [if_neg (by simp only[zN];omega)]
    simp only[qi];rw[vB (by omega)]
@[go_sem] def jk(place:Nat->Option (Nat×Nat))(cells:List AV):List (Nat×AV)->Option (List AV)
 | []=>some cells
 | (i,v) :: rest =>
  match place i with
  |none=>none
  |some (off,size)=>if v.cells.length=size/\off+size<=cells.length/\v.cells.all AV.one=true then jk place (zJ cells off v.cells) rest else none
theorem ZN(cells:List AV)(off:Nat)(xs:List AV)(h:off+xs.length<=cells.length):(zJ cells off xs).length=cells.length:=by
 rw[yS _ _ _ h];simp;omega
theorem VX(cells:List AV)(off:Nat)(xs:List AV)(h:off+xs.length<=cells.length)(k:Nat) :
  (zJ cells off xs)[k]?=if off<=k/\k<off+xs.length then xs[k-off]? else cells[k]?:=by
 rw[yS _ _ _ h,zW];by_cases h1:k<off
 .rw [if_neg (by omega),qh (by simp;omega),zu,if_pos h1]
 .have hl:(cells.take off).length=off:=by simp;omega
  rw[qB (by omega),hl];by_cases h2:k<off+xs.length
  .rw [if_pos (by omega),qh (by omega)]
  .rw [if_neg (by omega),qB (by omega),zH]
   congr 1;omega
def vK(G:Gh)(h:Array Obj):List (Nat×AV)->List (Nat×Value)->Prop
 | [],[]=>True
 | (i,x) :: xs,(j,v) :: vs=>i=j/\VRel G h x v/\vK G h xs vs
 |_,_=>False
theorem ZO{G:Gh}{h:Array Obj}{place:Nat->Option (Nat×Nat)}:∀(ps:List (Nat×AV)) (vs:List (Nat×Value)) (cells:List AV) (arr:Array Value) (z:List AV),vK G h ps vs ->
  arr.size=cells.length->(∀(k:Nat) x,cells[k]?=some x->VRel G h x (arr.getD k undef))->jk place cells ps=some z ->
  ∃ r,Instr.fill place arr vs=some r/\r.size=z.length/\z.length=cells.length/\∀(k:Nat) x,z[k]?=some x->VRel G h x (r.getD k undef):=by
 intro ps;induction ps with
 |nil =>
  intro vs cells arr z hp hs hc h;cases vs with
  |nil =>
   simp only[jk,qb]at h;subst h;exact⟨arr,rfl,hs,rfl,hc⟩
  |cons=>exact hp.elim
 |cons p ps ih =>
  intro vs cells arr z hp hs hc h;obtain⟨i,x⟩:=p;cases vs with
  |nil=>exact hp.elim
  |cons q vs =>
   obtain⟨j,v⟩:=q;obtain⟨rfl,rx,hp⟩:=hp;simp only[jk]at h;split at h
   .exact absurd h (by simp)
   .rename_i off size hpl
    split at h
    .rename_i hcond
     obtain⟨c1,c2,c3⟩:=hcond;obtain⟨hsz,hcells,hones⟩:=rx.cells (fun c hcm=>by simpa using qt.1 c3 c hcm);have hl:v.cells.toList.length=size:=by simp;omega
     obtain⟨r,h1,h2,h3,h4⟩:=ih vs (zJ cells off x.cells) (v.cells.zipIdx.foldl (fun cs (x:Value×Nat)=>cs.setIfInBounds (off+x.2) x.1) arr) z hp
      (by rw[ZN _ _ _ (by omega),<-Array.foldl_toList,Array.toList_zipIdx,VV,hs])
      (by
       intro k y hk;rw[VX _ _ _ (by omega)]at hk;rw[<-Array.foldl_toList,Array.toList_zipIdx,VW off _ 0 arr k (by omega)];by_cases hin:off<=k/\k<off+x.cells.length
       .rw [if_pos hin]at hk
        rw[if_pos (by omega)];have:=hcells _ y hk;simpa[qi,qH] using this
       .rw [if_neg hin]at hk
        rw[if_neg (by omega)];exact hc k y hk) h
     refine⟨r,?_,h2,by rw[h3,ZN _ _ _ (by omega)],h4⟩;simp only[Instr.fill,hpl];rw[if_neg (by simp;omega)];exact h1
    .exact absurd h (by simp)
def jE(P:Program)(t:TypeId):Option (Nat->Option (Nat×Nat)):=
 match P.underlying t with
 |some (.array _ e)=>(szOf P e).map fun s=>fun i=>some (i*s,s)
 |some (.struct fs)=>(fs.toList.mapM (fun f=>(P.info? f.type).map fun i=>(f.offset,i.size))).map fun places=>fun i=>places.toArray[i]?
 |_=>none
@[go_sem] def vL(P:Program)(t:TypeId)(ps:List (Nat×AV)):Option AV:=
 match qn P t,jE P t with
 |some z,some place=>(jk place z.cells ps).map .agg
 |_,_=>none
theorem vM{G:Gh}{h:Array Obj}(v:Value)(hz:∀ c,c∈(ofV v).cells->c.one=true) :
  v.cells.size=(ofV v).cells.length/\∀(k:Nat) x,(ofV v).cells[k]?=some x->VRel G h x (v.cells.getD k undef):=
 let ⟨h1,h2,_⟩:=(VRel.ofV (G:=G) (h:=h) v).cells hz
 ⟨h1,h2⟩
theorem VY{P:Program}{G:Gh}{w:World}{t:TypeId}{ps:List (Nat×AV)}{vs:Array (Nat×Value)}{z:AV}(hp:vK G w.heap ps vs.toList)
  (hz:∀ y,qn P t=some y->y.cells.all AV.one=true) (e:vL P t ps=some z):∃ u,(Instr.build t vs).run P w = .ok u w/\VRel G w.heap z u:=by
 unfold vL at e;split at e
 .rename_i zv place hzv hpl
  cases hf:jk place zv.cells ps with
  |none=>simp[hf]at e
  |some r =>
   simp only[hf,qw,qb]at e;subst e;have hz1:=hz zv hzv;unfold qn at hzv;cases hit:P.info? t with
   |none=>simp[hit]at hzv
   |some it =>
    simp only[hit,Option.bind_some,zj]at hzv;obtain⟨v,hv,rfl⟩:=hzv;obtain⟨g1,g2⟩:=vM (G:=G) (h:=w.heap) v (fun c hc=>by simpa using qt.1 hz1 c hc);obtain⟨cs,h1,h2,h3,h4⟩:=ZO ps vs.toList _ v.cells r hp g1 g2 hf;refine⟨.agg cs,?_,.agg _ _ h2 h4⟩;refine run_build w t vs cs ?_;unfold jE at hpl;unfold Program.built;split at hpl
    .rename_i n el hu
     cases hie:P.info? el with
     |none=>simp[szOf,hie]at hpl
     |some ie =>
      simp only[szOf,hie,qw,qb]at hpl;subst hpl;simp only[hu,hit,hie,Option.bind_some,hv];exact h1
    .rename_i fs hu
     cases hm:fs.toList.mapM (fun f=>(P.info? f.type).map fun i=>(f.offset,i.size)) with
     |none=>simp[hm]at hpl
     |some places =>
      simp only[hm,qw,qb]at hpl;subst hpl;simp only[hu,hit,Option.bind_some,hv,hm];exact h1
    .exact absurd hpl (by simp)
 .exact absurd e (by simp)
end Go.Ev
namespace Go.Ev
open Go Go.RowKit
def qK(sz:Nat)(xs:List (List AV)):Prop:=∀ r,r∈xs->r.length=sz/\r.all AV.one=true
theorem qK.ok{sz:Nat}{xs:List (List AV)}(h:qK sz xs):zm sz xs:=fun r hr=>(h r hr).1
theorem qK.one{sz:Nat}{xs:List (List AV)}(h:qK sz xs):∀ c,c∈xs.flatten->c.one=true:=by
 intro c hc;obtain⟨r,hr,hcr⟩:=wE.1 hc;exact by simpa using qt.1 (h r hr).2 c hcr
theorem wO(l:List Value)(k:Nat):l.toArray.getD k undef=l.getD k undef:=by
 simp[qi,qH]
theorem ZP{P:Program}{G:Gh}{mu:Mu}{w:World}(s:Sim G mu w.heap){x:AV}{v:Value}(t:TypeId)(r:VRel G w.heap x v)(h1:x.cells.all AV.one=true) :
  ∃ G',(newVar t v).run P w = .ok ⟨w.heap.size,0,none⟩ (w.alloc (.cells v.cells t))/\Stp G mu w G' (mu++[.arr x.cells]) (w.alloc (.cells v.cells t)) /\
   VRel G' (w.alloc (.cells v.cells t)).heap (.ptr mu.length 0) (.pointer (some ⟨w.heap.size,0,none⟩)):=by
 obtain⟨hsz,hcells,_⟩:=r.cells (fun c hc=>by simpa using qt.1 h1 c hc);refine⟨_,rfl,Stp.allocNew s (.cells v.cells t) (.arr x.cells) v.cells.size ?_,.ptr _ 0 w.heap.size v.cells.size ?_⟩
 .intro _
  refine⟨v.cells,t,rfl,rfl,by omega,fun j y hj=>⟨by simpa using qt.1 h1 y (qC hj),hcells j y hj⟩⟩
 .show (G.blk++[_])[mu.length]?=_
  rw[<-s.len];simp
theorem VZ{P:Program}{G:Gh}{mu:Mu}{w:World}(s:Sim G mu w.heap){x:AV}{v:Value}(t:TypeId)(r:VRel G w.heap x v)(h1:x.cells.all AV.one=true) :
  ∃ G',(newVar t v).run P w = .ok ⟨w.heap.size,0,none⟩ (w.alloc (.cells v.cells t))/\Stp G mu w G' mu (w.alloc (.cells v.cells t)) /\
   VRel G' (w.alloc (.cells v.cells t)).heap (.ip x.cells) (.pointer (some ⟨w.heap.size,0,none⟩)):=by
 obtain⟨hsz,hcells,_⟩:=r.cells (fun c hc=>by simpa using qt.1 h1 c hc);have st:=Stp.allocImm s (.cells v.cells t);refine⟨_,rfl,st,.ip _ _ v.cells t (0,0) (fun k=>v.cells.getD k undef) (uw w _) rfl (.inr rfl) ?_ ?_⟩
 .intro k y hk
  have:k<v.cells.size:=by have:=(qc.1 hk).1;omega
  simp[qi,this]
 .intro k y hk
  exact st.vrel s (hcells k y hk)
theorem ZQ(z:List AV)(n:Nat){k:Nat}{x:AV}(h:((yO n z).flatten)[k]?=some x):z[k % z.length]?=some x:=by
 induction n generalizing k with
 |zero=>simp at h
 |succ n ih =>
  simp only[List.replicate_succ,yo]at h;by_cases hk:k<z.length
  .rw [qh hk]at h
   rw[Nat.mod_eq_of_lt hk];exact h
  .rw [qB (by omega)]at h
   have:=ih h;rw[Nat.mod_eq_sub_mod (by omega)];exact this
theorem ZR(z:List AV)(n:Nat):((yO n z).flatten).length=n*z.length:=by simp
@[go_sem] def j3(sz:Nat):List (List AV)->List (Nat×AV)->Option (List (List AV))
 |rows,[]=>some rows
 |rows,(i,v) :: rest=>if v.cells.length=sz/\i<rows.length/\v.cells.all AV.one=true then j3 sz (rows.set i v.cells) rest else none
theorem wP{sz:Nat}:∀(rows:List (List AV)) (i:Nat) (r:List AV),zm sz rows->r.length=sz->i<rows.length->(rows.set i r).flatten=zJ rows.flatten (i*sz) r:=by
 intro rows;induction rows with
 |nil=>intro i r _ _ h;simp at h
 |cons y ys ih =>
  intro i r hok hr hi;have hy:y.length=sz:=hok y (by simp);have hfl:(y :: ys).flatten.length=(ys.length+1)*sz:=zd (xs:=y :: ys) hok;cases i with
  |zero =>
   rw[yS _ _ _ (by rw[hfl,hr,Nat.succ_mul];omega)];simp[hr,<-hy]
  |succ i =>
   simp only[List.set_cons_succ,yo];have hlt:i<ys.length:=by simpa using hi
   have hokys:zm sz ys:=fun r hr=>hok r (by simp[hr])
   rw[ih i r hokys hr hlt];have hle:i*sz+r.length<=ys.flatten.length:=by
    rw[zd hokys,hr];have:(i+1)*sz<=ys.length*sz:=Nat.mul_le_mul_right _ hlt;rw[Nat.succ_mul]at this;exact this
   rw[yS _ _ _ hle,yS _ _ _ (by simp only[zF,hy,Nat.succ_mul];omega)];rw[Nat.succ_mul,Nat.add_comm (i*sz) sz,<-hy];rw[List.take_append,List.drop_append];have t1:List.take (y.length+i*y.length) y=y:=List.take_of_length_le (by omega);have d1:List.drop (y.length+(i*y.length+r.length)) y=[]:=List.drop_eq_nil_of_le (by omega);simp[Nat.add_assoc,t1,d1]
theorem V0{sz:Nat}:∀(ps:List (Nat×AV)) (rows rows':List (List AV)),zm sz rows->j3 sz rows ps=some rows' ->
  jk (fun i=>some (i*sz,sz)) rows.flatten ps=some rows'.flatten/\zm sz rows'/\rows'.length=rows.length:=by
 intro ps;induction ps with
 |nil =>
  intro rows rows' hok h;simp only[j3,qb]at h;subst h;exact⟨rfl,hok,rfl⟩
 |cons p ps ih =>
  intro rows rows' hok h;obtain⟨i,v⟩:=p;simp only[j3]at h;split at h
  .rename_i hc
   obtain⟨c1,c2,c3⟩:=hc;have hok':zm sz (rows.set i v.cells):=by
    intro r hr;rcases List.mem_or_eq_of_mem_set hr with h|h
    .exact hok r h
    .subst h;exact c1
   obtain⟨h1,h2,h3⟩:=ih _ rows' hok' h;refine⟨?_,h2,by rw[h3];simp⟩;simp only[jk];have hle:i*sz+sz<=rows.flatten.length:=by
    rw[zd hok];have:(i+1)*sz<=rows.length*sz:=Nat.mul_le_mul_right _ c2;rw[Nat.succ_mul]at this;exact this
   rw[if_pos ⟨c1,hle,c3⟩,<-wP rows i v.cells hok c1 c2];exact h1
  .exact absurd h (by simp)
@[go_sem] def vN(P:Program)(t:TypeId)(len:Nat)(ps:List (Nat×AV)):Option AV:=
 match qp P t with
 |some (e,sz,_) =>
  match qn P e with
  |some z=>if len*sz<=16777216/\z.cells.length=sz/\z.cells.all AV.one=true then (j3 sz (yO len z.cells) ps).map (.lst true) else none
  |none=>none
 |none=>none
theorem uA{P:Program}{t:TypeId}{z:AV}(h:qn P t=some z):∃ i v,P.info? t=some i/\i.zero=some v/\z=ofV v:=by
 unfold qn at h;cases hit:P.info? t with
 |none=>simp[hit]at h
 |some it =>
  simp only[hit,Option.bind_some,zj]at h;obtain⟨v,hv,rfl⟩:=h;exact⟨it,v,rfl,hv,rfl⟩
theorem VRel.newLst{G:Gh}{h:Array Obj}{xs:List (List AV)}{sz b cap:Nat}{cs:Array Value}{e:TypeId}{fr:Nat×Nat}(full:Bool)(hb:h[b]?=some (.cells cs e fr))(hl:xs.length<=cap)(hc:full=true->cap=xs.length)
  (hi:G.imm b) (hz:zm sz xs) (hs:xs.flatten.length<=cs.size) (hv:∀(k:Nat) x,xs.flatten[k]?=some x->VRel G h x (cs.getD k undef)):VRel G h (.lst full xs) (.slice (some ⟨b,0,none⟩) xs.length cap):=by
 refine .lst full xs sz ⟨b,0,none⟩ cap cs e fr (fun k=>cs.getD k undef) hb rfl hl hc hi hz ?_ hv;intro k x hx;have:k<cs.size:=by have:=(qc.1 hx).1;omega
 simp[qi,this]
theorem ZS{z:Array Value}{n k:Nat}(hk:k<n)(hz:0<z.size):(((Array.range n).map (z[· % z.size]!)).getD k undef)=z.getD (k % z.size) undef:=by
 have hm:k % z.size<z.size:=Nat.mod_lt _ hz;simp[qi,hk,hm,getElem!_pos]
theorem V1{P:Program}{G:Gh}{mu:Mu}{w:World}(s:Sim G mu w.heap){t:TypeId}{len:Nat}{ps:List (Nat×AV)}{vs:Array (Nat×Value)}{x:AV}(hp:vK G w.heap ps vs.toList)
  (e:vN P t len ps=some x):Good P G mu w (Instr.buildSlice t len vs) x mu:=by
 unfold vN at e;split at e
 .rename_i el sz bt hs
  split at e
  .rename_i z hz
   split at e
   .rename_i hc
    obtain⟨c1,c2,c3⟩:=hc;cases hr:j3 sz (yO len z.cells) ps with
    |none=>simp[hr]at e
    |some rows =>
     simp only[hr,qw,qb]at e;subst e;obtain⟨inf,hu,hinf,hsz,hbt⟩:=yq hs;have hso:szOf P el=some sz:=by simp[szOf,hinf,hsz]
     obtain⟨it,zv,hit,hzv,rfl⟩:=uA hz;have hrep:zm sz (yO len (ofV zv).cells):=by
      intro r hr;rw[List.eq_of_mem_replicate hr];exact c2
     obtain⟨f1,f2,f3⟩:=V0 ps _ rows hrep hr;have g:=vM (G:=G) (h:=w.heap) zv (fun c hc=>by simpa using qt.1 c3 c hc);have hflen:((yO len (ofV zv).cells).flatten).length=len*sz:=by rw[ZR,c2]
     obtain⟨arr,k1,k2,k3,k4⟩:=ZO (G:=G) (h:=w.heap) ps vs.toList _ ((Array.range (len*sz)).map ((if len*sz=0 then #[] else zv.cells)[· % (if len*sz=0 then #[] else zv.cells).size]!)) _ hp (by simp[hflen])
      (by
       intro k y hk;have hk':k<len*sz:=by rw[<-hflen];exact(qc.1 hk).1
       have hne:¬len*sz=0:=by omega
       have:=ZQ _ _ hk;rw[c2]at this;simp only[if_neg hne];have hszz:zv.cells.size=sz:=by rw[g.1,c2]
       rw[ZS hk' (by have hz:sz≠0:=(by intro h0;subst h0;simp at hne);omega),hszz];exact g.2 _ y this) f1
     have st:=Stp.allocImm s (.cells arr el);have hlen:rows.length=len:=by rw[f3];simp
     refine⟨.slice (some ⟨w.heap.size,0,none⟩) len len,_,_,?_,st,?_⟩
     .have hzr:(zeroValue el).run P w = .ok zv w:=by simp[zeroValue,typeInfo,hit,hzv]
      have hle:¬(len*sz > 2 ^ 24):=by omega
      simp only[Instr.buildSlice,ql,run_underlying hu,qm,zl hso,if_neg hle];by_cases h0:len*sz=0
      .simp only[if_pos h0]at k1⊢
       simp only[ql,qm,qG,k1,newRow,run_newObj];rfl
      .simp only[if_neg h0]at k1⊢
       simp only[ql,hzr,qm,qG,k1,newRow,run_newObj];rfl
     .have:=VRel.newLst (G:=⟨fun b=>G.imm b\/b=w.heap.size,G.blk⟩) (h:=(w.alloc (.cells arr el)).heap) (xs:=rows) (sz:=sz) (b:=w.heap.size) (cap:=len) true (uw w _) (by omega) (fun _=>hlen.symm) (.inr rfl) f2 (by omega)
       (fun k y hk=>st.vrel s (k4 k y hk))
      rw[hlen]at this;exact this
   .exact absurd e (by simp)
  .exact absurd e (by simp)
 .exact absurd e (by simp)
end Go.Ev
namespace Go.Ev
open Go Go.RowKit
theorem Stp.move{G:Gh}{mu:Mu}{w:World}(s:Sim G mu w.heap)(i:Nat)(c:Cell)(blk tot:Nat)(hc:mu[i]?=some c)(hd:c ≠ .dead)(hk:G.blk[i]?=some (blk,tot)) :
  Stp G mu w ⟨G.imm,G.blk++[(blk,tot)]⟩ (mu.set i .dead++[c]) w:=by
 have hle:G.le ⟨G.imm,G.blk++[(blk,tot)]⟩:=⟨fun b h=>h,fun j x h=>by
  have:j<G.blk.length:=(qc.1 h).1;show (G.blk++[_])[j]?=_;rw[qh this];exact h⟩
 have hlen:=s.len;have hslen:(mu.set i Cell.dead).length=mu.length:=by simp
 have old:∀(j:Nat) (cj:Cell) b t,(mu.set i Cell.dead++[c])[j]?=some cj->cj ≠ .dead->(G.blk++[(blk,tot)])[j]?=some (b,t) ->
   (j<mu.length/\j≠i/\mu[j]?=some cj/\G.blk[j]?=some (b,t))\/(j=mu.length/\cj=c/\b=blk/\t=tot):=by
  intro j cj b t hj hdj hb;rcases qO hj with ⟨h1,h2⟩|⟨h1,h2⟩
  .rcases zk h2 with ⟨_,h⟩|⟨hne,h⟩
   .exact absurd h hdj
   .rcases qO hb with ⟨_,h'⟩|⟨h',_⟩
    .exact .inl ⟨by omega,hne,h,h'⟩
    .omega
  .rcases qO hb with ⟨h',_⟩|⟨_,h'⟩
   .omega
   .obtain ⟨rfl,rfl⟩:=Prod.mk.inj h'
    exact .inr ⟨by omega,h2,rfl,rfl⟩
 refine⟨hle,⟨by simp[s.len],s.imm,?_,?_,?_,s.tab⟩,fun _ _ _=>rfl,qu _,?_,fun b h => .inl h,rfl,rfl,rfl,qu _⟩
 .intro j cj b t hj hdj hb
  rcases old j _ b t hj hdj hb with ⟨_,_,h1,h2⟩|⟨_,rfl,rfl,rfl⟩
  .obtain ⟨o',g1,g2⟩:=s.obj j cj b t h1 hdj h2
   exact⟨o',g1,g2.le hle⟩
  .obtain ⟨o',g1,g2⟩:=s.obj i cj b t hc hd hk
   exact⟨o',g1,g2.le hle⟩
 .intro j cj b t hj hdj hb
  rcases old j _ b t hj hdj hb with ⟨_,_,h1,h2⟩|⟨_,rfl,rfl,rfl⟩
  .exact s.live j cj b t h1 hdj h2
  .exact s.live i cj b t hc hd hk
 .intro j k cj ck b t t' hj hk' hdj hdk hbj hbk
  rcases old j _ b t hj hdj hbj with ⟨l1,n1,h1,h2⟩|⟨l1,e1,e2,e3⟩<;>rcases old k _ b t' hk' hdk hbk with ⟨l2,n2,h3,h4⟩|⟨l2,e4,e5,e6⟩
  .exact s.inj j k cj ck b t t' h1 h3 hdj hdk h2 h4
  .subst e5
   exact absurd (s.inj j i cj c b t tot h1 hc hdj hd h2 hk) n1
  .subst e2
   exact absurd (s.inj k i ck c b t' tot h3 hc hdk hd h4 hk) n2
  .omega
 .intro b hb
  obtain⟨j,cj,t,hj,hdj,hbj⟩:=hb;rcases old j _ b t hj hdj hbj with ⟨_,_,h1,h2⟩|⟨_,rfl,rfl,rfl⟩
  .exact .inl ⟨j,cj,t,h1,hdj,h2⟩
  .exact .inl ⟨i,cj,t,hc,hd,hk⟩
@[go_sem] def vO(n:Nat)(z:List AV):List AV:=
 match z with
 | [x]=>yO n x
 |z=>(yO n z).flatten
theorem ZT(n:Nat)(z:List AV):vO n z=(yO n z).flatten:=by
 unfold vO;split
 .rename_i x
  induction n with
  |zero=>rfl
  |succ n ih=>simp only[List.replicate_succ,yo,<-ih];rfl
 .rfl
@[go_sem] def j4(P:Program)(mu:Mu)(t:TypeId)(len cap:AV):Option (AV×Mu):=
 match len,cap,qp P t with
 | .sc (.int .i64 l),.sc (.int .i64 c),some (e,sz,bt) =>
  match qn P e with
  |some z=>if 0<=l/\l<=c/\c<=4294967296/\bt<=16384/\z.cells.length=sz/\z.cells.all AV.one=true/\sz≠0 then
    some (.sl mu.length sz 0 l.toNat,mu++[.arr (vO l.toNat z.cells)]) else none
  |none=>none
 |_,_,_=>none
theorem qo{n:Int}(h0 : -9223372036854775808<=n)(h1:n<=9223372036854775807):qJ.wrap n=n:=IntWalk.i64_in n ⟨h0,h1⟩
theorem V2{P:Program}{G:Gh}{mu mu':Mu}{w:World}(s:Sim G mu w.heap){t:TypeId}{len cap x:AV}{vl vc:Value}(rl:VRel G w.heap len vl)(rc:VRel G w.heap cap vc)
  (e:j4 P mu t len cap=some (x,mu')):Good P G mu w (Instr.makeSlice t vl vc) x mu':=by
 unfold j4 at e;split at e
 .rename_i l c el sz bt hs
  cases rl;cases rc;split at e
  .rename_i z hz
   split at e
   .rename_i hc
    obtain⟨c1,c2,c3,c4,c5,c6,c7⟩:=hc;simp only[qb,yd]at e;obtain⟨rfl,rfl⟩:=e;obtain⟨inf,hu,hinf,hsz,hbt⟩:=yq hs;have hso:szOf P el=some sz:=by simp[szOf,hinf,hsz]
    obtain⟨it,zv,hit,hzv,rfl⟩:=uA hz;have g:=vM (G:=G) (h:=w.heap) zv (fun c hc=>by simpa using qt.1 c6 c hc);have hzr:(zeroValue el).run P w = .ok zv w:=by simp[zeroValue,typeInfo,hit,hzv]
    have hw1:qJ.wrap l=l:=qo (by omega) (by omega);have hw2:qJ.wrap c=c:=qo (by omega) (by omega);have hb1:((inf.bytes:Nat):Int)*c<=2 ^ 48:=by
     rw[hbt];have h1:(bt:Int)*c<=16384*4294967296:=Int.mul_le_mul (by omega) (by omega) (by omega) (by omega);omega
    have hszz:zv.cells.size=sz:=by rw[g.1,c5]
    let arr:Array Value:=(Array.range (c.toNat*sz)).map ((if c.toNat*sz=0 then #[] else zv.cells)[· % (if c.toNat*sz=0 then #[] else zv.cells).size]!)
    have harr:arr.size=c.toNat*sz:=by simp[arr]
    have hlc:l.toNat*sz<=c.toNat*sz:=Nat.mul_le_mul_right _ (by omega);have hzl:(vO l.toNat (ofV zv).cells).length=l.toNat*sz:=by rw[ZT,ZR,c5]
    have st:=Stp.allocNew s (.cells arr el) (.arr (vO l.toNat (ofV zv).cells)) (c.toNat*sz) (by
     intro _;refine⟨arr,el,rfl,harr,by omega,fun j y hj=>?_⟩;have hj':j<l.toNat*sz:=by rw[<-hzl];exact(qc.1 hj).1
     have hne:¬c.toNat*sz=0:=by omega
     rw[ZT]at hj;have hy:=ZQ _ _ hj;refine⟨by simpa using qt.1 c6 y (qC hy),?_⟩;have:=g.2 _ y hy;simp only[arr,if_neg hne];rw[ZS (by omega) (by omega),hszz,<-c5];exact this)
    refine⟨.slice (some ⟨w.heap.size,0,none⟩) l.toNat c.toNat,_,_,?_,st,?_⟩
    .have hti:(typeInfo el).run P w = .ok inf w:=by simp[typeInfo,hinf]
     have n1:¬(((inf.bytes:Nat):Int)*c > 2 ^ 48):=by omega
     have hcond:((decide (c<0)||decide (((inf.bytes:Nat):Int)*c > 2 ^ 48))||decide (l<0)||decide (l > c))=false:=by
      simp only[Bool.or_eq_false_iff,decide_eq_false_iff_not];exact⟨⟨⟨by omega,n1⟩,by omega⟩,by omega⟩
     simp only[Instr.makeSlice,ql,run_underlying hu,qm,asInt,asIntOf,qG,hti,hw1,hw2,hcond,Bool.false_eq_true,if_false,run_askRoom,zl hso];by_cases h0:c.toNat*sz=0
     .simp only[if_pos h0,ql,qG,qm,newRow,run_newObj]
      simp only[arr,if_pos h0];rfl
     .simp only[if_neg h0,ql,hzr,qG,qm,newRow,run_newObj]
      simp only[arr,if_neg h0];rfl
    .refine .sl _ sz 0 _ w.heap.size (c.toNat*sz) c.toNat ?_ (by omega) (by omega)
     show (G.blk++[_])[mu.length]?=_;rw[<-s.len];simp
   .exact absurd e (by simp)
  .exact absurd e (by simp)
 .exact absurd e (by simp)
end Go.Ev
namespace Go.Ev
open Go Go.RowKit
def qZ(mu:Mu):AV->Option (List (List AV))
 | .lst _ xs=>some xs
 | .sl b sz off len=>match mu[b]? with
  |some (.arr cells)=>if off+len*sz<=cells.length then some ((qg len).map fun i=>(cells.drop (off+i*sz)).take sz) else none
  |_=>none
 |_=>none
theorem wQ(sz:Nat):∀(len:Nat) (cells:List AV),len*sz<=cells.length->((qg len).map fun i=>(cells.drop (i*sz)).take sz).flatten=cells.take (len*sz):=by
 intro len;induction len with
 |zero=>intro cells _;simp
 |succ n ih =>
  intro cells h;rw[List.range_succ,yC,List.flatten_append,ih cells (by rw[Nat.succ_mul]at h;omega)];simp only[List.map_cons,List.map_nil,yo,List.flatten_nil,List.append_nil,Nat.succ_mul];rw[List.take_add]
theorem uB{P:Program}{G:Gh}{mu:Mu}{w:World}(s:Sim G mu w.heap){x:AV}{v:Value}{ys:List (List AV)}{sz:Nat}(r:VRel G w.heap x v)(h:qZ mu x=some ys)(hz:qK sz ys) :
  ∃(a:Option Addr) (cap:Nat) (news:List Value),v = .slice a ys.length cap/\news.length=ys.length*sz/\(∀ u∈news,u.oneCell'=true) /\
   (∀(k:Nat) y,ys.flatten[k]?=some y->VRel G w.heap y (news.getD k undef))/\(Builtin.firstCells sz ys.length v).run P w = .ok news.toArray w/\(Builtin.firstCells sz ys.length v).run P w.drew = .ok news.toArray w.drew:=by
 have fin:∀(a:Addr) (cap:Nat) (rd:Nat->Value),(∀(k:Nat) y,ys.flatten[k]?=some y->w.cell? (a.add k)=some (rd k)/\VRel G w.heap y (rd k))->v = .slice (some a) ys.length cap ->
   ∃(a:Option Addr) (cap:Nat) (news:List Value),v = .slice a ys.length cap/\news.length=ys.length*sz/\(∀ u∈news,u.oneCell'=true) /\
   (∀(k:Nat) y,ys.flatten[k]?=some y->VRel G w.heap y (news.getD k undef))/\(Builtin.firstCells sz ys.length v).run P w = .ok news.toArray w/\(Builtin.firstCells sz ys.length v).run P w.drew = .ok news.toArray w.drew:=by
  intro a cap rd hrd hv;subst hv;have hfl:=zd hz.ok;have hget:∀ k,k<ys.length*sz->∃ y,ys.flatten[k]?=some y:=fun k hk=>⟨ys.flatten[k]'(by omega),by simp[hfl,hk]⟩
  refine⟨some a,cap,(qg (ys.length*sz)).map rd,rfl,by simp,?_,?_,?_,?_⟩
  .intro u hu
   obtain⟨k,hk,rfl⟩:=qr.1 hu;obtain⟨y,hy⟩:=hget k (by simpa using hk);exact(hrd k y hy).2.one (hz.one y (qC hy))
  .intro k y hy
   have hk:k<ys.length*sz:=by rw[<-hfl];exact(qc.1 hy).1
   have e:((qg (ys.length*sz)).map rd).getD k undef=rd k:=by simp[qH,hk]
   rw[e];exact(hrd k y hy).2
  .simp only[Builtin.firstCells]
   exact run_loadCells w a _ rd (fun j hj=>by obtain⟨y,hy⟩:=hget j hj;exact(hrd j y hy).1)
  .simp only[Builtin.firstCells]
   exact run_loadCells w.drew a _ rd (fun j hj=>by obtain⟨y,hy⟩:=hget j hj;exact(hrd j y hy).1)
 unfold qZ at h;split at h
 .rename_i full xs
  simp only[qb]at h;subst h;cases r with
  |nil=>exact⟨none,0,[],rfl,by simp,by simp,by simp,by simp[Builtin.firstCells],by simp[Builtin.firstCells]⟩
  |emp _ a cap hc=>exact fin a cap (fun _=>undef) (by simp) rfl
  |lst _ _ sz' a cap cs e fr rd hb hs hl hc hi hz' hr hv =>
   exact fin a cap rd (fun k y hy=>⟨by rw[jD hb hs];exact hr k y hy,hv k y hy⟩) rfl
 .rename_i b sz' off len
  split at h
  .rename_i cells hc
   split at h
   .rename_i hle
    simp only[qb]at h;cases r with
    |sl _ _ _ _ blk tot cap hb ht hl =>
    obtain⟨arr,e,h1,h2,h3,h4⟩:=s.arr b cells blk tot hc hb;have hlen:ys.length=len:=by rw[<-h];simp
    subst hlen;by_cases h0:ys.length=0
    .have:ys=[]:=yn h0
     subst this;exact fin ⟨blk,off,none⟩ cap (fun _=>undef) (by simp) rfl
    .have hszz:sz'=sz:=by
      have h00:0<ys.length:=by omega
      have hm:(cells.drop (off+0*sz')).take sz'∈ys:=by
       rw[<-h];exact qr.2 ⟨0,by simpa using h00,rfl⟩
      have:=(hz _ hm).1;have hle':sz'<=ys.length*sz':=Nat.le_mul_of_pos_left _ h00;simp at this;omega
     subst hszz;have hfl:ys.flatten=(cells.drop off).take (ys.length*sz'):=by
      rw[<-h];have:=wQ sz' ys.length (cells.drop off) (by simp;omega);simp only[List.drop_drop]at this;simpa using this
     refine fin ⟨blk,off,none⟩ cap (fun k=>arr.getD (off+k) undef) (fun k y hy=>?_) rfl;rw[hfl,zu]at hy;split at hy
     .rw [zH]at hy
      refine⟨?_,(h4 _ y hy).2⟩;rw[jD (a:=⟨blk,off,none⟩) h1 rfl];have hlt:off+k<cells.length:=(qc.1 hy).1;have:off+k<arr.size:=by omega
      simp[qi,this]
     .exact absurd hy (by simp)
   .exact absurd h (by simp)
  .exact absurd h (by simp)
 .exact absurd h (by simp)
def zP(P:Program)(mu:Mu)(argTypes:Array TypeId)(s x:AV)(K:AV->Mu->Prop):Prop:=
  ∃ t t' e sz bt ys,argTypes=#[t,t']/\qp P t=some (e,sz,bt)/\(qp P t').isSome=true/\(∃ zv,qn P e=some zv/\zv.cells.length=sz/\zv.cells.all AV.one=true)/\sz≠0/\bt<=16384/\qZ mu x=some ys/\qK sz ys /\
    ((∃ xs,s = .lst true xs/\qK sz xs/\xs.length+ys.length<=4294967296/\(ys=[]->K s mu)/\(ys≠[]->K (.sl mu.length sz 0 (xs.length+ys.length)) (mu++[.arr (xs++ys).flatten]))) \/
     (∃ b len cells,s = .sl b sz 0 len/\mu[b]?=some (.arr cells)/\len*sz<=cells.length/\len+ys.length<=4294967296 /\
        K (.sl mu.length sz 0 (len+ys.length)) (mu.set b .dead++[.arr (cells.take (len*sz)++ys.flatten)])))
theorem ZU{P:Program}{w:World}{t t' ty e:TypeId}{i:TypeInfo}{d:TypeId}(ht:P.underlying t=some (.slice e))(ht':P.underlying t'=some (.slice d))(hi:P.info? e=some i)
  {base:Option Addr} {sLen sCap n cap:Nat} {a:Option Addr} {news:List Value} {w':World}
  (hf:(Builtin.firstCells i.size n (.slice a n cap)).run P w = .ok news.toArray w) (hroom:sLen+n<=sCap)
  (hst:∀ b,base=some b->(storeCells (b.add (sLen*i.size)) news).run P w = .ok () w') (hno:base=none->w'=w) :
  (Builtin.append_ #[t,t'] ty #[.slice base sLen sCap,.slice a n cap]).run P w = .ok (.slice base (sLen+n) sCap) w':=by
 cases base with
 |none =>
  have:=hno rfl;subst this;simp[Builtin.append_,run_underlying ht,run_underlying ht',sizeOf,typeInfo,hi,Builtin.lenOf,hroom,hf]
 |some b =>
  have:=hst b rfl;simp[Builtin.append_,run_underlying ht,run_underlying ht',sizeOf,typeInfo,hi,Builtin.lenOf,hroom,hf,this]
theorem V3{P:Program}{w:World}{t t' ty e:TypeId}{i:TypeInfo}{z:Value}{d:TypeId}(ht:P.underlying t=some (.slice e))(ht':P.underlying t'=some (.slice d))(hi:P.info? e=some i)(hz:i.zero=some z)
  {base a:Option Addr} {sLen sCap n cap:Nat} {olds news:List Value}
  (hfo:(Builtin.firstCells i.size sLen (.slice base sLen sCap)).run P w.drew = .ok olds.toArray w.drew) (hf:(Builtin.firstCells i.size n (.slice a n cap)).run P w.drew = .ok news.toArray w.drew)
  (hg:sCap<sLen+n) (h63:((sLen+n:Nat):Int)<=9223372036854775807) (hfit:Builtin.nextslicecap (sLen+n) sCap*i.bytes<=281474976710656) :
  (Builtin.append_ #[t,t'] ty #[.slice base sLen sCap,.slice a n cap]).run P w =
   .ok (.slice (some ⟨w.heap.size,0,none⟩) (sLen+n) (grownCap w (sLen+n) sCap e))
    (w.drew.alloc (.cells (olds++(news++(za z.cells (grownCap w (sLen+n) sCap e-(sLen+n))).toList)).toArray e)):=by
 have hn:¬(sLen+n<=sCap):=by omega
 have h63':¬(9223372036854775807<((sLen:Int)+(n:Int))):=by omega
 have h48':¬(281474976710656<Builtin.nextslicecap (sLen+n) sCap*i.bytes):=by omega
 simp[Builtin.append_,run_underlying ht,run_underlying ht',sizeOf,typeInfo,zeroValue,hi,hz,Builtin.lenOf,hn,h63',h48',Question.forced,hf,hfo,newRow,grownCap];congr 2;apply Array.ext';simp[zW]
theorem ZV(w:World)(need old:Nat)(e:TypeId):need<=grownCap w need old e:=by
 simp only[grownCap,Question.cut];omega
theorem ZW{need cap bt:Nat}(h:cap<need)(hn:need<=4294967296)(hb:bt<=16384):Builtin.nextslicecap need cap*bt<=281474976710656:=by
 refine growslice_fits h ?_;have:need*bt<=4294967296*16384:=Nat.mul_le_mul hn hb;omega
theorem ZX{P:Program}{G:Gh}{mu:Mu}{w:World}(s:Sim G mu w.heap){argTypes:Array TypeId}{ty:TypeId}{sv xv:AV}{vs vx:Value}(rs:VRel G w.heap sv vs)(rx:VRel G w.heap xv vx){K:AV->Mu->Prop}
  (h:zP P mu argTypes sv xv K):∃ z mu',K z mu'/\Good P G mu w (Builtin.append_ argTypes ty #[vs,vx]) z mu':=by
 obtain⟨t,t',e,sz,bt,ys,rfl,hst,hst',⟨zv,hze,hzl,hz1⟩,hsz0,hbt,hys,hwf,h⟩:=h;obtain⟨i,hu,hi,rfl,rfl⟩:=yq hst;obtain⟨d,hu'⟩:∃ d,P.underlying t'=some (.slice d):=by
  cases hq:qp P t' with
  |none=>simp[hq]at hst'
  |some q=>obtain⟨e',sz',bt'⟩:=q;obtain⟨i',h1,_⟩:=yq hq;exact⟨e',h1⟩
 obtain⟨i',z,hi',hz,rfl⟩:=uA hze;obtain rfl:i=i':=Option.some.inj (hi.symm.trans hi');have hzs0:z.cells.size=i.size:=by rw[(vM (G:=G) (h:=w.heap) z (fun c hc=>by simpa using qt.1 hz1 c hc)).1,hzl]
 obtain⟨a,cap,news,rfl,hnl,hone,hnews,hf,hfd⟩:=uB (P:=P) s rx hys hwf;have hyl:=zd hwf.ok
 have grow:∀(base:Option Addr) (sLen sCap:Nat) (olds:List Value) (oc:List AV) (mu1:Mu) (G1:Gh),sLen*i.size=oc.length->olds.length=oc.length->(∀(k:Nat) y,oc[k]?=some y->y.one=true/\VRel G w.heap y (olds.getD k undef)) ->
   (Builtin.firstCells i.size sLen (.slice base sLen sCap)).run P w.drew = .ok olds.toArray w.drew->sCap<sLen+ys.length->sLen+ys.length<=4294967296 ->
   Good P G mu w (Builtin.append_ #[t,t'] ty #[.slice base sLen sCap,.slice a ys.length cap]) (.sl mu.length i.size 0 (sLen+ys.length)) (mu++[.arr (oc++ys.flatten)]):=by
  intro base sLen sCap olds oc mu1 G1 hoc hol hold hfo hg hle;have hrun:=V3 (ty:=ty) hu hu' hi hz hfo hfd hg (by omega) (ZW hg hle hbt);have hgc:=ZV w (sLen+ys.length) sCap e;generalize grownCap w (sLen+ys.length) sCap e=gc at hrun hgc;have hzs:(za z.cells (gc-(sLen+ys.length))).toList.length=(gc-(sLen+ys.length))*z.cells.size:=by simp[size_zeroCells]
  have sd:Sim G mu w.drew.heap:=s;have st:=Stp.allocNew sd (.cells (olds++(news++(za z.cells (gc-(sLen+ys.length))).toList)).toArray e) (.arr (oc++ys.flatten)) ((olds++(news++(za z.cells (gc-(sLen+ys.length))).toList)).length) (by
   intro _;refine⟨_,e,rfl,by simp,by simp only[zF];omega,fun j y hj=>?_⟩;rw[wO,qH];by_cases hjo:j<oc.length
   .rw [qh hjo]at hj
    rw[qh (by omega),<-qH];exact hold j y hj
   .rw [qB (by omega)]at hj
    rw[qB (by omega),hol];have:j-oc.length<ys.flatten.length:=(qc.1 hj).1;rw[qh (by omega),<-qH];exact⟨hwf.one y (qC hj),hnews _ y hj⟩)
  have htot:(olds++(news++(za z.cells (gc-(sLen+ys.length))).toList)).length=gc*i.size:=by
   simp only[zF,hzs,hzs0,hol,<-hoc,hnl,<-Nat.add_mul];congr 1;omega
  rw[htot]at st;refine⟨_,_,_,hrun,(Stp.drew s).trans s st,?_⟩;refine .sl _ i.size 0 _ w.heap.size (gc*i.size) gc ?_ (by omega) (by omega);show (G.blk++[_])[mu.length]?=_;rw[<-s.len];simp
 rcases h with ⟨xs,rfl,hxw,hle,hk0,hk1⟩|⟨b,len,cells,rfl,hc,hcl,hle,hk⟩
 .obtain ⟨a0,cap0,olds,rfl,hol,_,hold,hfo,hfod⟩:=uB (P:=P) s rs (ys:=xs) rfl hxw
  have hcap:cap0=xs.length:=by
   obtain⟨a1,c1,h1,_,h2,_⟩:=rs.lst_inv;cases h1;exact h2 rfl
  subst hcap;by_cases hy:ys=[]
  .subst hy
   refine⟨_,_,hk0 rfl,_,_,_,?_,Stp.refl s,rs⟩;have hn:news=[]:=yn (by simpa using hnl);subst hn;exact ZU (ty:=ty) hu hu' hi hf (by simp) (fun b hb=>rfl) (fun _=>rfl)
  .have hpos:0<ys.length:=List.length_pos_iff.2 hy
   have hxl:=zd hxw.ok;have:=grow a0 xs.length xs.length olds xs.flatten mu G hxl.symm (by rw[hol,hxl]) (fun k y hk=>⟨hxw.one y (qC hk),hold k y hk⟩) hfod (by omega) hle;rw[<-List.flatten_append]at this;exact⟨_,_,hk1 hy,this⟩
 .refine ⟨_,_,hk,?_⟩
  have hrows:qZ mu (.sl b i.size 0 len)=some ((qg len).map fun j=>(cells.drop (j*i.size)).take i.size):=by
   simp only[qZ,hc,zX];rw[if_pos hcl]
  have hb0:=rs;cases rs with
  |sl _ _ _ _ blk tot capS hb ht hl =>
  obtain⟨arr,e',h1,h2,h3,h4⟩:=s.arr b cells blk tot hc hb;have hwfr:qK i.size ((qg len).map fun j=>(cells.drop (j*i.size)).take i.size):=by
   intro r hr;obtain⟨j,hj,rfl⟩:=qr.1 hr;have hj':j<len:=by simpa using hj
   have:(j+1)*i.size<=len*i.size:=Nat.mul_le_mul_right _ hj';rw[Nat.succ_mul]at this;refine⟨by simp;omega,?_⟩;rw[qt];intro c hcm;obtain⟨k,hk⟩:=List.mem_iff_getElem?.1 (List.mem_of_mem_drop (yb hcm));exact(h4 k c hk).1
  have hfl:=wQ i.size len cells hcl;obtain⟨a0,cap0,olds,hv,hol,_,hold,hfo,hfod⟩:=uB (P:=P) s hb0 hrows hwfr;rw[hfl]at hold;simp only[zr,List.length_range]at hv hol hfo hfod;by_cases hroom:len+ys.length<=capS
  ·
   have hfit:len*i.size+news.length<=arr.size:=by
    have h5:=Nat.mul_le_mul_right i.size hroom;rw[Nat.add_mul]at h5;rw[hnl,h2];omega
   have hrun:=run_storeCells_at P blk (len*i.size) e' news 0 arr w h1 (by omega) hone;simp only[Nat.add_zero]at hrun;have hra:=ZU (ty:=ty) (w':=w.setRow blk (arr.toList.take (len*i.size)++news++arr.toList.drop (len*i.size+news.length)).toArray) hu hu' hi hf hroom (base:=some ⟨blk,0,none⟩)
    (fun b' hb'=>by
     cases hb';have:(⟨blk,0,none⟩:Addr).add (len*i.size)=⟨blk,len*i.size,none⟩:=by unfold Addr.add;split<;>simp_all
     rw[this];exact hrun) (by simp)
   have st1:=Stp.write (w':=w.setRow blk (arr.toList.take (len*i.size)++news++arr.toList.drop (len*i.size+news.length)).toArray) s b (.arr cells) (.arr (cells.take (len*i.size)++ys.flatten)) blk tot
    (.cells (arr.toList.take (len*i.size)++news++arr.toList.drop (len*i.size+news.length)).toArray e' (0,0)) hc (by simp) (by simp) hb (by simp) (setRow_heap w blk arr _ e' _ h1) (fun k hk=>setRow_other w blk k _ hk) rfl rfl rfl
    (by
     have hcl':(cells.take (len*i.size)).length=len*i.size:=by simp;omega
     have hal:(arr.toList.take (len*i.size)).length=len*i.size:=by simp;omega
     refine⟨_,e',rfl,by simp;omega,by simp only[zF,hcl',hyl];omega,fun j y hj=>?_⟩;rw[wO,qH,zW];by_cases hjo:j<len*i.size
     .rw [qh (by omega),zu,if_pos hjo]at hj
      rw[qh (by omega),zu,if_pos hjo,zI,<-qi];exact h4 j y hj
     .rw [qB (by omega),hcl']at hj
      rw[qB (by omega),hal];have:j-len*i.size<ys.flatten.length:=(qc.1 hj).1;rw[qh (by omega),<-qH];exact⟨hwf.one y (qC hj),hnews _ y hj⟩)
   have hblt:b<mu.length:=(qc.1 hc).1;have st2:=Stp.move st1.sim b (.arr (cells.take (len*i.size)++ys.flatten)) blk tot (by simp[hblt]) (by simp) hb;rw[List.set_set]at st2;refine⟨_,_,_,hra,st1.trans s st2,?_⟩;refine .sl _ i.size 0 _ blk tot capS ?_ ht hroom;show (G.blk++[_])[mu.length]?=_;rw[<-s.len];simp
  .obtain ⟨v,w',G',k1,k2,k3⟩:=grow (some ⟨blk,0,none⟩) len capS olds (cells.take (len*i.size)) mu G (by simp;omega) (by rw[hol];simp;omega) (fun k y hk=>by
    refine⟨?_,hold k y hk⟩;rw[zu]at hk;split at hk
    .exact (h4 k y hk).1
    .exact absurd hk (by simp)) hfod (by omega) hle
   have st2:=Stp.kill k2.sim b;have hblt:b<mu.length:=(qc.1 hc).1;rw[List.set_append_left _ _ hblt]at st2;exact⟨v,w',G',k1,k2.trans s st2,k3⟩
end Go.Ev
namespace Go.Ev
open Go Go.RowKit
structure St where
 tm:Nat->AV
 mu:Mu
def St.put(st:St)(d:Option Tmp)(v:AV)(m:Mu):St:=
 ⟨match d with|some d=>fun i=>if i=d then v else st.tm i|none=>st.tm,m⟩
def St.ev(st:St):Operand->AV
 | .tmp t=>st.tm t
 | .const v=>ofV v
 | .global _ => .any
 | .func f => .fn (.func f) [] []
structure Pol where
 mt:List Nat:=[]
inductive AEnd where
 |ret (v:AV)
 |pan (v:AV)
def qM(G:Gh)(h:Array Obj)(args:List AV)(vs:Array Value):Prop:=
 vs.size=args.length/\∀(k:Nat) x,args[k]?=some x->VRel G h x (vs.getD k undef)
def zn(P:Program)(f:FuncId):Prop:=∀(args:Array Value) (w:World),(callFunc f args).run P w = .ok (.enter f args) w
def qE(P:Program)(f:FuncId)(args:List AV)(mu:Mu)(R:AEnd->Mu->Prop):Prop:=zn P f /\
 ∀(G:Gh) (w:World) (vs:Array Value),Sim G mu w.heap->qM G w.heap args vs ->
  Calls P f vs w fun e w'=>∃ G' mu',Stp G mu w G' mu' w' /\
   ((∃ r v,R (.ret r) mu'/\e = .returned v/\VRel G' w'.heap r v)\/(∃ r v,R (.pan r) mu'/\e = .panicked [{ v,recovered:=false }]/\VRel G' w'.heap r v))
structure j5 (B:Nat) (w w':World):Prop extends Below B w w' where
 drawn:w.drawn<=w'.drawn
def qf(P:Program)(f:FuncId)(args:List AV)(r:AV):Prop:=zn P f /\
 ∀(imm:Nat->Prop) (w:World) (vs:Array Value),Sim ⟨imm,[]⟩ [] w.heap->qM ⟨imm,[]⟩ w.heap args vs ->
  Calls P f vs w fun e w'=>∃ imm' v,e = .returned v/\(∀ b,imm b->imm' b)/\(∀ b,imm' b->b<w'.heap.size/\(imm b\/w.heap.size<=b))/\j5 w.heap.size w w'/\VRel ⟨imm',[]⟩ w'.heap r v
def wR(P:Program)(f:FuncId)(args:List AV)(r:AV):Prop:=zn P f /\
 ∀(imm:Nat->Prop) (w:World) (vs:Array Value),Sim ⟨imm,[]⟩ [] w.heap->qM ⟨imm,[]⟩ w.heap args vs ->
  Calls P f vs w fun e w'=>∃ nw v,e = .returned v/\(∀ b,nw b->w.heap.size<=b/\b<w'.heap.size)/\j5 w.heap.size w w'/\VRel ⟨nw,[]⟩ w'.heap r v
def HF(x:AV):Prop:=∀(G:Gh) (h:Array Obj) (v:Value),VRel G h x v->VRel ⟨G.imm,[]⟩ h x v
def FL(x:AV):Prop:=∀(G G':Gh) (h h':Array Obj) (v:Value),VRel G h x v->VRel G' h' x v
theorem HF.any:HF .any:=fun _ _ v _ => .any v
theorem HF.sc(v:Value):HF (.sc v):=fun _ _ u r=>by cases r with|sc _ hv=>exact .sc _ hv
theorem HF.agg{cs:List AV}(h:∀ c,c∈cs->HF c):HF (.agg cs):=fun G hp u r=>by
 cases r with
 |agg _ vs hn hv=>exact .agg _ _ hn (fun k x hx=>h x (qC hx) G hp _ (hv k x hx))
theorem HF.tup{cs:List AV}(h:∀ c,c∈cs->HF c):HF (.tup cs):=fun G hp u r=>by
 cases r with
 |tup _ vs hn hv=>exact .tup _ _ hn (fun k x hx=>h x (qC hx) G hp _ (hv k x hx))
theorem HF.ip{cs:List AV}(h:∀ c,c∈cs->HF c):HF (.ip cs):=fun G hp u r=>by
 cases r with
 |ip _ a arr e fr rd hb hs hi hr hv=>exact .ip _ a arr e fr rd hb hs hi hr (fun k x hx=>h x (qC hx) G hp _ (hv k x hx))
theorem HF.ifc{t:TypeId}{x:AV}(h:HF x):HF (.ifc t x):=fun G hp u r=>by
 cases r with
 |ifc _ _ v hv=>exact .ifc _ _ _ (h G hp v hv)
theorem HF.lst{full:Bool}{xs:List (List AV)}(h:∀ r,r∈xs->∀ c,c∈r->HF c):HF (.lst full xs):=fun G hp u r=>by
 cases r with
 |nil=>exact .nil _
 |emp _ a cap hc=>exact .emp _ a cap hc
 |lst _ _ sz a cap cs e fr rd hb hs hl hc hi hz hr hv =>
  refine .lst _ _ sz a cap cs e fr rd hb hs hl hc hi hz hr (fun k x hx=>?_);obtain⟨row,h1,h2⟩:=wE.1 (qC hx);exact h row h1 x h2 G hp _ (hv k x hx)
theorem HF.fn{f:Fn}{first caps:List AV}(h1:∀ c,c∈first->HF c)(h2:∀ c,c∈caps->HF c):HF (.fn f first caps):=fun G hp u r=>by
 cases r with
 |fn _ _ _ vs ws hn hm hv hw=>exact .fn _ _ _ vs ws hn hm (fun k x hx=>h1 x (qC hx) G hp _ (hv k x hx)) (fun k x hx=>h2 x (qC hx) G hp _ (hw k x hx))
theorem HF.im{es:List (AV×AV)}(h:∀ p,p∈es->HF p.1/\HF p.2):HF (.im es):=fun G hp u r=>by
 cases r with
 |im _ blk ce clock hb hi hn hk hv hd=>exact .im _ blk ce clock hb hi hn (fun k x hx=>(h x (qC hx)).1 G hp _ (hk k x hx)) (fun k x hx=>(h x (qC hx)).2 G hp _ (hv k x hx)) hd
theorem HF.ims{es:List (AV×AV)}(h:∀ p,p∈es->HF p.1/\HF p.2):HF (.ims es):=fun G hp u r=>by
 cases r with
 |ims _ es' σ τ _ hpi hd r =>
  refine .ims _ es' σ τ _ hpi hd (HF.im (fun p hp'=>?_) G hp _ r);obtain⟨j,hj⟩:=List.mem_iff_getElem?.1 hp';have hlt:j<es.length:=by rw[<-hpi.1];exact(qc.1 hj).1
  rw[hpi.back hlt]at hj;exact h p (qC hj)
theorem FL.sc(v:Value):FL (.sc v):=fun _ _ _ _ u r=>by cases r with|sc _ hv=>exact .sc _ hv
theorem FL.agg{cs:List AV}(h:∀ c,c∈cs->FL c):FL (.agg cs):=fun G G' hp hp' u r=>by
 cases r with
 |agg _ vs hn hv=>exact .agg _ _ hn (fun k x hx=>h x (qC hx) G G' hp hp' _ (hv k x hx))
theorem FL.tup{cs:List AV}(h:∀ c,c∈cs->FL c):FL (.tup cs):=fun G G' hp hp' u r=>by
 cases r with
 |tup _ vs hn hv=>exact .tup _ _ hn (fun k x hx=>h x (qC hx) G G' hp hp' _ (hv k x hx))
theorem FL.ifc{t:TypeId}{x:AV}(h:FL x):FL (.ifc t x):=fun G G' hp hp' u r=>by
 cases r with
 |ifc _ _ v hv=>exact .ifc _ _ _ (h G G' hp hp' v hv)
inductive Rd (mu:Mu):AV->AV->Prop
 |hf (x:AV) (h:HF x):Rd mu x x
 |sl (b sz off len:Nat) (cells:List AV) (ys:List (List AV)) (hc:mu[b]?=some (.arr cells)) (hl:off+len*sz<=cells.length) (hn:ys.length=len) (hz:zm sz ys)
   (h:∀(k:Nat) x y,cells[off+k]?=some x->ys.flatten[k]?=some y->Rd mu x y):Rd mu (.sl b sz off len) (.lst false ys)
 |ptr (b off:Nat) (cells ys:List AV) (hc:mu[b]?=some (.arr cells)) (hn:off+ys.length<=cells.length) (h:∀(k:Nat) x y,cells[off+k]?=some x->ys[k]?=some y->Rd mu x y):Rd mu (.ptr b off) (.ip ys)
 |mp (b:Nat) (es fs:List (AV×AV)) (hc:mu[b]?=some (.mp es)) (hn:fs.length=es.length) (hk:∀(k:Nat) x y,es[k]?=some x->fs[k]?=some y->Rd mu x.1 y.1) (hv:∀(k:Nat) x y,es[k]?=some x->fs[k]?=some y->Rd mu x.2 y.2):Rd mu (.mp b) (.im fs)
 |md (b:Nat) (es fs:List (AV×AV)) (hc:mu[b]?=some (.md es)) (hn:fs.length=es.length) (hk:∀(k:Nat) x y,es[k]?=some x->fs[k]?=some y->Rd mu x.1 y.1) (hv:∀(k:Nat) x y,es[k]?=some x->fs[k]?=some y->Rd mu x.2 y.2):Rd mu (.mp b) (.im fs)
 |agg (xs ys:List AV) (hn:ys.length=xs.length) (h:∀(k:Nat) x y,xs[k]?=some x->ys[k]?=some y->Rd mu x y):Rd mu (.agg xs) (.agg ys)
 |tup (xs ys:List AV) (hn:ys.length=xs.length) (h:∀(k:Nat) x y,xs[k]?=some x->ys[k]?=some y->Rd mu x y):Rd mu (.tup xs) (.tup ys)
 |lst (full:Bool) (xs ys:List (List AV)) (hn:ys.length=xs.length) (hz:∀(k:Nat) x y,xs[k]?=some x->ys[k]?=some y->x.length=y.length) (h:∀(k:Nat) x y,xs.flatten[k]?=some x->ys.flatten[k]?=some y->Rd mu x y):Rd mu (.lst full xs) (.lst full ys)
 |fn (f:Fn) (first first' caps caps':List AV) (hn:first'.length=first.length) (hm:caps'.length=caps.length) (h:∀(k:Nat) x y,first[k]?=some x->first'[k]?=some y->Rd mu x y) (h':∀(k:Nat) x y,caps[k]?=some x->caps'[k]?=some y->Rd mu x y) :
   Rd mu (.fn f first caps) (.fn f first' caps')
 |ifc (t:TypeId) (x y:AV) (h:Rd mu x y):Rd mu (.ifc t x) (.ifc t y)
 |wk (x:AV) (full:Bool) (ys:List (List AV)) (h:Rd mu x (.lst full ys)):Rd mu x (.lst false ys)
 |ims (x:AV) (es es':List (AV×AV)) (σ τ:Nat->Nat) (hp:PIx σ τ es es') (hd:(es.map Prod.fst).Nodup) (h:Rd mu x (.im es')):Rd mu x (.ims es)
theorem ZY{xs ys:List (List AV)}(hn:ys.length=xs.length)(hz:∀(k:Nat) x y,xs[k]?=some x->ys[k]?=some y->x.length=y.length):xs.flatten.length=ys.flatten.length:=by
 induction xs generalizing ys with
 |nil=>cases ys with
  |nil=>rfl
  |cons=>simp at hn
 |cons x xs ih =>
  cases ys with
  |nil=>simp at hn
  |cons y ys =>
   have h0:=hz 0 x y rfl rfl;have:=ih (ys:=ys) (by simpa using hn) (fun k a b ha hb=>hz (k+1) a b (by simpa using ha) (by simpa using hb));simp only[yo,zF,h0,this]
theorem Rd.sound{G:Gh}{mu:Mu}{h:Array Obj}(s:Sim G mu h){x y:AV}(r:Rd mu x y):∀{v:Value},VRel G h x v->VRel ⟨fun b=>G.imm b\/Live G mu b,[]⟩ h y v:=by
 have hle:Gh.le ⟨G.imm,[]⟩ ⟨fun b=>G.imm b\/Live G mu b,[]⟩:=⟨fun b h => .inl h,fun _ _ h=>h⟩;induction r with
 |hf x hx=>intro v r;exact(hx G h v r).le hle
 |sl b sz off len cells ys hc hl hn hz hrec ih =>
  intro v r;subst hn;cases r with
  |sl _ _ _ _ blk tot cap hb ht hcap =>
  obtain⟨arr,e,h1,h2,h3,h4⟩:=s.arr b cells blk tot hc hb;by_cases h0:ys=[]
  .subst h0;exact .emp false _ cap (by simp)
  .have hfl:=zd hz
   have hget:∀(k:Nat) y,ys.flatten[k]?=some y->∃ x,cells[off+k]?=some x:=by
    intro k y hy;have hk:k<ys.length*sz:=by rw[<-hfl];exact(qc.1 hy).1
    exact⟨cells[off+k]'(by omega),by simp[show off+k<cells.length by omega]⟩
   refine .lst false ys sz ⟨blk,off,none⟩ cap arr e (0,0) (fun k=>arr.getD (off+k) undef) h1 rfl hcap (by simp) (.inr ⟨b,_,tot,hc,by simp,hb⟩) hz ?_ ?_
   .intro k y hy
    obtain⟨x,hx⟩:=hget k y hy;have:off+k<arr.size:=by have:=(qc.1 hx).1;omega
    simp[qi,this]
   .intro k y hy
    obtain⟨x,hx⟩:=hget k y hy;exact ih k x y hx hy (h4 _ x hx).2
 |ptr b off cells ys hc hn hrec ih =>
  intro v r;cases r with
  |ptr _ _ blk tot hb =>
  obtain⟨arr,e,h1,h2,h3,h4⟩:=s.arr b cells blk tot hc hb;have hget:∀(k:Nat) y,ys[k]?=some y->∃ x,cells[off+k]?=some x:=by
   intro k y hy;have hk:k<ys.length:=(qc.1 hy).1;exact⟨cells[off+k]'(by omega),by simp[show off+k<cells.length by omega]⟩
  refine .ip ys ⟨blk,off,none⟩ arr e (0,0) (fun k=>arr.getD (off+k) undef) h1 rfl (.inr ⟨b,_,tot,hc,by simp,hb⟩) ?_ ?_
  .intro k y hy
   obtain⟨x,hx⟩:=hget k y hy;have:off+k<arr.size:=by have:=(qc.1 hx).1;omega
   simp[qi,this]
  .intro k y hy
   obtain⟨x,hx⟩:=hget k y hy;exact ih k x y hx hy (h4 _ x hx).2
 |mp b es fs hc hn hk hv ihk ihv =>
  intro v r;cases r with
  |mp _ blk tot hb =>
  obtain⟨ce,cl,h1,h2,h3,h4,h5,h6⟩:=s.mp b es blk tot hc hb;have hget:∀(k:Nat) y,fs[k]?=some y->∃ x,es[k]?=some x:=by
   intro k y hy;have hk:k<fs.length:=(qc.1 hy).1;exact⟨es[k]'(by omega),by simp[show k<es.length by omega]⟩
  refine .im fs blk ce cl h1 (.inr ⟨b,_,tot,hc,by simp,hb⟩) (by omega) ?_ ?_ (.of h5 h6)
  .intro k y hy
   obtain⟨x,hx⟩:=hget k y hy;exact ihk k x y hx hy (h3 k x hx)
  .intro k y hy
   obtain⟨x,hx⟩:=hget k y hy;exact ihv k x y hx hy (h4 k x hx)
 |md b es fs hc hn hk hv ihk ihv =>
  intro v r;cases r with
  |mp _ blk tot hb =>
  obtain⟨ce,cl,h1,h2,h3,h4,h5⟩:=s.md b es blk tot hc hb;have hget:∀(k:Nat) y,fs[k]?=some y->∃ x,es[k]?=some x:=by
   intro k y hy;have hk:k<fs.length:=(qc.1 hy).1;exact⟨es[k]'(by omega),by simp[show k<es.length by omega]⟩
  refine .im fs blk ce cl h1 (.inr ⟨b,_,tot,hc,by simp,hb⟩) (by omega) ?_ ?_ h5
  .intro k y hy
   obtain⟨x,hx⟩:=hget k y hy;exact ihk k x y hx hy (h3 k x hx)
  .intro k y hy
   obtain⟨x,hx⟩:=hget k y hy;exact ihv k x y hx hy (h4 k x hx)
 |agg xs ys hn hrec ih =>
  intro v r;cases r with
  |agg _ vs hm hv =>
  refine .agg _ _ (by omega) (fun k y hy=>?_);have hk:k<ys.length:=(qc.1 hy).1;have hx:xs[k]?=some (xs[k]'(by omega)):=by simp[show k<xs.length by omega]
  exact ih k _ y hx hy (hv k _ hx)
 |tup xs ys hn hrec ih =>
  intro v r;cases r with
  |tup _ vs hm hv =>
  refine .tup _ _ (by omega) (fun k y hy=>?_);have hk:k<ys.length:=(qc.1 hy).1;have hx:xs[k]?=some (xs[k]'(by omega)):=by simp[show k<xs.length by omega]
  exact ih k _ y hx hy (hv k _ hx)
 |lst full xs ys hn hz hrec ih =>
  intro v r;have hfl:=ZY hn hz;cases r with
  |nil=>cases ys with
   |nil=>exact .nil _
   |cons=>simp at hn
  |emp _ a cap hc=>cases ys with
   |nil=>exact .emp _ a cap hc
   |cons=>simp at hn
  |lst _ _ sz a cap cs e fr rd hb hs hl hc hi hz' hr hv =>
   rw[<-hn];have hget:∀(k:Nat) y,ys.flatten[k]?=some y->∃ x,xs.flatten[k]?=some x:=by
    intro k y hy;have hk:k<ys.flatten.length:=(qc.1 hy).1;exact⟨xs.flatten[k]'(by omega),by simp only[qs (show k<xs.flatten.length by omega)]⟩
   refine .lst full ys sz a cap cs e fr rd hb hs (by omega) (by rw[hn];exact hc) (.inl hi) ?_ ?_ ?_
   .intro r hr'
    obtain⟨k,hk⟩:=List.mem_iff_getElem?.1 hr';have hkl:k<ys.length:=(qc.1 hk).1;have hx:xs[k]?=some (xs[k]'(by omega)):=by simp[show k<xs.length by omega]
    rw[<-hz k _ r hx hk];exact hz' _ (qC hx)
   .intro k y hy
    obtain⟨x,hx⟩:=hget k y hy;exact hr k x hx
   .intro k y hy
    obtain⟨x,hx⟩:=hget k y hy;exact ih k x y hx hy (hv k x hx)
 |fn f first first' caps caps' hn hm hrec hrec' ih ih' =>
  intro v r;cases r with
  |fn _ _ _ vs ws hvn hwn hv hw =>
  refine .fn f _ _ vs ws (by omega) (by omega) (fun k y hy=>?_) (fun k y hy=>?_)
  .have hk:k<first'.length:=(qc.1 hy).1
   have hx:first[k]?=some (first[k]'(by omega)):=by simp[show k<first.length by omega]
   exact ih k _ y hx hy (hv k _ hx)
  .have hk:k<caps'.length:=(qc.1 hy).1
   have hx:caps[k]?=some (caps[k]'(by omega)):=by simp[show k<caps.length by omega]
   exact ih' k _ y hx hy (hw k _ hx)
 |ifc t x y hrec ih =>
  intro v r;cases r with
  |ifc _ _ v hv=>exact .ifc t y v (ih hv)
 |wk x full ys hrec ih =>
  intro v r;have:=ih r;cases this with
  |nil=>exact .nil _
  |emp _ a cap hc=>exact .emp _ a cap (by simp)
  |lst _ _ sz a cap cs e fr rd hb hs hl hc hi hz hr hv=>exact .lst _ _ sz a cap cs e fr rd hb hs hl (by simp) hi hz hr hv
 |ims x es es' σ τ hp hd hrec ih =>
  intro v r;exact .ims es es' σ τ v hp hd (ih r)
end Go.Ev
namespace Go.Ev
open Go Go.RowKit
def cutM(keep:Nat->Bool):Mu->Nat->Mu
 | [],_=>[]
 |c :: l,i=>(if keep i=true then c else .dead) :: cutM keep l (i+1)
theorem y9(keep:Nat->Bool):∀(mu:Mu) (i k:Nat),(cutM keep mu k)[i]?=(mu[i]?).map fun c=>if keep (k+i)=true then c else .dead
 | [],i,k=>by simp[cutM]
 |c :: l,0,k=>by simp[cutM]
 |c :: l,i+1,k=>by
  rw[cutM,y6,y6,y9 keep l i (k+1)];have:k+1+i=k+(i+1):=by omega
  rw[this]
theorem yG(keep:Nat->Bool):∀(mu:Mu) (k:Nat),(cutM keep mu k).length=mu.length
 | [],_=>rfl
 |c :: l,k=>by simp[cutM,yG keep l (k+1)]
theorem zQ{keep:Nat->Bool}{mu:Mu}{i:Nat}{c:Cell}(h:(cutM keep mu 0)[i]?=some c)(hc:c ≠ .dead):mu[i]?=some c/\keep i=true:=by
 rw[y9]at h;cases hm:mu[i]? with
 |none=>rw[hm]at h;simp at h
 |some c' =>
  rw[hm]at h;simp only[qw,zX,qb]at h;by_cases hk:keep i=true
  .rw [if_pos hk]at h;subst h;exact⟨rfl,hk⟩
  .rw [if_neg hk]at h;exact absurd h.symm hc
theorem Live.cut{G:Gh}{keep:Nat->Bool}{mu:Mu}{b:Nat}(h:Live G (cutM keep mu 0) b):Live G mu b:=by
 obtain⟨i,c,tot,h1,h2,h3⟩:=h;exact⟨i,c,tot,(zQ h1 h2).1,h2,h3⟩
theorem Sim.cut{G:Gh}{mu:Mu}{h:Array Obj}(s:Sim G mu h)(keep:Nat->Bool):Sim G (cutM keep mu 0) h:=by
 refine⟨by rw[yG];exact s.len,s.imm,fun i c blk tot h1 h2 h3=>s.obj i c blk tot (zQ h1 h2).1 h2 h3,fun i c blk tot h1 h2 h3=>s.live i c blk tot (zQ h1 h2).1 h2 h3,?_,s.tab⟩;intro i j ci cj b ti tj h1 h2 h3 h4 h5 h6;exact s.inj i j ci cj b ti tj (zQ h1 h3).1 (zQ h2 h4).1 h3 h4 h5 h6
def frz(G:Gh)(give:Nat->Bool)(mu:Mu):Gh:=⟨fun b=>G.imm b\/Live G (cutM give mu 0) b,G.blk⟩
theorem uC{G:Gh}{mu:Mu}{h:Array Obj}(s:Sim G mu h)(give:Nat->Bool):Sim (frz G give mu) (cutM (fun i=>!give i) mu 0) h:=by
 have hle:G.le (frz G give mu):=⟨fun b hb => .inl hb,fun _ _ h=>h⟩;refine⟨by rw[yG];exact s.len,?_,?_,?_,?_,s.tab.mono (fun b h => .inl h) (fun _ _=>rfl)⟩
 .rintro b (hb|⟨i,c,tot,h1,h2,h3⟩)
  .exact s.imm b hb
  .obtain ⟨o,ho,_⟩:=s.obj i c b tot (zQ h1 h2).1 h2 h3
   exact(qR.1 ho).1
 .intro i c blk tot h1 h2 h3
  obtain⟨o,ho,hr⟩:=s.obj i c blk tot (zQ h1 h2).1 h2 h3;exact⟨o,ho,hr.mono hle (Ext.refl _ _)⟩
 .rintro i c blk tot h1 h2 h3 (hb|⟨j,c',tot',g1,g2,g3⟩)
  .exact s.live i c blk tot (zQ h1 h2).1 h2 h3 hb
  .have e:=s.inj i j c c' blk tot tot' (zQ h1 h2).1 (zQ g1 g2).1 h2 g2 h3 g3
   subst e;have a1:=(zQ h1 h2).2;have a2:=(zQ g1 g2).2;simp[a2]at a1
 .intro i j ci cj b ti tj h1 h2 h3 h4 h5 h6
  exact s.inj i j ci cj b ti tj (zQ h1 h3).1 (zQ h2 h4).1 h3 h4 h5 h6
theorem jl{G:Gh}{mu:Mu}{w:World}(s:Sim G mu w.heap)(give:Nat->Bool):Stp G mu w (frz G give mu) (cutM (fun i=>!give i) mu 0) w:=by
 refine⟨⟨fun b hb => .inl hb,fun _ _ h=>h⟩,uC s give,fun _ _ _=>rfl,qu _,?_,?_,rfl,rfl,rfl,qu _⟩
 .rintro b ⟨i,c,tot,h1,h2,h3⟩
  exact .inl ⟨i,c,tot,(zQ h1 h2).1,h2,h3⟩
 .rintro b (hb|hb)
  .exact .inl hb
  .exact .inr (.inl hb.cut)
theorem wS{G:Gh}{mu:Mu}{h:Array Obj}(s:Sim G mu h)(give:Nat->Bool){x y:AV}{v:Value}(r:Rd (cutM give mu 0) x y)(hv:VRel G h x v):VRel (frz G give mu) h y v:=
 VRel.mono (G:=⟨fun b=>G.imm b\/Live G (cutM give mu 0) b,[]⟩) (G':=frz G give mu) ⟨fun _ hb=>hb,fun i x hx=>by simp at hx⟩ (Ext.refl _ _) (r.sound (s.cut give) hv)
theorem zP.det{P:Program}{mu:Mu}{ats:Array TypeId}{s x:AV}{K:AV->Mu->Prop}(h:zP P mu ats s x K):∃ v m,zP P mu ats s x (fun a b=>a=v/\b=m)/\K v m:=by
 obtain⟨t,t',e,sz,bt,ys,a1,a2,a3,a4,a5,a6,a7,a8,h⟩:=h;rcases h with ⟨xs,b1,b2,b3,b4,b5⟩|⟨b,len,cells,b1,b2,b3,b4,b5⟩
 .by_cases hy:ys=[]
  .exact ⟨_,_,⟨t,t',e,sz,bt,ys,a1,a2,a3,a4,a5,a6,a7,a8,.inl ⟨xs,b1,b2,b3,fun _=>⟨rfl,rfl⟩,fun h=>absurd hy h⟩⟩,b4 hy⟩
  .exact ⟨_,_,⟨t,t',e,sz,bt,ys,a1,a2,a3,a4,a5,a6,a7,a8,.inl ⟨xs,b1,b2,b3,fun h=>absurd h hy,fun _=>⟨rfl,rfl⟩⟩⟩,b5 hy⟩
 .exact ⟨_,_,⟨t,t',e,sz,bt,ys,a1,a2,a3,a4,a5,a6,a7,a8,.inr ⟨b,len,cells,b1,b2,b3,b4,rfl,rfl⟩⟩,b5⟩
theorem zP.mono{P:Program}{mu:Mu}{ats:Array TypeId}{s x:AV}{K K':AV->Mu->Prop}(h:zP P mu ats s x K)(hK:∀ v m,K v m->K' v m):zP P mu ats s x K':=by
 obtain⟨t,t',e,sz,bt,ys,a1,a2,a3,a4,a5,a6,a7,a8,h⟩:=h;refine⟨t,t',e,sz,bt,ys,a1,a2,a3,a4,a5,a6,a7,a8,?_⟩;rcases h with ⟨xs,b1,b2,b3,b4,b5⟩|⟨b,len,cells,b1,b2,b3,b4,b5⟩
 .exact .inl ⟨xs,b1,b2,b3,fun h=>hK _ _ (b4 h),fun h=>hK _ _ (b5 h)⟩
 .exact .inr ⟨b,len,cells,b1,b2,b3,b4,hK _ _ b5⟩
def ZZ(P:Program)(mu:Mu)(ats:Array TypeId)(s x:AV)(K:AV->Mu->Prop):Prop:=
 ∃ t tn e sz bt zv n xs,ats=#[t,tn]/\qp P t=some (e,sz,bt)/\P.underlying tn=some (.int .i64)/\qn P e=some zv/\zv.cells.length=sz/\zv.cells.all AV.one=true/\sz≠0/\bt<=16384/\x = .sc (.int .i64 (Int.ofNat n))/\0<n/\s = .lst true xs/\qK sz xs/\xs.length+n<=4294967296 /\
  K (.sl mu.length sz 0 (xs.length+n)) (mu++[.arr (xs.flatten++(qg (n*sz)).map fun i=>zv.cells.getD (i % sz) .any)])
theorem V4{P:Program}{G:Gh}{mu:Mu}{w:World}(s:Sim G mu w.heap){ats:Array TypeId}{ty:TypeId}{sv xv:AV}{vs vx:Value}(rs:VRel G w.heap sv vs)(rx:VRel G w.heap xv vx){K:AV->Mu->Prop}
  (h:ZZ P mu ats sv xv K):∃ z mu',K z mu'/\Good P G mu w (Builtin.append_ ats ty #[vs,vx]) z mu':=by
 obtain⟨t,tn,e,sz,bt,zv,n,xs,rfl,hst,htn,hze,hzl,hz1,hsz0,hbt,rfl,hn,rfl,hxw,hle,hk⟩:=h;obtain⟨i,hu,hi,rfl,rfl⟩:=yq hst;obtain⟨i',z,hi',hz,rfl⟩:=uA hze;obtain rfl:i=i':=Option.some.inj (hi.symm.trans hi');obtain⟨hzs0,hzv⟩:=vM (G:=G) (h:=w.heap) z (fun c hc=>by simpa using qt.1 hz1 c hc);rw[hzl]at hzs0;obtain⟨a0,cap0,olds,rfl,hol,_,hold,hfo,hfod⟩:=uB (P:=P) s rs (ys:=xs) rfl hxw;have hcap:cap0=xs.length:=by
  obtain⟨a1,c1,h1,_,h2,_⟩:=rs.lst_inv;cases h1;exact h2 rfl
 subst hcap;cases rx with
 |sc _ _ =>
 have hb48:n*i.bytes<=281474976710656:=zt (Nat.mul_le_mul (show n<=4294967296 by omega) hbt) (by omega);have hrun:=Lib.run_append_grow_zeros w t tn ty e i z .i64 .i64 hu htn hi hz a0 xs.length xs.length olds hfod n hn (by omega) (by omega) (by omega) hb48 (ZW (by omega) hle hbt);have hgc:=ZV w (xs.length+n) xs.length e;generalize grownCap w (xs.length+n) xs.length e=gc at hrun hgc;have hxl:=zd hxw.ok;have hnl:(za z.cells n).size=n*i.size:=by simp[za,hzs0]
 have hml:(za z.cells (gc-(xs.length+n))).size=(gc-(xs.length+n))*i.size:=by simp[za,hzs0]
 have hget:∀ j,j<n*i.size->(za z.cells n).getD j undef=z.cells.getD (j % i.size) undef:=by
  intro j hj;have hs0:0<i.size:=by omega
  have hm:j % i.size<z.cells.size:=by rw[hzs0];exact Nat.mod_lt _ hs0
  simp[za,hzs0,qi,hj,getElem!_pos z.cells (j % i.size) hm,Array.getElem?_eq_getElem hm]
 have sd:Sim G mu w.drew.heap:=s;have st:=Stp.allocNew sd (.cells (olds.toArray++za z.cells n++za z.cells (gc-(xs.length+n))) e) (.arr (xs.flatten++(qg (n*i.size)).map fun j=>(ofV z).cells.getD (j % i.size) .any)) (gc*i.size) (by
  intro _;have hsum:xs.length*i.size+n*i.size+(gc-(xs.length+n))*i.size=gc*i.size:=by
   rw[<-Nat.add_mul,<-Nat.add_mul];congr 1;omega
  refine⟨_,e,rfl,by simp[hol,hnl,hml];omega,by simp[hxl,<-Nat.add_mul];exact Nat.mul_le_mul_right _ hgc,fun j y hj=>?_⟩;by_cases hjo:j<xs.flatten.length
  .rw [qh hjo]at hj
   refine⟨hxw.one y (qC hj),?_⟩;have:=hold j y hj;rw[qi,Array.append_assoc,Array.getElem?_append_left (by simp;omega)];rw[qH]at this;show VRel G w.heap y _;simpa using this
  .rw [qB (by omega),qW]at hj
   have hjl:j-xs.flatten.length<n*i.size:=by
    cases hq:(qg (n*i.size))[j-xs.flatten.length]? with
    |none=>rw[hq]at hj;cases hj
    |some q=>have:=(qc.1 hq).1;simpa using this
   rw[List.getElem?_range hjl]at hj;have hs0:0<i.size:=by omega
   have hm:(j-xs.flatten.length) % i.size<(ofV z).cells.length:=by rw[hzl];exact Nat.mod_lt _ hs0
   simp only[qw,qb]at hj;rw[qH,qs hm]at hj;subst hj;refine⟨by simpa using qt.1 hz1 _ (List.getElem_mem hm),?_⟩;have e1:(olds.toArray++za z.cells n++za z.cells (gc-(xs.length+n))).getD j undef=(za z.cells n).getD (j-xs.flatten.length) undef:=by
    rw[qi,qi,Array.append_assoc,Array.getElem?_append_right (by simp;omega),Array.getElem?_append_left (by simp[hol];omega)];simp[hol,hxl]
   rw[e1,hget _ hjl];exact hzv _ _ (qs hm))
 refine⟨_,_,hk,_,_,_,hrun,(Stp.drew s).trans s st,?_⟩;refine .sl _ i.size 0 _ w.heap.size (gc*i.size) gc ?_ (by omega) (by omega);show (G.blk++[_])[mu.length]?=_;rw[<-s.len];simp
def qD(P:Program)(mu:Mu)(ats:Array TypeId)(s x:AV)(K:AV->Mu->Prop):Prop:=
 zP P mu ats s x K\/((∃ give x',Rd (cutM give mu 0) x x'/\zP P (cutM (fun i=>!give i) mu 0) ats s x' K)\/ZZ P mu ats s x K)
theorem qD.det{P:Program}{mu:Mu}{ats:Array TypeId}{s x:AV}{K:AV->Mu->Prop}(h:qD P mu ats s x K):∃ v m,qD P mu ats s x (fun a b=>a=v/\b=m)/\K v m:=by
 rcases h with h|⟨give,x',h1,h2⟩|⟨t,tn,e,sz,bt,zv,n,xs,a1,a2,a3,a4,a5,a6,a7,a8,a9,b1,b2,b3,b4,k⟩
 .obtain ⟨v,m,g,k⟩:=h.det;exact⟨v,m,.inl g,k⟩
 .obtain ⟨v,m,g,k⟩:=h2.det;exact⟨v,m,.inr (.inl ⟨give,x',h1,g⟩),k⟩
 .exact ⟨_,_,.inr (.inr ⟨t,tn,e,sz,bt,zv,n,xs,a1,a2,a3,a4,a5,a6,a7,a8,a9,b1,b2,b3,b4,rfl,rfl⟩),k⟩
theorem qD.mono{P:Program}{mu:Mu}{ats:Array TypeId}{s x:AV}{K K':AV->Mu->Prop}(h:qD P mu ats s x K)(hK:∀ v m,K v m->K' v m):qD P mu ats s x K':=by
 rcases h with h|⟨give,x',h1,h2⟩|⟨t,tn,e,sz,bt,zv,n,xs,a1,a2,a3,a4,a5,a6,a7,a8,a9,b1,b2,b3,b4,k⟩
 .exact .inl (h.mono hK)
 .exact .inr (.inl ⟨give,x',h1,h2.mono hK⟩)
 .exact .inr (.inr ⟨t,tn,e,sz,bt,zv,n,xs,a1,a2,a3,a4,a5,a6,a7,a8,a9,b1,b2,b3,b4,hK _ _ k⟩)
theorem V5{P:Program}{G:Gh}{mu:Mu}{w:World}(s:Sim G mu w.heap){argTypes:Array TypeId}{ty:TypeId}{sv xv:AV}{vs vx:Value}(rs:VRel G w.heap sv vs)(rx:VRel G w.heap xv vx){K:AV->Mu->Prop}
  (h:qD P mu argTypes sv xv K):∃ z mu',K z mu'/\Good P G mu w (Builtin.append_ argTypes ty #[vs,vx]) z mu':=by
 rcases h with h|⟨give,x',h1,h2⟩|h
 .exact ZX s rs rx h
 .obtain ⟨z,mu',hk,v,w',G',g1,g2,g3⟩:=ZX (ty:=ty) (uC s give) (rs.mono (jl s give).le (Ext.refl _ _)) (wS s give h1 rx) h2
  exact⟨z,mu',hk,v,w',G',g1,(jl s give).trans s g2,g3⟩
 .exact V4 s rs rx h
inductive Gv (mu:Mu) (give:Nat->Bool):AV->AV->Prop where
 |same (x:AV):Gv mu give x x
 |rd (x y:AV) (h:Rd (cutM give mu 0) x y):Gv mu give x y
 |fn (f:Fn) (first first' caps caps':List AV) (hn:first'.length=first.length) (hm:caps'.length=caps.length) (h:∀(k:Nat) x y,first[k]?=some x->first'[k]?=some y->Gv mu give x y)
   (h':∀(k:Nat) x y,caps[k]?=some x->caps'[k]?=some y->Gv mu give x y):Gv mu give (.fn f first caps) (.fn f first' caps')
theorem Gv.sound{G:Gh}{mu:Mu}{h:Array Obj}(s:Sim G mu h){give:Nat->Bool}{x y:AV}(r:Gv mu give x y):∀{v:Value},VRel G h x v->VRel (frz G give mu) h y v:=by
 have hle:G.le (frz G give mu):=⟨fun b hb => .inl hb,fun _ _ h=>h⟩;induction r with
 |same x=>intro v hv;exact hv.mono hle (Ext.refl _ _)
 |rd x y r=>intro v hv;exact wS s give r hv
 |fn f first first' caps caps' hn hm hr hr' ih ih' =>
  intro v hv;cases hv with
  |fn _ _ _ vs ws hvn hwn hv hw =>
  refine .fn f _ _ vs ws (by omega) (by omega) (fun k y hy=>?_) (fun k y hy=>?_)
  .have hk:k<first'.length:=(qc.1 hy).1
   have hx:first[k]?=some (first[k]'(by omega)):=qs _;exact ih k _ y hx hy (hv k _ hx)
  .have hk:k<caps'.length:=(qc.1 hy).1
   have hx:caps[k]?=some (caps[k]'(by omega)):=qs _;exact ih' k _ y hx hy (hw k _ hx)
end Go.Ev
namespace Go.Ev
open Go Go.RowKit
theorem vP{P:Program}{w:World}{e:TypeId}{q:IntKind}{cs:Array Value}{i:Nat}{v:Value}(he:P.underlying e=some (.int q))(h:cs[i]?=some v):(part e cs i).run P w = .ok v w:=by
 have ha:(isAgg e).run P w = .ok false w:=by simp[isAgg,run_underlying he]
 simp[part,ha,h]
theorem vQ{x:AV}{xs ys:List AV}{b:Bool}(h:aEqs (x :: xs) ys=some b):∃ k a b' ys',x = .sc (.int k a)/\ys = .sc (.int k b') :: ys'/\(((a == b')=true/\aEqs xs ys'=some b)\/((a == b')=false/\b=false)):=by
 cases x with
 |sc v =>
  cases v with
  |int k a =>
   cases ys with
   |nil=>simp[aEqs]at h
   |cons y ys =>
    cases y with
    |sc u =>
     cases u with
     |int k' b' =>
      by_cases hk:k=k'
      .subst hk
       cases hab:(a == b') with
       |true=>exact⟨k,a,b',ys,rfl,rfl,.inl ⟨hab,by simpa[aEqs,hab] using h⟩⟩
       |false=>exact⟨k,a,b',ys,rfl,rfl,.inr ⟨hab,by simpa[aEqs,hab] using h.symm⟩⟩
      .simp [aEqs,hk]at h
     |_=>simp[aEqs]at h
    |_=>simp[aEqs]at h
  |_=>simp[aEqs]at h
 |_=>simp[aEqs]at h
theorem V6{P:Program}{G:Gh}{w:World}(d:Nat){e:TypeId}{q:IntKind}(he:P.underlying e=some (.int q))(vs ws:Array Value):∀(xs ys:List AV) (i:Nat) (b:Bool),aEqs xs ys=some b ->
  (∀(k:Nat) x,xs[k]?=some x->∃ v,vs[i+k]?=some v/\VRel G w.heap x v)->(∀(k:Nat) x,ys[k]?=some x->∃ v,ws[i+k]?=some v/\VRel G w.heap x v) ->
  (forIn (m:=Sem) (List.range' i xs.length) ((none:Option Bool),()) fun i __s=>do
   let a <-part e vs i
   let b <-part e ws i
   let c <-Op.equalIn (d+1) e a b
   if (!c)=true then pure (ForInStep.done (some false,())) else pure (ForInStep.yield (none,()))).run P w = .ok (if b then (none,()) else (some false,())) w:=by
 intro xs;induction xs with
 |nil =>
  intro ys i b h _ _;cases ys with
  |nil=>simp only[aEqs,qb]at h;subst h;rfl
  |cons=>simp[aEqs]at h
 |cons x xs ih =>
  intro ys i b h hv hw;have h':=vQ h;clear h;obtain⟨k,a,b',ys',rfl,rfl,h⟩:=h';obtain⟨v,hv0,rv⟩:=hv 0 _ rfl;obtain⟨u,hu0,ru⟩:=hw 0 _ rfl;cases rv;cases ru;rw[Nat.add_zero]at hv0 hu0;simp only[zN,List.range'_succ,List.forIn_cons,ql,vP he hv0,vP he hu0,qm,run_equalIn_int w d e k q a b' he];rcases h with ⟨hab,h⟩|⟨hab,rfl⟩
  .rw [hab]
   simp only[Bool.not_true,Bool.false_eq_true,if_false,qG,qm];refine ih ys' (i+1) b h (fun j x hx=>?_) (fun j x hx=>?_)
   .have:=hv (j+1) x (by simpa using hx)
    rwa[show i+(j+1)=i+1+j by omega]at this
   .have:=hw (j+1) x (by simpa using hx)
    rwa[show i+(j+1)=i+1+j by omega]at this
  .rw [hab]
   simp
theorem j6{G:Gh}{h:Array Obj}{xs:List AV}{vs:Array Value}(hn:vs.size=xs.length)(hv:∀(k:Nat) x,xs[k]?=some x->VRel G h x (vs.getD k undef)) :
  ∀(k:Nat) x,xs[k]?=some x->∃ v,vs[0+k]?=some v/\VRel G h x v:=by
 intro k x hx;have hk:k<xs.length:=(qc.1 hx).1;have hk':k<vs.size:=by omega
 refine⟨vs.getD k undef,?_,hv k x hx⟩;simp[qi,hk']
theorem Z0{P:Program}{G:Gh}{w:World}(d:Nat){t e:TypeId}{n:Nat}{q:IntKind}(hu:P.underlying t=some (.array n e))(he:P.underlying e=some (.int q))(hs:szOf P e=some 1)
  {xs ys:List AV} {vs ws:Array Value} (hl:xs.length=n) (hx:VRel G w.heap (.agg xs) (.agg vs)) (hy:VRel G w.heap (.agg ys) (.agg ws)) {b:Bool} (h:aEqs xs ys=some b) :
  (Op.equalIn (d+2) t (.agg vs) (.agg ws)).run P w = .ok b w:=by
 cases hx with
 |agg _ _ hn hv =>
 cases hy with
 |agg _ _ hm hw =>
 unfold Op.equalIn;simp only[ql,run_underlying hu,qm,zl hs,Nat.mul_one,Std.Legacy.Range.forIn_eq_forIn_range'];have hsz:(Std.Legacy.Range.size [:n])=xs.length:=by simp[Std.Legacy.Range.size,hl]
 rw[hsz];have:=V6 (G:=G) d he vs ws xs ys 0 b h (j6 hn hv) (j6 hm hw);rw[this];cases b<;>simp
theorem V7{P:Program}{G:Gh}{w:World}(d:Nat)(vs ws:Array Value):∀(fs:List Field) (i:Nat) (xs ys:List AV) (b:Bool),j0 P fs i=true->xs.length=fs.length->aEqs xs ys=some b ->
  (∀(k:Nat) x,xs[k]?=some x->∃ v,vs[i+k]?=some v/\VRel G w.heap x v)->(∀(k:Nat) x,ys[k]?=some x->∃ v,ws[i+k]?=some v/\VRel G w.heap x v) ->
  (Op.eqFields (d+1) vs ws fs).run P w = .ok b w:=by
 intro fs;induction fs with
 |nil =>
  intro i xs ys b _ hl h _ _;have:xs=[]:=yn (by simpa using hl);subst this;cases ys with
  |nil=>simp only[aEqs,qb]at h;subst h;rfl
  |cons=>simp[aEqs]at h
 |cons f fs ih =>
  intro i xs ys b hf hl h hv hw;cases xs with
  |nil=>simp at hl
  |cons x xs =>
   simp only[j0,qe,beq_iff_eq,bne_iff_ne,ne_eq]at hf;obtain⟨⟨⟨h1,h2⟩,h3⟩,h4⟩:=hf;have h':=vQ h;clear h;obtain⟨k,a,b',ys',rfl,rfl,h⟩:=h';obtain⟨v,hv0,rv⟩:=hv 0 _ rfl;obtain⟨u,hu0,ru⟩:=hw 0 _ rfl;cases rv;cases ru;rw[Nat.add_zero]at hv0 hu0;obtain⟨q,he⟩:∃ q,P.underlying f.type=some (.int q):=by
    unfold ZF at h3;split at h3
    .exact ⟨_,by assumption⟩
    .exact absurd h3 (by simp)
   rw[Op.eqFields,if_pos h2];simp only[h1,ql,vP he hv0,vP he hu0,qm,run_equalIn_int w d f.type k q a b' he];rcases h with ⟨hab,h⟩|⟨hab,rfl⟩
   .rw [hab]
    simp only[Bool.not_true,Bool.false_eq_true,if_false];refine ih (i+1) xs ys' b h4 (by simpa using hl) h (fun j x hx=>?_) (fun j x hx=>?_)
    .have:=hv (j+1) x (by simpa using hx)
     rwa[show i+(j+1)=i+1+j by omega]at this
    .have:=hw (j+1) x (by simpa using hx)
     rwa[show i+(j+1)=i+1+j by omega]at this
   .rw [hab]
    simp
theorem V8{P:Program}{G:Gh}{w:World}(d:Nat){t:TypeId}{fs:Array Field}(hu:P.underlying t=some (.struct fs))(hf:j0 P fs.toList 0=true)(hp:P.stoodInHeld t=false)
  {xs ys:List AV} {vs ws:Array Value} (hl:xs.length=fs.size) (hx:VRel G w.heap (.agg xs) (.agg vs)) (hy:VRel G w.heap (.agg ys) (.agg ws)) {b:Bool} (h:aEqs xs ys=some b) :
  (Op.equalIn (d+2) t (.agg vs) (.agg ws)).run P w = .ok b w:=by
 have he:P.fieldsOf t=fs:=by simp[Program.fieldsOf,hu]
 rw[run_equalIn_agg w (d+1) t vs ws (by rw[he];exact hu) hp,he];cases hx with
 |agg _ _ hn hv =>
 cases hy with
 |agg _ _ hm hw =>
 exact V7 d vs ws fs.toList 0 xs ys b hf (by simpa using hl) h (j6 hn hv) (j6 hm hw)
inductive KK where
 |now
 |arr (n:Nat)
def keyKind(P:Program)(kt:TypeId):Option KK:=
 match P.underlying kt with
 |some (.int _)|some .string|some .bool=>some .now
 |some (.array n e)=>match P.underlying e,szOf P e with
  |some (.int _),some 1=>some (.arr n)
  |_,_=>none
 |_=>none
@[go_sem] def zK(P:Program)(kt:TypeId)(x y:AV):Option Bool:=
 match P.underlying kt with
 |some (.int _)=>(match x,y with | .sc (.int k a),.sc (.int k' b)=>if k=k' then some (a == b) else none|_,_=>none)
 |some .string=>(match x,y with | .sc (.string a),.sc (.string b)=>some (a == b)|_,_=>none)
 |some .bool=>(match x,y with | .sc (.bool a),.sc (.bool b)=>some (a == b)|_,_=>none)
 |some (.array n e)=>(match P.underlying e,szOf P e with
  |some (.int _),some 1=>(match x,y with | .agg xs,.agg ys=>if xs.length=n/\ys.length=n then aEqs xs ys else none|_,_=>none)
  |_,_=>none)
 |_=>none
def qA(P:Program)(kt:TypeId)(k:AV):List (AV×AV)->Nat->Option (Option Nat)
 | [],_=>some none
 |e :: es,i=>match zK P kt k e.1 with
  |some true=>some (some i)
  |some false=>qA P kt k es (i+1)
  |none=>none
@[go_sem] def j7(q:IntKind):AV->Bool
 | .sc (.int k _)=>k == q
 |_=>false
@[go_sem] def zo(P:Program)(kt:TypeId)(x:AV):Bool:=
 match P.underlying kt with
 |some (.int q)=>j7 q x
 |some .string=>(match x with | .sc (.string _)=>true|_=>false)
 |some .bool=>(match x with | .sc (.bool _)=>true|_=>false)
 |some (.array n e)=>(match P.underlying e,szOf P e with
  |some (.int q),some 1=>(match x with | .agg xs=>xs.length == n&&xs.all (j7 q)|_=>false)
  |_,_=>false)
 |_=>false
theorem V9{P:Program}{w:World}(m:Bool)(d:Nat){e:TypeId}{q:IntKind}(he:P.underlying e=some (.int q))(hs:szOf P e=some 1)(vs:Array Value):∀(n i:Nat),i+n<=vs.size ->
    (forIn (m := Sem) (List.range' i n) PUnit.unit fun i __s => do
            let sz <-Go.sizeOf e
            let x <-part e vs (i*sz)
            Instr.checkKey m (d+1) e x
            pure (ForInStep.yield PUnit.unit)).run P w = .ok PUnit.unit w:=by
  intro n;induction n with
  |zero=>intro i _;rfl
  |succ n ih =>
    intro i h;have hg:vs[i]?=some (vs[i]'(by omega)):=by simp[show i<vs.size by omega]
    have hk:∀ v,(Instr.checkKey m (d+1) e v).run P w = .ok () w:=by
      intro v;unfold Instr.checkKey;simp[run_underlying he]
    simp only[List.range'_succ,List.forIn_cons,ql,zl hs,qm,Nat.mul_one,vP he hg,hk,qG];exact ih (i+1) (by omega)
theorem vR{P:Program}{G:Gh}{w:World}{kt:TypeId}{x:AV}{v:Value}(m:Bool)(r:VRel G w.heap x v)(h:zo P kt x=true):(Instr.checkKey m 10000 kt v).run P w = .ok () w:=by
 unfold zo at h;have now:∀ d,P.underlying kt=some d->(∀ n e,d ≠ .array n e)->(∀ fs,d ≠ .struct fs)->(∀ ms,d ≠ .interface ms)->(Instr.checkKey m 10000 kt v).run P w = .ok () w:=by
  intro d hu h1 h2 h3;show (Instr.checkKey m (9999+1) kt v).run P w=_;unfold Instr.checkKey;simp only[ql,run_underlying hu,qm];cases d<;>first|rfl | (exact absurd rfl (h1 _ _)) | (exact absurd rfl (h2 _)) | (exact absurd rfl (h3 _))
 split at h
 .rename_i hu;exact now _ hu (by simp) (by simp) (by simp)
 .rename_i hu;exact now _ hu (by simp) (by simp) (by simp)
 .rename_i hu;exact now _ hu (by simp) (by simp) (by simp)
 .rename_i n e hu
  split at h
  .rename_i he hs
   split at h
   .rename_i xs
    cases r with
    |agg _ vs hn hv =>
    have hl:xs.length=n:=by
     rw[qe]at h;simpa using h.1
    show (Instr.checkKey m (9998+2) kt (.agg vs)).run P w=_;unfold Instr.checkKey;simp only[ql,run_underlying hu,qm,Std.Legacy.Range.forIn_eq_forIn_range'];have hsz:(Std.Legacy.Range.size [:n])=n:=by simp[Std.Legacy.Range.size]
    rw[hsz,V9 m 9998 he hs vs n 0 (by omega)];simp
   .exact absurd h (by simp)
  .exact absurd h (by simp)
 .exact absurd h (by simp)
def zg(G:Gh)(h:Array Obj)(es:List (AV×AV))(ce:List MapEntry):Prop:=ce.length=es.length/\∀(k:Nat) x,es[k]?=some x->∃ e,ce[k]?=some e/\VRel G h x.1 e.key/\VRel G h x.2 e.val
theorem Z1{P:Program}{G:Gh}{h:Array Obj}{kt:TypeId}{x y:AV}{u v:Value}{b:Bool}{d:TypeDesc}(hu:P.underlying kt=some d)(hd:∀ n e,d ≠ .array n e)(rx:VRel G h x u)(ry:VRel G h y v)(hk:zK P kt x y=some b) :
    Instr.sameNow d u v=some b:=by
  unfold zK at hk;rw[hu]at hk;cases d<;>simp only at hk<;>first | (exact absurd hk (by simp;done)) | (exact absurd rfl (hd _ _))|skip
  all_goals
    split at hk
    · cases rx;cases ry
      first
        | (simpa[Instr.sameNow] using hk;done)
        | (split at hk
           · rename_i hkk;simp only[qb]at hk;subst hk;simp[Instr.sameNow,hkk]
           · exact absurd hk (by simp))
    · exact absurd hk (by simp)
theorem Ua{P:Program}{G:Gh}{h:Array Obj}{kt:TypeId}{x:AV}{u:Value}{d:TypeDesc}(hu:P.underlying kt=some d)(hd:∀ n e,d ≠ .array n e)(rx:VRel G h x u):∀(es:List (AV×AV)) (ce:List MapEntry) (i:Nat) (r:Option Nat),
  zg G h es ce->qA P kt x es i=some r->Instr.findNow d u ce i=some (r.map fun j=>(j,(ce.getD (j-i) default).val))/\∀ j,r=some j->i<=j/\j<i+es.length:=by
 intro es;induction es with
 |nil =>
  intro ce i r hr hf;have:ce=[]:=yn hr.1;subst this;simp only[qA,qb]at hf;subst hf;exact⟨rfl,by simp⟩
 |cons e es ih =>
  intro ce i r hr hf;cases ce with
  |nil=>have:=hr.1;simp at this
  |cons c ce =>
   obtain⟨c',hc',rk,rv⟩:=hr.2 0 e rfl;simp only[uo,qb]at hc';subst hc';simp only[qA]at hf;split at hf
   .rename_i hk
    simp only[qb]at hf;subst hf;have:=Z1 hu hd rx rk hk;exact⟨by simp[Instr.findNow,this],fun j hj=>by simp at hj;subst hj;simp⟩
   .rename_i hk
    have:=Z1 hu hd rx rk hk;have hr':zg G h es ce:=⟨by have:=hr.1;simpa using this,fun k y hy=>hr.2 (k+1) y (by simpa using hy)⟩;obtain⟨h1,h2⟩:=ih ce (i+1) r hr' hf;refine⟨?_,fun j hj=>?_⟩
    .simp only[Instr.findNow,this,h1]
     cases r with
     |none=>rfl
     |some j =>
      have:=h2 j rfl;simp only[qw];rw[show j-i=(j-(i+1))+1 by omega];simp
    .have:=h2 j hj;simp;omega
   .exact absurd hf (by simp)
theorem Ub{P:Program}{G:Gh}{w:World}{kt e:TypeId}{n:Nat}{q:IntKind}(hu:P.underlying kt=some (.array n e))(he:P.underlying e=some (.int q))(hs:szOf P e=some 1){x:AV}{u:Value}(rx:VRel G w.heap x u) :
  ∀(es:List (AV×AV)) (ce:List MapEntry) (i:Nat) (r:Option Nat),zg G w.heap es ce->qA P kt x es i=some r ->
   (Instr.findAsking kt u ce i).run P w = .ok (r.map fun j=>(j,(ce.getD (j-i) default).val)) w/\∀ j,r=some j->i<=j/\j<i+es.length:=by
 intro es;induction es with
 |nil =>
  intro ce i r hr hf;have:ce=[]:=yn hr.1;subst this;simp only[qA,qb]at hf;subst hf;exact⟨rfl,by simp⟩
 |cons y es ih =>
  intro ce i r hr hf;cases ce with
  |nil=>have:=hr.1;simp at this
  |cons c ce =>
   obtain⟨c',hc',rk,rv⟩:=hr.2 0 y rfl;simp only[uo,qb]at hc';subst hc';simp only[qA]at hf;have heq:∀ b,zK P kt x y.1=some b->(Op.equal kt u c.key).run P w = .ok b w:=by
    intro b hb;unfold zK at hb;rw[hu]at hb;simp only[he,hs]at hb;split at hb
    .rename_i xs ys hyy
     split at hb
     .rename_i hl
      rw[hyy]at rk;generalize hq:c.key=ck at rk;cases rx with
      |agg _ vs hn hv =>
      cases rk with
      |agg _ ws hm hw =>
      exact Z0 (G:=G) 9998 hu he hs hl.1 (.agg _ _ hn hv) (.agg _ _ hm hw) hb
     .exact absurd hb (by simp)
    .exact absurd hb (by simp)
   split at hf
   .rename_i hk
    simp only[qb]at hf;subst hf;exact⟨by simp[Instr.findAsking,heq _ hk],fun j hj=>by simp at hj;subst hj;simp⟩
   .rename_i hk
    have hr':zg G w.heap es ce:=⟨by have:=hr.1;simpa using this,fun k z hz=>hr.2 (k+1) z (by simpa using hz)⟩;obtain⟨h1,h2⟩:=ih ce (i+1) r hr' hf;refine⟨?_,fun j hj=>?_⟩
    .simp only[Instr.findAsking,ql,heq _ hk,qm,Bool.false_eq_true,if_false,h1]
     cases r with
     |none=>rfl
     |some j =>
      have:=h2 j rfl;simp only[qw];rw[show j-i=(j-(i+1))+1 by omega];simp
    .have:=h2 j hj;simp;omega
   .exact absurd hf (by simp)
theorem jm{P:Program}{G:Gh}{w:World}{kt:TypeId}{x:AV}{u:Value}(rx:VRel G w.heap x u)(hk:zo P kt x=true){es:List (AV×AV)}{ce:Array MapEntry}{r:Option Nat}(hr:zg G w.heap es ce.toList)(hf:qA P kt x es 0=some r) :
  (Instr.findKey kt u ce.toList).run P w = .ok (r.map fun j=>(j,(ce.getD j default).val)) w/\∀ j,r=some j->j<es.length:=by
 have hg:∀ j,ce.toList.getD j default=ce.getD j default:=by
  intro j;simp[qH,qi]
 unfold zo at hk;have now:∀ d,P.underlying kt=some d->(∀ n e,d ≠ .array n e)->(Instr.findKey kt u ce.toList).run P w = .ok (r.map fun j=>(j,(ce.getD j default).val)) w/\∀ j,r=some j->j<es.length:=by
  intro d hu hd;obtain⟨h1,h2⟩:=Ua hu hd rx es ce.toList 0 r hr hf;simp only[Nat.sub_zero,hg]at h1;exact⟨by simp[Instr.findKey,run_underlying hu,h1],fun j hj=>by have:=h2 j hj;omega⟩
 split at hk
 .rename_i hu;exact now _ hu (by simp)
 .rename_i hu;exact now _ hu (by simp)
 .rename_i hu;exact now _ hu (by simp)
 .rename_i n e hu
  split at hk
  .rename_i he hs
   obtain⟨h1,h2⟩:=Ub hu he hs rx es ce.toList 0 r hr hf;simp only[Nat.sub_zero,hg]at h1;refine⟨?_,fun j hj=>by have:=h2 j hj;omega⟩;simp only[Instr.findKey,ql,run_underlying hu,qm];cases hc:ce.toList with
   |nil =>
    have:r=none:=by
     cases es with
     |nil=>simpa[qA] using hf.symm
     |cons=>have:=hr.1;rw[hc]at this;simp at this
    subst this;simp[Instr.findNow]
   |cons c cs =>
    rw[hc]at h1;simp only[Instr.findNow,Instr.sameNow];exact h1
  .exact absurd hk (by simp)
 .exact absurd hk (by simp)
end Go.Ev
namespace Go.Ev
open Go Go.RowKit
def mapT(P:Program)(t:TypeId):Option (TypeId×TypeId):=match P.underlying t with|some (.map k e)=>some (k,e)|_=>none
theorem jF{P:Program}{t k e:TypeId}(h:mapT P t=some (k,e)):P.underlying t=some (.map k e):=by
 unfold mapT at h;split at h
 .rename_i k' e' hu;simp only[qb,yd]at h;obtain⟨rfl,rfl⟩:=h;exact hu
 .exact absurd h (by simp)
@[go_sem] def yr(mu:Mu):AV->Option (List (AV×AV))
 | .im es=>some es
 | .mp b=>match mu[b]? with|some (.mp es)=>some es|_=>none
 | .sc (.map none)=>some []
 |_=>none
theorem vS(ce:Array MapEntry)(k:Nat)(hk:k<ce.size):ce.toList[k]?=some (ce.getD k default):=by
 simp[qi,hk]
theorem Uc{G:Gh}{mu:Mu}{w:World}(s:Sim G mu w.heap){x:AV}{v:Value}{es:List (AV×AV)}(r:VRel G w.heap x v)(h:yr mu x=some es) :
  (v = .map none/\es=[])\/∃ m ce cl,v = .map (some m)/\w.heap[m]?=some (.map ce cl)/\zg G w.heap es ce.toList:=by
 unfold yr at h;split at h
 .simp only[qb]at h;subst h
  cases r with
  |im _ blk ce clock hb hi hn hk hv hd =>
   refine .inr ⟨blk,ce,clock,rfl,hb,⟨by simpa using hn,fun k x hx=>?_⟩⟩;have hlt:k<ce.size:=by have:=(qc.1 hx).1;omega
   exact⟨_,vS ce k hlt,hk k x hx,hv k x hx⟩
 .split at h
  .rename_i es' hm
   simp only[qb]at h;subst h;cases r with
   |mp _ blk tot hb =>
    obtain⟨ce,cl,h1,h2,h3,h4,h5,h6⟩:=s.mp _ _ blk tot hm hb;refine .inr ⟨blk,ce,cl,rfl,h1,⟨by simpa using h2,fun k x hx=>?_⟩⟩;have hlt:k<ce.size:=by have:=(qc.1 hx).1;omega
    exact⟨_,vS ce k hlt,h3 k x hx,h4 k x hx⟩
  .exact absurd h (by simp)
 .simp only[qb]at h;subst h
  cases r;exact .inl ⟨rfl,rfl⟩
 .exact absurd h (by simp)
@[go_sem] def zC(P:Program)(mu:Mu)(t:TypeId)(m k:AV)(ok:Bool):Option AV:=
 match mapT P t,yr mu m with
 |some (kt,et),some es =>
  if zo P kt k=true then
   match qA P kt k es 0 with
   |some (some i)=>(es[i]?).map fun e=>if ok then .tup [e.2,.sc (.bool true)] else e.2
   |some none=>(qn P et).map fun z=>if ok then .tup [z,.sc (.bool false)] else z
   |none=>none
  else none
 |_,_=>none
theorem tup2{G:Gh}{h:Array Obj}{y z:AV}{u v:Value}(ry:VRel G h y u)(rz:VRel G h z v):VRel G h (.tup [y,z]) (.tuple #[u,v]):=by
 refine .tup _ _ rfl (fun k c hk=>?_);cases k with
 |zero=>simp at hk;subst hk;exact ry
 |succ k=>cases k with
  |zero=>simp at hk;subst hk;exact rz
  |succ k=>simp at hk
theorem yT{P:Program}{w:World}{m:Nat}{ce:Array MapEntry}{cl:Nat}(h:w.heap[m]?=some (.map ce cl)):(getObj m).run P w = .ok (.map ce cl) w:=by
 simp[getObj,Sem.run,h]
theorem Z2{P:Program}{G:Gh}{mu:Mu}{w:World}(s:Sim G mu w.heap){t:TypeId}{m k z:AV}{ok:Bool}{vm vk:Value}(rm:VRel G w.heap m vm)(rk:VRel G w.heap k vk)(h:zC P mu t m k ok=some z) :
  ∃ u,(Instr.lookup t vm vk ok).run P w = .ok u w/\VRel G w.heap z u:=by
 unfold zC at h;split at h
 .rename_i kt et es ht hes
  have hu:=jF ht;split at h
  .rename_i hko
   have hck:∀ b,(Instr.checkKey b 10000 kt vk).run P w = .ok () w:=fun b=>vR b rk hko
   rcases Uc s rm hes with ⟨rfl,rfl⟩|⟨mb,ce,cl,rfl,hb,hr⟩
   .simp only[qA]at h
    cases hz:qn P et with
    |none=>simp[hz]at h
    |some z0 =>
     simp only[hz,qw,qb]at h;subst h;obtain⟨zv,hzr,rfl⟩:=jC hz w;have hfk:=(jm (es:=[]) (ce:=#[]) rk hko ⟨rfl,by simp⟩ (r:=none) rfl).1;cases ok
     .exact ⟨zv,by simp[Instr.lookup,run_underlying hu,hck,hfk,hzr],.ofV zv⟩
     .exact ⟨.tuple #[zv,.bool false],by simp[Instr.lookup,run_underlying hu,hck,hfk,hzr],tup2 (.ofV zv) (.sc _ rfl)⟩
   .have hg:=yT (P:=P) hb
    split at h
    .rename_i i hf
     obtain⟨hfk,hlt⟩:=jm rk hko hr hf;have hi:=hlt i rfl;have hx:es[i]?=some es[i]:=by simp[hi]
     rw[hx]at h;simp only[qw,qb]at h;subst h;obtain⟨e,he,h1,h2⟩:=hr.2 i _ hx;have hce:ce.getD i default=e:=by
      have:ce[i]?=some e:=by simpa using he
      simp[qi,this]
     simp only[qw,hce]at hfk;cases ok
     .exact ⟨e.val,by simp[Instr.lookup,run_underlying hu,hg,hck,hfk],h2⟩
     .exact ⟨.tuple #[e.val,.bool true],by simp[Instr.lookup,run_underlying hu,hg,hck,hfk],tup2 h2 (.sc _ rfl)⟩
    .rename_i hf
     obtain⟨hfk,_⟩:=jm rk hko hr hf;simp only[Option.map_none]at hfk;cases hz:qn P et with
     |none=>simp[hz]at h
     |some z0 =>
      simp only[hz,qw,qb]at h;subst h;obtain⟨zv,hzr,rfl⟩:=jC hz w;cases ok
      .exact ⟨zv,by simp[Instr.lookup,run_underlying hu,hg,hck,hfk,hzr],.ofV zv⟩
      .exact ⟨.tuple #[zv,.bool false],by simp[Instr.lookup,run_underlying hu,hg,hck,hfk,hzr],tup2 (.ofV zv) (.sc _ rfl)⟩
    .exact absurd h (by simp)
  .exact absurd h (by simp)
 .exact absurd h (by simp)
theorem Z3:∀(xs ys:List AV),aEqs xs ys=some true->xs=ys
 | [],[],_=>rfl
 | [],_ :: _,h=>by simp[aEqs]at h
 |x :: xs,[],h=>by cases x<;>simp[aEqs]at h
 |x :: xs,y :: ys,h=>by
  unfold aEqs at h;split at h
  .rename_i h1 h2;cases h1
  .rename_i k a xs' k' b ys' h1 h2
   simp only[yF]at h1 h2;obtain⟨rfl,rfl⟩:=h1;obtain⟨rfl,rfl⟩:=h2;split at h
   .rename_i hk
    subst hk;split at h
    .rename_i hab
     have:=beq_iff_eq.1 hab;subst this;rw[Z3 xs ys h]
    .exact absurd h (by simp)
   .exact absurd h (by simp)
  .exact absurd h (by simp)
theorem Z4(q:IntKind):∀(xs ys:List AV),xs.length=ys.length->xs.all (j7 q)=true->ys.all (j7 q)=true->∃ b,aEqs xs ys=some b
 | [],[],_,_,_=>⟨true,rfl⟩
 | [],_ :: _,h,_,_=>by simp at h
 |_ :: _,[],h,_,_=>by simp at h
 |x :: xs,y :: ys,h,hx,hy=>by
  simp only[List.all_cons,qe]at hx hy;obtain⟨b,hb⟩:=Z4 q xs ys (by simpa using h) hx.2 hy.2;have h1:=hx.1;have h2:=hy.1;unfold j7 at h1 h2;split at h1
  .split at h2
   .rename_i k1 a _ k2 c
    have e1:=beq_iff_eq.1 h1;have e2:=beq_iff_eq.1 h2;subst e1;subst e2;by_cases hab:(a == c)=true
    .exact ⟨b,by simp only[aEqs,if_true,hab];exact hb⟩
    .exact ⟨false,by simp only[aEqs,if_true];rw[if_neg hab]⟩
   .exact absurd h2 (by simp)
  .exact absurd h1 (by simp)
theorem ba_eq{a b:ByteArray}(h:(a == b)=true):a=b:=by
 obtain⟨x⟩:=a;obtain⟨y⟩:=b;have h':(x == y)=true:=h;rw[beq_iff_eq.1 h']
theorem Ud{P:Program}{kt:TypeId}{x y:AV}(h:zK P kt x y=some true):x=y:=by
 unfold zK at h;split at h
 .split at h
  .split at h
   .rename_i hk
    subst hk;simp only[qb]at h;rw[beq_iff_eq.1 h]
   .exact absurd h (by simp)
  .exact absurd h (by simp)
 .split at h
  .simp only[qb]at h
   rw[ba_eq h]
  .exact absurd h (by simp)
 .split at h
  .simp only[qb]at h
   rw[beq_iff_eq.1 h]
  .exact absurd h (by simp)
 .split at h
  .split at h
   .split at h
    .rw [Z3 _ _ h]
    .exact absurd h (by simp)
   .exact absurd h (by simp)
  .exact absurd h (by simp)
 .exact absurd h (by simp)
theorem Z5{P:Program}{kt:TypeId}{x y:AV}(hx:zo P kt x=true)(hy:zo P kt y=true):∃ b,zK P kt x y=some b:=by
 unfold zo at hx hy;unfold zK;split at hx
 .rename_i q hu
  simp only[hu]at hy⊢;unfold j7 at hx hy;split at hx
  .split at hy
   .have e1:=beq_iff_eq.1 hx
    have e2:=beq_iff_eq.1 hy;subst e1;subst e2;simp
   .exact absurd hy (by simp)
  .exact absurd hx (by simp)
 .rename_i hu
  simp only[hu]at hy⊢;split at hx
  .split at hy
   .exact ⟨_,rfl⟩
   .exact absurd hy (by simp)
  .exact absurd hx (by simp)
 .rename_i hu
  simp only[hu]at hy⊢;split at hx
  .split at hy
   .exact ⟨_,rfl⟩
   .exact absurd hy (by simp)
  .exact absurd hx (by simp)
 .rename_i n e hu
  simp only[hu]at hy⊢;split at hx
  .rename_i q he hs
   simp only[he,hs]at hy⊢;split at hx
   .split at hy
    .rw [qe]at hx hy
     have l1:=beq_iff_eq.1 hx.1;have l2:=beq_iff_eq.1 hy.1;simp only;rw[if_pos ⟨l1,l2⟩];exact Z4 q _ _ (by rw[l1,l2]) hx.2 hy.2
    .exact absurd hy (by simp)
   .exact absurd hx (by simp)
  .exact absurd hx (by simp)
 .exact absurd hx (by simp)
theorem vT{P:Program}{kt:TypeId}{k:AV}:∀{es:List (AV×AV)} {i j:Nat},qA P kt k es i=some (some j)->i<=j/\∃ e,es[j-i]?=some e/\k=e.1
 | [],i,j,h=>by simp[qA]at h
 |e :: es,i,j,h=>by
  unfold qA at h;split at h
  .rename_i hk
   simp only[qb]at h;subst h;exact⟨qu _,e,by simp,Ud hk⟩
  .obtain ⟨h1,e',h2,h3⟩:=vT h
   refine⟨by omega,e',?_,h3⟩;rw[show j-i=(j-(i+1))+1 by omega,y6];exact h2
  .exact absurd h (by simp)
theorem wT{P:Program}{kt:TypeId}{k:AV}:∀{es:List (AV×AV)} {i:Nat},qA P kt k es i=some none->∀ e,e∈es->zK P kt k e.1=some false
 | [],_,_=>by simp
 |e :: es,i,h=>by
  unfold qA at h;split at h
  .exact absurd h (by simp)
  .rename_i hk
   intro e' he';rcases qz.1 he' with rfl|he'
   .exact hk
   .exact wT h e' he'
  .exact absurd h (by simp)
theorem Z6{P:Program}{kt:TypeId}{k:AV}(hk:zo P kt k=true):∀(es:List (AV×AV)) (i:Nat),(∀ e,e∈es->zo P kt e.1=true)->∃ r,qA P kt k es i=some r
 | [],i,_=>⟨none,rfl⟩
 |e :: es,i,h=>by
  obtain⟨b,hb⟩:=Z5 hk (h e (by simp));obtain⟨r,hr⟩:=Z6 hk es (i+1) (fun e' he'=>h e' (by simp[he']));cases b with
  |true=>exact⟨some i,by simp[qA,hb]⟩
  |false=>exact⟨r,by simp[qA,hb,hr]⟩
theorem PIx.mem{α:Type}{σ τ:Nat->Nat}{es es':List α}(p:PIx σ τ es es'){x:α}:x∈es'↔x∈es:=by
 constructor
 .intro h
  obtain⟨j,hj⟩:=List.mem_iff_getElem?.1 h;have hlt:j<es.length:=by rw[<-p.1];exact(qc.1 hj).1
  rw[p.back hlt]at hj;exact qC hj
 .intro h
  obtain⟨j,hj⟩:=List.mem_iff_getElem?.1 h;have hlt:j<es.length:=(qc.1 hj).1;rw[<-(p.2 j hlt).2.2.2.2]at hj;exact qC hj
theorem Ue{es:List (AV×AV)}(h:(es.map Prod.fst).Nodup){x y:AV×AV}(hx:x∈es)(hy:y∈es)(e:x.1=y.1):x=y:=by
 induction es with
 |nil=>simp at hx
 |cons z es ih =>
  simp only[List.map_cons,List.nodup_cons]at h;rcases qz.1 hx with hx'|hx'<;>rcases qz.1 hy with hy'|hy'
  .rw [hx',hy']
  .rw [hx']at e;exact absurd (qr.2 ⟨y,hy',e.symm⟩) h.1
  .rw [hy']at e;exact absurd (qr.2 ⟨x,hx',e⟩) h.1
  .exact ih h.2 hx' hy'
theorem Z7{P:Program}{kt:TypeId}{x y:AV}(h:zK P kt x y=some false):x≠y:=by
 rintro rfl;unfold zK at h;have agg:∀ xs:List AV,aEqs xs xs≠some false:=by
  intro xs;induction xs with
  |nil=>simp[aEqs]
  |cons x xs ih =>
   intro h;obtain⟨k,a,b',ys',rfl,h2,h⟩:=vQ h;simp only[yF,AV.sc.injEq,Value.int.injEq,true_and]at h2;obtain⟨rfl,rfl⟩:=h2;rcases h with ⟨_,h⟩|⟨h,_⟩
   .exact ih h
   .simp at h
 have ba:∀ a:ByteArray,(a == a)=true:=fun a=>by obtain⟨l⟩:=a;exact(beq_self_eq_true l)
 split at h
 .cases x with
  |sc v=>cases v<;>simp at h
  |_=>simp at h
 .cases x with
  |sc v=>cases v<;>simp[ba]at h
  |_=>simp at h
 .cases x with
  |sc v=>cases v<;>simp at h
  |_=>simp at h
 .split at h
  .cases x with
   |agg xs =>
    simp only at h;split at h
    .exact agg _ h
    .exact absurd h (by simp)
   |_=>simp at h
  .exact absurd h (by simp)
 .exact absurd h (by simp)
theorem Uf{P:Program}{mu:Mu}{t kt et:TypeId}{es es':List (AV×AV)}{k z:AV}{ok:Bool}{σ τ:Nat->Nat}(ht:mapT P t=some (kt,et))(hp:PIx σ τ es es')(hd:(es.map Prod.fst).Nodup)
  (ho:∀ e,e∈es->zo P kt e.1=true) (h:zC P mu t (.im es) k ok=some z):zC P mu t (.im es') k ok=some z:=by
 unfold zC at *
 simp only[ht,yr]at h⊢;split at h
 .rename_i hk
  rw[if_pos hk];obtain⟨r',hr'⟩:=Z6 hk es' 0 (fun e he=>ho e (hp.mem.1 he));rw[hr'];split at h
  .rename_i i hi
   obtain⟨_,e,he,hke⟩:=vT hi;simp only[Nat.sub_zero]at he;rw[he]at h;cases r' with
   |none=>exact absurd hke (Z7 (wT hr' e (hp.mem.2 (qC he))))
   |some j =>
    obtain⟨_,e',he',hke'⟩:=vT hr';simp only[Nat.sub_zero]at he';have:e'=e:=Ue hd (hp.mem.1 (qC he')) (qC he) (by rw[<-hke,<-hke']);subst this;simp only[he'];exact h
  .rename_i hi
   cases r' with
   |none=>exact h
   |some j =>
    obtain⟨_,e',he',hke'⟩:=vT hr';simp only[Nat.sub_zero]at he';exact absurd hke' (Z7 (wT hi e' (hp.mem.1 (qC he'))))
  .exact absurd h (by simp)
 .exact absurd h (by simp)
def zY(P:Program)(mu:Mu)(t:TypeId)(m k:AV)(ok:Bool):Option AV:=
 match m with
 | .ims es=>(match mapT P t with
  |some (kt,_)=>if (es.all fun e=>zo P kt e.1)=true then zC P mu t (.im es) k ok else none
  |none=>none)
 |m=>zC P mu t m k ok
@[go_sem] theorem KO(P:Program)(mu:Mu)(t:TypeId)(es:List (AV×AV))(k:AV)(ok:Bool):zY P mu t (.ims es) k ok=(match mapT P t with
  |some (kt,_)=>if (es.all fun e=>zo P kt e.1)=true then zC P mu t (.im es) k ok else none
  |none=>none):=rfl
@[go_sem] theorem KP(P:Program)(mu:Mu)(t:TypeId)(es:List (AV×AV))(k:AV)(ok:Bool):zY P mu t (.im es) k ok=zC P mu t (.im es) k ok:=rfl
@[go_sem] theorem KQ(P:Program)(mu:Mu)(t:TypeId)(b:Nat)(k:AV)(ok:Bool):zY P mu t (.mp b) k ok=zC P mu t (.mp b) k ok:=rfl
@[go_sem] theorem KR(P:Program)(mu:Mu)(t:TypeId)(v:Value)(k:AV)(ok:Bool):zY P mu t (.sc v) k ok=zC P mu t (.sc v) k ok:=rfl
theorem Ug{P:Program}{G:Gh}{mu:Mu}{w:World}(s:Sim G mu w.heap){t:TypeId}{m k z:AV}{ok:Bool}{vm vk:Value}(rm:VRel G w.heap m vm)(rk:VRel G w.heap k vk)(h:zY P mu t m k ok=some z) :
  ∃ u,(Instr.lookup t vm vk ok).run P w = .ok u w/\VRel G w.heap z u:=by
 unfold zY at h;split at h
 .rename_i es
  split at h
  .rename_i kt et ht
   split at h
   .rename_i ho
    cases rm with
    |ims _ es' σ τ _ hp hd r =>
     exact Z2 s r rk (Uf ht hp hd (fun e he=>by have:=qt.1 ho e he;simpa using this) h)
   .exact absurd h (by simp)
  .exact absurd h (by simp)
 .exact Z2 s rm rk h
theorem Uh{G:Gh}{h:Array Obj}:∀(xs ys:List AV) (vs ws:List Value) (n:Nat),aEqs xs ys=some true->vs.length=xs.length->ws.length=ys.length->(∀(k:Nat) x,xs[k]?=some x->∃ v,vs[k]?=some v/\VRel G h x v) ->
  (∀(k:Nat) x,ys[k]?=some x->∃ v,ws[k]?=some v/\VRel G h x v)->vs.length=ws.length/\((vs.zip ws).all fun (x,y)=>Instr.sameBits n x y)=true:=by
 intro xs;induction xs with
 |nil =>
  intro ys vs ws n h1 hv hw _ _;cases ys with
  |nil=>simp at hv hw;subst hv;subst hw;exact⟨rfl,rfl⟩
  |cons=>simp[aEqs]at h1
 |cons x xs ih =>
  intro ys vs ws n h1 hv hw rv rw';have h':=vQ h1;clear h1;obtain⟨k,a,b',ys',rfl,rfl,h⟩:=h';rcases h with ⟨hab,h⟩|⟨_,h⟩
  .cases vs with
   |nil=>simp at hv
   |cons v vs =>
    cases ws with
    |nil=>simp at hw
    |cons u ws =>
     obtain⟨v',e1,r1⟩:=rv 0 _ rfl;obtain⟨u',e2,r2⟩:=rw' 0 _ rfl;simp at e1 e2;subst e1;subst e2;cases r1;cases r2;obtain⟨g1,g2⟩:=ih ys' vs ws n h (by simpa using hv) (by simpa using hw) (fun j y hy=>rv (j+1) y (by simpa using hy)) (fun j y hy=>rw' (j+1) y (by simpa using hy));refine⟨by simp[g1],?_⟩;simp only[List.zip_cons_cons,List.all_cons,g2,Bool.and_true];cases n<;>simpa[Instr.sameBits] using hab
  .exact absurd h (by simp)
theorem wU{P:Program}{G:Gh}{h:Array Obj}{kt:TypeId}{x y:AV}{u v:Value}(rx:VRel G h x u)(ry:VRel G h y v)(hk:zK P kt x y=some true):Instr.sameBits 10000 v u=true:=by
 unfold zK at hk;split at hk
 .split at hk
  .cases rx;cases ry
   split at hk
   .rename_i hkk;subst hkk
    simp only[qb,beq_iff_eq]at hk;subst hk;simp[Instr.sameBits]
   .exact absurd hk (by simp)
  .exact absurd hk (by simp)
 .split at hk
  .cases rx;cases ry
   have hk:=Option.some.inj hk;simp only[Instr.sameBits];rw[beq_toListBytes,beq_iff_eq]at hk⊢;exact hk.symm
  .exact absurd hk (by simp)
 .split at hk
  .cases rx;cases ry
   have hk:=Option.some.inj hk;simp only[Instr.sameBits];rw[beq_iff_eq]at hk⊢;exact hk.symm
  .exact absurd hk (by simp)
 .split at hk
  .split at hk
   .rename_i xs ys
    split at hk
    .rename_i hl
     cases rx with
     |agg _ vs hn hv =>
     cases ry with
     |agg _ ws hm hw =>
     have g1:=j6 hn hv;have g2:=j6 hm hw;have:=Uh (G:=G) (h:=h) xs ys vs.toList ws.toList 9999 hk (by simpa using hn) (by simpa using hm) (fun k x hx=>by have:=g1 k x hx;simpa using this) (fun k x hx=>by have:=g2 k x hx;simpa using this);have hsym:∀(a b:List Value),a.length=b.length->((a.zip b).all fun (x,y)=>Instr.sameBits 9999 x y)=true->(∀ c,c∈a->∃ k n,c = .int k n)->(∀ c,c∈b->∃ k n,c = .int k n)->((b.zip a).all fun (x,y)=>Instr.sameBits 9999 x y)=true:=by
      intro a;induction a with
      |nil=>intro b _ _ _ _;simp
      |cons c a ih =>
       intro b hl h ha hb;cases b with
       |nil=>simp at hl
       |cons d b =>
        obtain⟨k1,n1,rfl⟩:=ha c (by simp);obtain⟨k2,n2,rfl⟩:=hb d (by simp);simp only[List.zip_cons_cons,List.all_cons,qe]at h⊢;refine⟨?_,ih b (by simpa using hl) h.2 (fun c hc=>ha c (by simp[hc])) (fun c hc=>hb c (by simp[hc]))⟩;simp only[Instr.sameBits,qe,beq_iff_eq]at h⊢;exact⟨h.1.1.symm,h.1.2.symm⟩
     have ints:∀(xs ys:List AV),aEqs xs ys=some true->(∀ c,c∈xs->∃ k n,c = .sc (.int k n))/\(∀ c,c∈ys->∃ k n,c = .sc (.int k n)):=by
      intro xs;induction xs with
      |nil=>intro ys h;cases ys with
       |nil=>simp
       |cons=>simp[aEqs]at h
      |cons x xs ih =>
       intro ys h;have h':=vQ h;clear h;obtain⟨k,a,b',ys',rfl,rfl,h⟩:=h';rcases h with ⟨_,h⟩|⟨_,h⟩
       .obtain ⟨g1,g2⟩:=ih ys' h
        refine⟨fun c hc=>?_,fun c hc=>?_⟩
        .rcases qz.1 hc with rfl|hc
         .exact ⟨k,a,rfl⟩
         .exact g1 c hc
        .rcases qz.1 hc with rfl|hc
         .exact ⟨k,b',rfl⟩
         .exact g2 c hc
       .exact absurd h (by simp)
     obtain⟨i1,i2⟩:=ints xs ys hk;have val:∀(l:List AV) (us:Array Value),us.size=l.length->(∀(k:Nat) x,l[k]?=some x->VRel G h x (us.getD k undef))->(∀ c,c∈l->∃ k n,c = .sc (.int k n))->∀ c,c∈us.toList->∃ k n,c = .int k n:=by
      intro l us hn hv hi c hc;obtain⟨k,hk⟩:=List.mem_iff_getElem?.1 hc;have hku:us[k]?=some c:=by simpa using hk
      have hlt:k<l.length:=by have:=(qR.1 hku).1;omega
      obtain⟨q,n,e⟩:=hi l[k] (by simp);have r:=hv k l[k] (by simp[hlt]);rw[e,VE hku]at r;cases r;exact⟨q,n,rfl⟩
     have hs:=hsym vs.toList ws.toList this.1 this.2 (val xs vs hn hv i1) (val ys ws hm hw i2);show (ws.size == vs.size&&(ws.toList.zip vs.toList).all fun (x,y)=>Instr.sameBits 9999 x y)=true;rw[hs,Bool.and_true,beq_iff_eq];have:=this.1;simp at this;exact this.symm
    .exact absurd hk (by simp)
   .exact absurd hk (by simp)
  .exact absurd hk (by simp)
 .exact absurd hk (by simp)
theorem wV{P:Program}{kt:TypeId}{k:AV}:∀(es:List (AV×AV)) (i j:Nat),qA P kt k es i=some (some j)->i<=j/\∃ e,es[j-i]?=some e/\zK P kt k e.1=some true:=by
 intro es;induction es with
 |nil=>intro i j h;simp[qA]at h
 |cons e es ih =>
  intro i j h;simp only[qA]at h;split at h
  .rename_i hk
   simp only[qb]at h;subst h;exact⟨qu _,e,by simp,hk⟩
  .obtain ⟨h1,e',h2,h3⟩:=ih (i+1) j h
   refine⟨by omega,e',?_,h3⟩;rw[show j-i=(j-(i+1))+1 by omega];simpa using h2
  .exact absurd h (by simp)
end Go.Ev
namespace Go.Ev
open Go Go.RowKit
@[go_sem] def Z8(es:List (AV×AV))(i:Option Nat)(k v:AV):List (AV×AV):=
 match i with
 |some i=>es.set i (k,v)
 |none=>es++[(k,v)]
theorem ja{P:Program}{w:World}{r:Nat}{ce:Array MapEntry}{cl:Nat}(h:w.heap[r]?=some (.map ce cl))(o:Obj):(setObj r o).run P w = .ok () { w with heap:=w.heap.setIfInBounds r o }:=by
 simp[setObj,Sem.run,h]
theorem wW(w:World)(r:Nat)(o:Obj)(h:r<w.heap.size):({ w with heap:=w.heap.setIfInBounds r o }:World).heap[r]?=some o:=by
 simp[h]
theorem wX(w:World)(r k:Nat)(o:Obj)(h:k≠r):({ w with heap:=w.heap.setIfInBounds r o }:World).heap[k]?=w.heap[k]?:=by
 simp only;rw[vB (fun e=>h e.symm)]
theorem uD{G:Gh}{mu:Mu}{w:World}(s:Sim G mu w.heap){b:Nat}{v:Value}{es:List (AV×AV)}(r:VRel G w.heap (.mp b) v)(hm:mu[b]?=some (.mp es)) :
  ∃ m tot ce,v = .map (some m)/\G.blk[b]?=some (m,tot)/\w.heap[m]?=some (.map ce ce.size)/\zg G w.heap es ce.toList/\(∀(k:Nat) (e:MapEntry),ce[k]?=some e->e.born=k):=by
 cases r with
 |mp _ blk tot hb =>
  obtain⟨ce,cl,h1,h2,h3,h4,h5,h6⟩:=s.mp _ _ blk tot hm hb;subst h5;refine⟨blk,tot,ce,rfl,hb,h1,⟨by simpa using h2,fun k x hx=>?_⟩,h6⟩;have hlt:k<ce.size:=by have:=(qc.1 hx).1;omega
  exact⟨_,vS ce k hlt,h3 k x hx,h4 k x hx⟩
theorem Ui{G:Gh}{h:Array Obj}{es:List (AV×AV)}{ce:Array MapEntry}{tot:Nat}(hr:zg G h es ce.toList)(hb:∀(k:Nat) (e:MapEntry),ce[k]?=some e->e.born=k):yp G h tot (.map ce ce.size) (.mp es):=by
 refine⟨ce,ce.size,rfl,by simpa using hr.1,fun k x hx=>?_,fun k x hx=>?_,rfl,hb⟩
 .obtain ⟨e,he,h1,h2⟩:=hr.2 k x hx
  have:ce[k]?=some e:=by simpa using he
  simpa[qi,this] using h1
 .obtain ⟨e,he,h1,h2⟩:=hr.2 k x hx
  have:ce[k]?=some e:=by simpa using he
  simpa[qi,this] using h2
theorem Z9{G:Gh}{h:Array Obj}{es:List (AV×AV)}{ce:Array MapEntry}(hr:zg G h es ce.toList){i:Nat}(hi:i<es.length){k v:AV}{uk uv:Value}(rk:VRel G h k uk)(rv:VRel G h v uv) :
  zg G h (es.set i (k,v)) (ce.modify i fun e=>{ e with key:=uk,val:=uv }).toList:=by
 refine⟨by simpa using hr.1,fun j x hx=>?_⟩;rcases zk hx with ⟨rfl,rfl⟩|⟨hne,hx⟩
 .have hsz:j<ce.size:=by have:=hr.1;simp at this;omega
  refine⟨{ ce[j] with key:=uk,val:=uv },?_,rk,rv⟩;rw[zI,Array.getElem?_modify];simp[hsz]
 .obtain ⟨e,he,h1,h2⟩:=hr.2 j x hx
  refine⟨e,?_,h1,h2⟩;rw[zI]at he⊢;rw[Array.getElem?_modify,if_neg (fun h=>hne h.symm)];exact he
theorem wY{G:Gh}{h:Array Obj}{es:List (AV×AV)}{ce:Array MapEntry}(hr:zg G h es ce.toList){k v:AV}{uk uv:Value}(rk:VRel G h k uk)(rv:VRel G h v uv)(n:Nat) :
  zg G h (es++[(k,v)]) (ce.push { key:=uk,val:=uv,born:=n }).toList:=by
 have hl:ce.size=es.length:=by simpa using hr.1
 refine⟨by simp[hl],fun j x hx=>?_⟩;rcases qO hx with ⟨hj,hx⟩|⟨rfl,rfl⟩
 .obtain ⟨e,he,h1,h2⟩:=hr.2 j x hx
  refine⟨e,?_,h1,h2⟩;rw[Array.toList_push,qh (by simpa[hl] using hj)];exact he
 .exact ⟨{ key:=uk,val:=uv,born:=n },by rw[Array.toList_push,qB (by simp[hl])];simp[hl],rk,rv⟩
theorem wZ{ce:Array MapEntry}(hb:∀(k:Nat) (e:MapEntry),ce[k]?=some e->e.born=k)(i:Nat)(f:MapEntry->MapEntry)(hf:∀ e,(f e).born=e.born):∀(k:Nat) (e:MapEntry),(ce.modify i f)[k]?=some e->e.born=k:=by
 intro k e h;rw[Array.getElem?_modify]at h;split at h
 .rename_i hik;subst hik
  cases hq:ce[i]? with
  |none=>simp[hq]at h
  |some e'=>simp[hq]at h;subst h;rw[hf];exact hb i e' hq
 .exact hb k e h
theorem Ya{ce:Array MapEntry}(hb:∀(k:Nat) (e:MapEntry),ce[k]?=some e->e.born=k)(x:MapEntry)(hx:x.born=ce.size):∀(k:Nat) (e:MapEntry),(ce.push x)[k]?=some e->e.born=k:=by
 intro k e h;rw[VB]at h;split at h
 .rename_i hk;simp only[qb]at h;subst h;rw[hx];exact hk.symm
 .exact hb k e h
theorem Stp.putMap{G:Gh}{mu:Mu}{w:World}(s:Sim G mu w.heap){b m tot:Nat}{es es':List (AV×AV)}{ce ce':Array MapEntry}(hm:mu[b]?=some (.mp es))(hb:G.blk[b]?=some (m,tot))(hh:w.heap[m]?=some (.map ce ce.size))
  (hr:zg G w.heap es' ce'.toList) (hborn:∀(k:Nat) (e:MapEntry),ce'[k]?=some e->e.born=k):Stp G mu w G (mu.set b (.mp es')) { w with heap:=w.heap.setIfInBounds m (.map ce' ce'.size) }:=by
 have hlt:m<w.heap.size:=(qR.1 hh).1;exact Stp.write s b (.mp es) (.mp es') m tot (.map ce' ce'.size) hm (by simp) (by simp) hb (by simp) (wW w m _ hlt) (fun k hk=>wX w m k _ hk) rfl rfl rfl (Ui hr hborn)
theorem Uj{G:Gh}{mu:Mu}{w:World}(s:Sim G mu w.heap){b:Nat}{v:Value}{es:List (AV×AV)}(r:VRel G w.heap (.mp b) v)(hm:mu[b]?=some (.md es)) :
  ∃ m tot ce cl,v = .map (some m)/\G.blk[b]?=some (m,tot)/\w.heap[m]?=some (.map ce cl)/\zg G w.heap es ce.toList/\zO ce cl:=by
 cases r with
 |mp _ blk tot hb =>
  obtain⟨ce,cl,h1,h2,h3,h4,h5⟩:=s.md _ _ blk tot hm hb;refine⟨blk,tot,ce,cl,rfl,hb,h1,⟨by simpa using h2,fun k x hx=>?_⟩,h5⟩;have hlt:k<ce.size:=by have:=(qc.1 hx).1;omega
  exact⟨_,vS ce k hlt,h3 k x hx,h4 k x hx⟩
theorem Uk{G:Gh}{h:Array Obj}{es:List (AV×AV)}{ce:Array MapEntry}{cl tot:Nat}(hr:zg G h es ce.toList)(hb:zO ce cl):yp G h tot (.map ce cl) (.md es):=by
 refine⟨ce,cl,rfl,by simpa using hr.1,fun k x hx=>?_,fun k x hx=>?_,hb⟩
 .obtain ⟨e,he,h1,h2⟩:=hr.2 k x hx
  have:ce[k]?=some e:=by simpa using he
  simpa[qi,this] using h1
 .obtain ⟨e,he,h1,h2⟩:=hr.2 k x hx
  have:ce[k]?=some e:=by simpa using he
  simpa[qi,this] using h2
theorem Stp.putMapD{G:Gh}{mu:Mu}{w:World}(s:Sim G mu w.heap){b m tot:Nat}{c:Cell}{es':List (AV×AV)}{o:Obj}{ce':Array MapEntry}{cl:Nat}(hm:mu[b]?=some c)(hd:c ≠ .dead)(hb:G.blk[b]?=some (m,tot))(hh:w.heap[m]?=some o)
  (hr:zg G w.heap es' ce'.toList) (hborn:zO ce' cl):Stp G mu w G (mu.set b (.md es')) { w with heap:=w.heap.setIfInBounds m (.map ce' cl) }:=by
 have hlt:m<w.heap.size:=(qR.1 hh).1;exact Stp.write s b c (.md es') m tot (.map ce' cl) hm hd (by simp) hb (by simp) (wW w m _ hlt) (fun k hk=>wX w m k _ hk) rfl rfl rfl (Uk hr hborn)
theorem Ul{ce:Array MapEntry}{cl:Nat}(hb:zO ce cl)(i:Nat)(f:MapEntry->MapEntry)(hf:∀ e,(f e).born=e.born):zO (ce.modify i f) cl:=by
 have key:∀(k:Nat) (e:MapEntry),(ce.modify i f)[k]?=some e->∃ e',ce[k]?=some e'/\e'.born=e.born:=by
  intro k e h;rw[Array.getElem?_modify]at h;split at h
  .cases hq:ce[k]? with
   |none=>simp[hq]at h
   |some e'=>simp[hq]at h;subst h;exact⟨e',rfl,(hf e').symm⟩
  .exact ⟨e,h,rfl⟩
 refine⟨fun k e h=>?_,fun j k e f' hj hk he=>?_⟩
 .obtain ⟨e',h1,h2⟩:=key k e h
  rw[<-h2];exact hb.1 k e' h1
 .obtain ⟨e1,g1,g2⟩:=key j e hj
  obtain⟨e2,g3,g4⟩:=key k f' hk;exact hb.2 j k e1 e2 g1 g3 (by omega)
theorem Um{ce:Array MapEntry}{cl:Nat}(hb:zO ce cl)(x:MapEntry)(hx:x.born=cl):zO (ce.push x) (cl+1):=by
 have key:∀(k:Nat) (e:MapEntry),(ce.push x)[k]?=some e->(k=ce.size/\e=x)\/ce[k]?=some e:=by
  intro k e h;rw[VB]at h;split at h
  .rename_i hk;simp only[qb]at h;exact .inl ⟨hk,h.symm⟩
  .exact .inr h
 refine⟨fun k e h=>?_,fun j k e f' hj hk he=>?_⟩
 .rcases key k e h with ⟨_,rfl⟩|h
  .omega
  .have:=hb.1 k e h;omega
 .rcases key j e hj with ⟨h1,rfl⟩|h1<;>rcases key k f' hk with ⟨h2,rfl⟩|h2
  .omega
  .have:=hb.1 k f' h2;omega
  .have:=hb.1 j e h1;omega
  .exact hb.2 j k e f' h1 h2 he
theorem Un{ce:Array MapEntry}{cl:Nat}(hb:zO ce cl)(i:Nat):zO (ce.eraseIdxIfInBounds i) cl:=by
 have key:∀ k:Nat,∃ j:Nat,(ce.eraseIdxIfInBounds i)[k]?=ce[j]?/\j=if k<i then k else if i<ce.size then k+1 else k:=by
  intro k;by_cases hi:i<ce.size
  .have:ce.eraseIdxIfInBounds i=ce.eraseIdx i:=by unfold Array.eraseIdxIfInBounds;rw[dif_pos hi]
   rw[this];refine⟨_,?_,rfl⟩;rw[Array.getElem?_eraseIdx];by_cases hk:k<i<;>simp[hk,hi]
  .have:ce.eraseIdxIfInBounds i=ce:=by unfold Array.eraseIdxIfInBounds;rw[dif_neg hi]
   rw[this];refine⟨k,rfl,?_⟩;simp[hi]
 refine⟨fun k e h=>?_,fun j k e f' hj hk he=>?_⟩
 .obtain ⟨j,h1,_⟩:=key k
  rw[h1]at h;exact hb.1 j e h
 .obtain ⟨j',h1,h2⟩:=key j
  obtain⟨k',h3,h4⟩:=key k;rw[h1]at hj;rw[h3]at hk;have:=hb.2 j' k' e f' hj hk he;split at h2<;>split at h4<;>(try split at h2)<;>(try split at h4)<;>omega
theorem Uo{G:Gh}{h:Array Obj}{es:List (AV×AV)}{ce:Array MapEntry}(hr:zg G h es ce.toList){i:Nat}(hi:i<es.length):zg G h (es.eraseIdx i) (ce.eraseIdxIfInBounds i).toList:=by
 have hl:ce.size=es.length:=by simpa using hr.1
 have e:(ce.eraseIdxIfInBounds i).toList=ce.toList.eraseIdx i:=by
  unfold Array.eraseIdxIfInBounds;rw[dif_pos (by omega)];simp
 rw[e];refine⟨by simp[List.length_eraseIdx,hl],fun k x hx=>?_⟩;rw[List.getElem?_eraseIdx]at hx;by_cases hk:k<i
 .rw [if_pos hk]at hx
  obtain⟨c,h1,h2⟩:=hr.2 k x hx;exact⟨c,by rw[List.getElem?_eraseIdx,if_pos hk];exact h1,h2⟩
 .rw [if_neg hk]at hx
  obtain⟨c,h1,h2⟩:=hr.2 (k+1) x hx;exact⟨c,by rw[List.getElem?_eraseIdx,if_neg hk];exact h1,h2⟩
@[go_sem] def j8(P:Program)(mu:Mu)(t:TypeId)(m k v:AV):Option Mu:=
 match m,mapT P t with
 | .mp b,some (kt,_)=>match mu[b]? with
  |some (.mp es)=>if zo P kt k=true then (qA P kt k es 0).map fun r=>mu.set b (.mp (Z8 es r k v)) else none
  |some (.md es)=>if zo P kt k=true then (qA P kt k es 0).map fun r=>mu.set b (.md (Z8 es r k v)) else none
  |_=>none
 |_,_=>none
theorem w6{P:Program}{w:World}{o n:Value}(h:Instr.sameBits 10000 o n=true):(Instr.keyThatStays o n).run P w = .ok n w:=by
 simp[Instr.keyThatStays,h]
theorem Yb{P:Program}{G:Gh}{mu mu':Mu}{w:World}(s:Sim G mu w.heap){t:TypeId}{m k v:AV}{vm vk vv:Value}(rm:VRel G w.heap m vm)(rk:VRel G w.heap k vk)(rv:VRel G w.heap v vv)(h:j8 P mu t m k v=some mu') :
  ∃ w',(Instr.mapUpdate t vm vk vv).run P w = .ok () w'/\Stp G mu w G mu' w':=by
 unfold j8 at h;split at h
 .rename_i b kt et ht
  have hu:=jF ht;split at h
  .rename_i es hm
   split at h
   .rename_i hko
    obtain⟨mb,tot,ce,rfl,hb,hh,hr,hborn⟩:=uD s rm hm;have hck:(Instr.checkKey false 10000 kt vk).run P w = .ok () w:=vR false rk hko;have hg:=yT (P:=P) hh;have hsz:ce.size=es.length:=by simpa using hr.1
    cases hf:qA P kt k es 0 with
    |none=>simp[hf]at h
    |some r =>
     simp only[hf,qw,qb]at h;subst h;obtain⟨hfk,hlt⟩:=jm rk hko hr hf;cases r with
     |none =>
      have hr':=wY hr rk rv ce.size;have hb':=Ya hborn { key:=vk,val:=vv,born:=ce.size } rfl;refine⟨_,?_,Stp.putMap s hm hb hh hr' hb'⟩;simp only[Option.map_none]at hfk;simp[Instr.mapUpdate,run_underlying hu,hg,hck,hfk,ja hh]
     |some i =>
      obtain⟨_,e,he,hkeq⟩:=wV es 0 i hf;rw[Nat.sub_zero]at he;obtain⟨c,hc,rck,rcv⟩:=hr.2 i e he;have hci:ce[i]?=some c:=by simpa using hc
      have hsame:=wU rk rck hkeq;have hr':=Z9 hr (hlt i rfl) rk rv;have hb':=wZ hborn i (fun e=>{ e with key:=vk,val:=vv }) (fun _=>rfl);refine⟨_,?_,Stp.putMap s hm hb hh hr' hb'⟩;simp only[qw]at hfk;simp[Instr.mapUpdate,run_underlying hu,hg,hck,hfk,hci,w6 hsame,ja hh]
   .exact absurd h (by simp)
  .rename_i es hm
   split at h
   .rename_i hko
    obtain⟨mb,tot,ce,cl,rfl,hb,hh,hr,hborn⟩:=Uj s rm hm;have hck:(Instr.checkKey false 10000 kt vk).run P w = .ok () w:=vR false rk hko;have hg:=yT (P:=P) hh;have hsz:ce.size=es.length:=by simpa using hr.1
    cases hf:qA P kt k es 0 with
    |none=>simp[hf]at h
    |some r =>
     simp only[hf,qw,qb]at h;subst h;obtain⟨hfk,hlt⟩:=jm rk hko hr hf;cases r with
     |none =>
      have hr':=wY hr rk rv cl;have hb':=Um hborn { key:=vk,val:=vv,born:=cl } rfl;refine⟨_,?_,Stp.putMapD s hm (by simp) hb hh hr' hb'⟩;simp only[Option.map_none]at hfk;simp[Instr.mapUpdate,run_underlying hu,hg,hck,hfk,ja hh]
     |some i =>
      obtain⟨_,e,he,hkeq⟩:=wV es 0 i hf;rw[Nat.sub_zero]at he;obtain⟨c,hc,rck,rcv⟩:=hr.2 i e he;have hci:ce[i]?=some c:=by simpa using hc
      have hsame:=wU rk rck hkeq;have hr':=Z9 hr (hlt i rfl) rk rv;have hb':=Ul hborn i (fun e=>{ e with key:=vk,val:=vv }) (fun _=>rfl);refine⟨_,?_,Stp.putMapD s hm (by simp) hb hh hr' hb'⟩;simp only[qw]at hfk;simp[Instr.mapUpdate,run_underlying hu,hg,hck,hfk,hci,w6 hsame,ja hh]
   .exact absurd h (by simp)
  .exact absurd h (by simp)
 .exact absurd h (by simp)
@[go_sem] def jG(P:Program)(mu:Mu)(t:TypeId)(m k:AV):Option (AV×Mu):=
 match m,mapT P t with
 | .mp b,some (kt,et)=>match mu[b]? with
  |some (.mp es)=>if zo P kt k=true then
    match qA P kt k es 0 with
    |some (some i)=>(es[i]?).map fun e=>(.tup [e.2,.sc (.int .i64 i)],mu.set b (.mp (es.set i (k,e.2))))
    |some none=>(qn P et).map fun z=>(.tup [z,.sc (.int .i64 es.length)],mu.set b (.mp (es++[(k,z)])))
    |none=>none
   else none
  |_=>none
 |_,_=>none
theorem Up{P:Program}{G:Gh}{mu mu':Mu}{w:World}(s:Sim G mu w.heap){t:TypeId}{m k z:AV}{vm vk:Value}(rm:VRel G w.heap m vm)(rk:VRel G w.heap k vk)(h:jG P mu t m k=some (z,mu')) :
  Good P G mu w (Instr.mapEntry t vm vk) z mu':=by
 unfold jG at h;split at h
 .rename_i b kt et ht
  have hu:=jF ht;split at h
  .rename_i es hm
   split at h
   .rename_i hko
    obtain⟨mb,tot,ce,rfl,hb,hh,hr,hborn⟩:=uD s rm hm;have hck:(Instr.checkKey false 10000 kt vk).run P w = .ok () w:=vR false rk hko;have hg:=yT (P:=P) hh;have hsz:ce.size=es.length:=by simpa using hr.1
    split at h
    .rename_i i hf
     obtain⟨hfk,hlt⟩:=jm rk hko hr hf;obtain⟨_,e,he,hkeq⟩:=wV es 0 i hf;rw[Nat.sub_zero]at he;rw[he]at h;simp only[qw,qb,yd]at h;obtain⟨rfl,rfl⟩:=h;obtain⟨c,hc,rck,rcv⟩:=hr.2 i e he;have hci:ce[i]?=some c:=by simpa using hc
     have hsame:=wU rk rck hkeq;have hcd:ce.getD i default=c:=by simp[qi,hci]
     have hr':zg G w.heap (es.set i (k,e.2)) (ce.modify i fun e=>{ e with key:=vk }).toList:=by
      refine⟨by simpa using hr.1,fun j x hx=>?_⟩;rcases zk hx with ⟨rfl,rfl⟩|⟨hne,hx⟩
      .refine ⟨{ c with key:=vk },?_,rk,rcv⟩
       rw[zI,Array.getElem?_modify,if_pos rfl,hci];rfl
      .obtain ⟨e',he',h1,h2⟩:=hr.2 j x hx
       refine⟨e',?_,h1,h2⟩;rw[zI]at he' ⊢;rw[Array.getElem?_modify,if_neg (fun h=>hne h.symm)];exact he'
     have hb':=wZ hborn i (fun e=>{ e with key:=vk }) (fun _=>rfl);have hbc:c.born=i:=hborn i c hci;have st:=Stp.putMap s hm hb hh hr' hb';refine⟨.tuple #[c.val,.int .i64 i],_,G,?_,st,tup2 (st.vrel s rcv) (.sc _ rfl)⟩;simp only[qw,hcd]at hfk;simp[Instr.mapEntry,run_underlying hu,hg,hck,hfk,hci,w6 hsame,ja hh,goInt,hbc]
    .rename_i hf
     obtain⟨hfk,_⟩:=jm rk hko hr hf;cases hz:qn P et with
     |none=>simp[hz]at h
     |some z0 =>
      simp only[hz,qw,qb,yd]at h;obtain⟨rfl,rfl⟩:=h;obtain⟨zv,hzr,rfl⟩:=jC hz w;have hr':=wY hr rk (VRel.ofV (G:=G) (h:=w.heap) zv) ce.size;have hb':=Ya hborn { key:=vk,val:=zv,born:=ce.size } rfl;have st:=Stp.putMap s hm hb hh hr' hb';refine⟨.tuple #[zv,.int .i64 es.length],_,G,?_,st,tup2 (.ofV zv) (.sc _ rfl)⟩;simp only[Option.map_none]at hfk;simp[Instr.mapEntry,run_underlying hu,hg,hck,hfk,hzr,ja hh,goInt,hsz]
    .exact absurd h (by simp)
   .exact absurd h (by simp)
  .exact absurd h (by simp)
 .exact absurd h (by simp)
@[go_sem] def uE(mu:Mu)(m stamp v:AV):Option Mu:=
 match m,stamp with
 | .mp b,.sc (.int _ i)=>match mu[b]? with
  |some (.mp es)=>if 0<=i then (es[i.toNat]?).map fun e=>mu.set b (.mp (es.set i.toNat (e.1,v))) else none
  |_=>none
 |_,_=>none
theorem Uq{P:Program}{G:Gh}{mu mu':Mu}{w:World}(s:Sim G mu w.heap){t:TypeId}{m st v:AV}{vm vs vv:Value}(rm:VRel G w.heap m vm)(rs:VRel G w.heap st vs)(rv:VRel G w.heap v vv)(h:uE mu m st v=some mu') :
  ∃ w',(Instr.entryStore t vm vs vv).run P w = .ok () w'/\Stp G mu w G mu' w':=by
 unfold uE at h;split at h
 .rename_i b q i
  split at h
  .rename_i es hm
   split at h
   .rename_i hi0
    cases he:es[i.toNat]? with
    |none=>simp[he]at h
    |some e =>
     simp only[he,qw,qb]at h;subst h;obtain⟨mb,tot,ce,rfl,hb,hh,hr,hborn⟩:=uD s rm hm;cases rs;have hg:=yT (P:=P) hh;obtain⟨c,hc,rck,rcv⟩:=hr.2 _ e he;have hci:ce[i.toNat]?=some c:=by simpa using hc
     have hlt:i.toNat<ce.size:=(qR.1 hci).1;have hfind:ce.findIdx? (fun e=>(e.born:Int) == i)=some i.toNat:=by
      rw[Array.findIdx?_eq_some_iff_getElem];refine⟨hlt,?_,fun j hj=>?_⟩
      .have:ce[i.toNat].born=i.toNat:=hborn _ _ (by simp[hlt])
       simp[this];omega
      .have:ce[j].born=j:=hborn j _ (by simp[show j<ce.size by omega])
       simp[this];omega
     have hr':zg G w.heap (es.set i.toNat (e.1,v)) (ce.modify i.toNat fun e=>{ e with val:=vv }).toList:=by
      refine⟨by simpa using hr.1,fun j x hx=>?_⟩;rcases zk hx with ⟨rfl,rfl⟩|⟨hne,hx⟩
      .refine ⟨{ c with val:=vv },?_,rck,rv⟩
       rw[zI,Array.getElem?_modify,if_pos rfl,hci];rfl
      .obtain ⟨e',he',h1,h2⟩:=hr.2 j x hx
       refine⟨e',?_,h1,h2⟩;rw[zI]at he' ⊢;rw[Array.getElem?_modify,if_neg (fun h=>hne h.symm)];exact he'
     have hb':=wZ hborn i.toNat (fun e=>{ e with val:=vv }) (fun _=>rfl);refine⟨_,?_,Stp.putMap s hm hb hh hr' hb'⟩;simp[Instr.entryStore,hg,asInt,asIntOf,hfind,ja hh]
   .exact absurd h (by simp)
  .exact absurd h (by simp)
 .exact absurd h (by simp)
theorem Ur{P:Program}{G:Gh}{mu:Mu}{w:World}(s:Sim G mu w.heap){t:TypeId}:Good P G mu w (Instr.makeMap t none) (.mp mu.length) (mu++[.mp []]):=by
 have st:=Stp.allocNew s (.map #[] 0) (.mp []) 0 (fun _=>⟨#[],0,rfl,rfl,by simp,by simp,rfl,by simp⟩);refine⟨.map (some w.heap.size),_,_,?_,st,.mp _ w.heap.size 0 ?_⟩
 .simp [Instr.makeMap]
 .show (G.blk++[_])[mu.length]?=_
  rw[<-s.len];simp
@[go_sem] def uF(P:Program)(mu:Mu)(t:TypeId)(m:AV):Option (AV×Mu):=
 match mapT P t,m with
 |some _,.im es=>some (.ptr mu.length 0,mu++[.it es []])
 |some _,.ims es=>some (.ptr mu.length 0,mu++[.it es []])
 |some _,.sc (.map none)=>some (.ptr mu.length 0,mu++[.it [] []])
 |_,_=>none
theorem Us{P:Program}{G:Gh}{mu mu':Mu}{w:World}(s:Sim G mu w.heap){t:TypeId}{m z:AV}{vm:Value}(rm:VRel G w.heap m vm)(h:uF P mu t m=some (z,mu')):Good P G mu w (Instr.range t vm) z mu':=by
 unfold uF at h;split at h
 .rename_i ke es ht
  obtain⟨kt,et⟩:=ke;have hu:=jF ht;simp only[qb,yd]at h;obtain⟨rfl,rfl⟩:=h;have rm':=rm;cases rm with
  |im _ blk ce clock hb hi hn hk hv hd =>
  have st:=Stp.allocNew s (.mapIter (some blk) clock #[] clock) (.it es []) 0 (fun h => .inl ⟨blk,es,id,id,ce,clock,rm',hb,hi,PIx.refl es,by simp,by simp⟩);refine⟨.pointer (some ⟨w.heap.size,0,none⟩),_,_,?_,st,.ptr _ 0 w.heap.size 0 ?_⟩
  .have hg:=yT (P:=P) hb
   simp[Instr.range,run_underlying hu,hg]
  .show (G.blk++[_])[mu.length]?=_
   rw[<-s.len];simp
 .rename_i ke es ht
  obtain⟨kt,et⟩:=ke;have hu:=jF ht;simp only[qb,yd]at h;obtain⟨rfl,rfl⟩:=h;cases rm with
  |ims _ es' σ τ _ hp hdd rm =>
  have rm':=rm;cases rm with
  |im _ blk ce clock hb hi hn hk hv hd =>
  have st:=Stp.allocNew s (.mapIter (some blk) clock #[] clock) (.it es []) 0 (fun h => .inl ⟨blk,es',σ,τ,ce,clock,rm',hb,hi,hp,by simp,by simp⟩);refine⟨.pointer (some ⟨w.heap.size,0,none⟩),_,_,?_,st,.ptr _ 0 w.heap.size 0 ?_⟩
  .have hg:=yT (P:=P) hb
   simp[Instr.range,run_underlying hu,hg]
  .show (G.blk++[_])[mu.length]?=_
   rw[<-s.len];simp
 .rename_i ke ht
  obtain⟨kt,et⟩:=ke;have hu:=jF ht;simp only[qb,yd]at h;obtain⟨rfl,rfl⟩:=h;cases rm;have st:=Stp.allocNew s (.mapIter none 0 #[] 0) (.it [] []) 0 (fun _ => .inr ⟨rfl,rfl⟩);refine⟨.pointer (some ⟨w.heap.size,0,none⟩),_,_,?_,st,.ptr _ 0 w.heap.size 0 ?_⟩
  .simp [Instr.range,run_underlying hu]
  .show (G.blk++[_])[mu.length]?=_
   rw[<-s.len];simp
 .exact absurd h (by simp)
def w7(mu:Mu)(itv:AV)(K:AV->Mu->Prop):Prop:=
 ∃ b es seen,itv = .ptr b 0/\mu[b]?=some (.it es seen) /\
  (∀(i:Nat) e,es[i]?=some e->i ∉ seen->K (.tup [.sc (.bool true),e.1,e.2]) (mu.set b (.it es (seen++[i])))) /\
  ((∀ i,i<es.length->i∈seen)->K (.tup [.sc (.bool false)]) mu)
theorem tup1{G:Gh}{h:Array Obj}{y:AV}{u:Value}(ry:VRel G h y u):VRel G h (.tup [y]) (.tuple #[u]):=by
 refine .tup _ _ rfl (fun k c hk=>?_);cases k with
 |zero=>simp at hk;subst hk;exact ry
 |succ k=>simp at hk
theorem tup3{G:Gh}{h:Array Obj}{x y z:AV}{t u v:Value}(rx:VRel G h x t)(ry:VRel G h y u)(rz:VRel G h z v):VRel G h (.tup [x,y,z]) (.tuple #[t,u,v]):=by
 refine .tup _ _ rfl (fun k c hk=>?_)
 match k,hk with
 | 0,hk=>simp at hk;subst hk;exact rx
 | 1,hk=>simp at hk;subst hk;exact ry
 | 2,hk=>simp at hk;subst hk;exact rz
 |k+3,hk=>simp at hk
theorem Ut{P:Program}{G:Gh}{mu:Mu}{w:World}(s:Sim G mu w.heap){itv:AV}{vi:Value}{ty:TypeId}(ri:VRel G w.heap itv vi){K:AV->Mu->Prop}(h:w7 mu itv K) :
  ∃ z mu',K z mu'/\Good P G mu w (Instr.next vi false ty) z mu':=by
 obtain⟨b,es,seen,rfl,hm,h1,h2⟩:=h;cases ri with
 |ptr _ _ blk tot hb =>
 obtain⟨o,ho,hcell⟩:=s.obj b _ blk tot hm (by simp) hb;have hlt:blk<w.heap.size:=(qR.1 ho).1;rcases hcell with ⟨m,es',σ,τ,ce0,clk,rm,hbm,hi,hpi,hseen,rfl⟩|⟨rfl,rfl⟩
 .cases rm with
  |im _ _ ce clock hbm' hi' hn' hk hv hd =>
  rw[hbm]at hbm';obtain⟨rfl,rfl⟩:ce0=ce/\clk=clock:=by simpa using hbm'
  have hn:ce0.size=es.length:=by rw[hn'];exact hpi.1
  have hcg:∀ j,j<es.length->ce0[j]?=some (ce0.getD j default):=fun j hj=>by
   rw[<-zI];exact vS ce0 j (by omega)
  generalize hsn:(seen.map fun i=>(ce0.getD (σ i) default).born)=sn at ho;have hsn1:∀ j,j<es.length->((ce0.getD j default).born∈sn↔τ j∈seen):=by
   intro j hj;rw[<-hsn,qr];constructor
   .rintro ⟨i,hi',hb'⟩
    have h1:=hpi.2 i (hseen i hi');have:=hd.2 _ _ _ _ (hcg _ h1.1) (hcg j hj) hb';rw[<-this,h1.2.2.1];exact hi'
   .intro hj'
    exact⟨τ j,hj',by simp only[(hpi.2 j hj).2.2.2.1]⟩
  have hg1:(getObj blk).run P w = .ok (.mapIter (some m) clk sn.toArray clk) w:=by simp[getObj,Sem.run,ho]
  have hg2:=yT (P:=P) hbm;have hsome:(!sn.toArray.isEmpty&&!ce0.isEmpty&&ce0.all fun e=>decide (e.born>=clk))=false:=by
   by_cases hce:ce0.size=0
   .have:ce0=#[]:=Array.eq_empty_of_size_eq_zero hce
    simp[this]
   .have:(ce0.all fun e=>decide (e.born>=clk))=false:=by
     cases hq:(ce0.all fun e=>decide (e.born>=clk)) with
     |false=>rfl
     |true =>
      have h0:ce0[0]?=some (ce0[0]'(by omega)):=by simp[show 0<ce0.size by omega]
      have:=(Array.all_eq_true'.1 hq) _ (Array.mem_of_getElem? h0);have hb0:=hd.1 0 _ h0;rw[decide_eq_true_eq]at this;omega
    rw[this];simp
  have hold:∀(a:Array MapEntry),(∀ e,e∈a->e∈ce0)->(a.filter fun e=>decide (e.born<clk))=a/\(a.filter fun e=>decide (e.born>=clk))=#[]:=by
   intro a ha;have hb:∀ e,e∈a->e.born<clk:=by
    intro e he;obtain⟨k,hk⟩:=Array.mem_iff_getElem?.1 (ha e he);exact hd.1 k e hk
   refine⟨Array.filter_eq_self.2 (fun e he=>by simpa using hb e he),Array.filter_eq_empty_iff.2 (fun e he=>by simpa using hb e he)⟩
  obtain⟨hf1,hf2⟩:=hold (ce0.filter fun e=>!sn.toArray.contains e.born) (fun e he=>(Array.mem_filter.1 he).1);generalize hleft:(ce0.filter fun e=>!sn.toArray.contains e.born)=left at hf1 hf2;have hmemleft:∀ e,e∈left->∃(k:Nat) (x:AV×AV),es[k]?=some x/\k ∉ seen/\e.born=(ce0.getD (σ k) default).born/\VRel G w.heap x.1 e.key/\VRel G w.heap x.2 e.val:=by
   intro e he;rw[<-hleft,Array.mem_filter]at he;obtain⟨k,hke⟩:=Array.mem_iff_getElem?.1 he.1;have hk':k<ce0.size:=(qR.1 hke).1;have hkl:k<es.length:=by omega
   have hx:es'[k]?=some (es'[k]'(by omega)):=by simp[show k<es'.length by omega]
   have hcd:ce0.getD k default=e:=by simp[qi,hke]
   refine⟨τ k,_,by rw[<-hpi.back hkl];exact hx,?_,by rw[(hpi.2 k hkl).2.2.2.1,hcd],by have:=hk k _ hx;rwa[hcd]at this,by have:=hv k _ hx;rwa[hcd]at this⟩;intro hs;have:=he.2;have h3:=(hsn1 k hkl).2 hs;rw[hcd]at h3;simp[h3]at this
  by_cases hemp:left=#[]
  ·
   have hall:∀ i,i<es.length->i∈seen:=by
    intro i hi;refine Classical.byContradiction fun hns=>?_
    obtain⟨q1,q2,q3,q4,q5⟩:=hpi.2 i hi;have hi':σ i<ce0.size:=by omega
    have:ce0[σ i]∈left:=by
     rw[<-hleft,Array.mem_filter];refine⟨by simp,?_⟩;have h4:ce0.getD (σ i) default=ce0[σ i]:=by simp[qi,hi']
     have h3:ce0[σ i].born ∉ sn:=fun h=>hns (by rw[<-h4]at h;have:=(hsn1 _ q1).1 h;rwa[q3]at this)
     simp[h3]
    rw[hemp]at this;simp at this
   refine⟨_,_,h2 hall,?_⟩;refine Good.quiet s (v := .tuple #[.bool false]) ?_ (tup1 (.sc _ rfl));simp only[Instr.next,ql,hg1,qm,hg2,hsome,Bool.false_eq_true,if_false,hleft,hf1,hf2,hemp];simp[Question.forced]
  .have hpos:0<left.size:=by
    rcases Nat.eq_zero_or_pos left.size with h|h
    .exact absurd (Array.eq_empty_of_size_eq_zero h) hemp
    .exact h
   have hne:left.isEmpty=false:=by simp[Array.isEmpty];omega
   have hget:∀(n:Nat) (h:n<left.size),left[n]?=some left[n]:=fun n h=>by simp[h]
   have key:∀(n:Nat) (w1:World) (hn1:n<left.size),w1.heap=w.heap->Stp G mu w G mu w1->∃ z mu',K z mu'/\∃ v w' G',((do
     setObj blk (.mapIter (some m) clk (sn.toArray.push left[n].born) clk)
     pure (.tuple #[.bool true,left[n].key,left[n].val]):Sem Value)).run P w1 = .ok v w'/\Stp G mu w G' mu' w'/\VRel G' w'.heap z v:=by
    intro n w1 hn1 hw1 hst;obtain⟨k,x,hx,hns,hbk,r1,r2⟩:=hmemleft left[n] (by simp);have ho1:w1.heap[blk]?=some (.mapIter (some m) clk sn.toArray clk):=by rw[hw1];exact ho
    have hlt1:blk<w1.heap.size:=by rw[hw1];exact hlt
    have rmm:VRel G w1.heap (.im es') (.map (some m)):=by rw[hw1];exact .im _ m ce0 _ hbm hi hn' hk hv hd
    have hkl:k<es.length:=(qc.1 hx).1;have st:=Stp.write hst.sim b (.it es seen) (.it es (seen++[k])) blk tot (.mapIter (some m) clk (sn++[(ce0.getD (σ k) default).born]).toArray clk) hm (by simp) (by simp) hb (w':={ w1 with heap:=w1.heap.setIfInBounds blk (.mapIter (some m) clk (sn++[(ce0.getD (σ k) default).born]).toArray clk) }) (by simp)
     (wW w1 blk _ hlt1) (fun j hj=>wX w1 blk j _ hj) rfl rfl rfl (.inl ⟨m,es',σ,τ,ce0,clk,rmm,by rw[hw1];exact hbm,hi,hpi,fun i hi=>by
      rcases List.mem_append.1 hi with h|h
      .exact hseen i h
      .simp at h;subst h;exact hkl,by rw[yC,hsn,List.map_singleton]⟩)
    have hset:(setObj blk (.mapIter (some m) clk (sn.toArray.push left[n].born) clk)).run P w1 = .ok () { w1 with heap:=w1.heap.setIfInBounds blk (.mapIter (some m) clk (sn++[(ce0.getD (σ k) default).born]).toArray clk) }:=by
     simp[setObj,Sem.run,ho1,hbk]
    refine⟨_,_,h1 k x hx hns,.tuple #[.bool true,left[n].key,left[n].val],_,G,?_,hst.trans s st,?_⟩
    .simp only[ql,hset,qm,qG]
    .have t:=hst.trans s st
     exact tup3 (.sc _ rfl) (t.vrel s r1) (t.vrel s r2)
   have hrun:∀(z:AV) (mu':Mu),True:=fun _ _=>trivial
   by_cases hone:left.size<=1
   .obtain ⟨z,mu',hk',v,w',G',g1,g2,g3⟩:=key 0 w hpos rfl (Stp.refl s)
    refine⟨z,mu',hk',v,w',G',?_,g2,g3⟩;rw[<-g1];simp only[Instr.next,ql,hg1,qm,hg2,hsome,Bool.false_eq_true,if_false,hleft,hf1,hf2,hne];simp[Question.forced,hone,hleft,hget 0 hpos]
   .obtain ⟨z,mu',hk',v,w',G',g1,g2,g3⟩:=key (w.tape w.drawn (.mapNext left.size) % left.size) w.drew (Nat.mod_lt _ hpos) rfl (Stp.drew s)
    refine⟨z,mu',hk',v,w',G',?_,g2,g3⟩;rw[<-g1];simp only[Instr.next,ql,hg1,qm,hg2,hsome,Bool.false_eq_true,if_false,hleft,hf1,hf2,hne];have hlt2:=Nat.mod_lt (w.tape w.drawn (.mapNext left.size)) hpos;simp[Question.forced,Question.cut,hone,hleft,hget _ hlt2]
 .have hg1:(getObj blk).run P w = .ok (.mapIter none 0 #[] 0) w:=by simp[getObj,Sem.run,ho]
  refine⟨_,_,h2 (fun i hi=>by simp at hi),Good.quiet s (v := .tuple #[.bool false]) ?_ (tup1 (.sc _ rfl))⟩;simp[Instr.next,hg1]
@[go_sem] def jH(mu:Mu)(itv:AV):Option AV:=
 match itv with
 | .ptr b 0=>match mu[b]? with
  |some (.it es seen)=>match seen.getLast? with
   |some i=>(es[i]?).map fun e => .tup [e.1,e.2]
   |none=>none
  |_=>none
 |_=>none
theorem Uu{P:Program}{G:Gh}{mu:Mu}{w:World}(s:Sim G mu w.heap){itv z:AV}{vi:Value}(ri:VRel G w.heap itv vi)(h:jH mu itv=some z) :
  ∃ u,(Instr.entry vi).run P w = .ok u w/\VRel G w.heap z u:=by
 unfold jH at h;split at h
 .rename_i b
  split at h
  .rename_i es seen hm
   split at h
   .rename_i i hi
    cases hx:es[i]? with
    |none=>simp[hx]at h
    |some x =>
     simp only[hx,qw,qb]at h;subst h;cases ri with
     |ptr _ _ blk tot hb =>
     obtain⟨o,ho,hcell⟩:=s.obj b _ blk tot hm (by simp) hb;rcases hcell with ⟨m,es',σ,τ,ce0,clk,rm,hbm,himm,hpi,hseen,rfl⟩|⟨rfl,rfl⟩
     .cases rm with
      |im _ _ ce clock hbm' himm' hn' hk hv hd =>
      rw[hbm]at hbm';obtain⟨rfl,rfl⟩:ce0=ce/\clk=clock:=by simpa using hbm'
      have hn:ce0.size=es.length:=by rw[hn'];exact hpi.1
      obtain⟨q1,q2,q3,q4,q5⟩:=hpi.2 i (qc.1 hx).1;have hx':es'[σ i]?=some x:=by rw[q5];exact hx
      have hback:(seen.map fun i=>(ce0.getD (σ i) default).born).toArray.back?=some ((ce0.getD (σ i) default).born):=by simp[hi]
      generalize (seen.map fun i=>(ce0.getD (σ i) default).born)=sn at ho hback;generalize σ i=i at hx' hback q1;have hg1:(getObj blk).run P w = .ok (.mapIter (some m) clk sn.toArray clk) w:=by simp[getObj,Sem.run,ho]
      have hg2:=yT (P:=P) hbm;have hil:i<ce0.size:=by omega
      have hcd:ce0.getD i default=ce0[i]:=by simp[qi,hil]
      rw[hcd]at hback;have hfind:ce0.find? (fun e=>e.born == ce0[i].born)=some ce0[i]:=by
       rw[Array.find?_eq_some_iff_getElem];refine⟨by simp,i,hil,rfl,fun j hj=>?_⟩;have hjl:j<ce0.size:=by omega
       have:ce0[j].born≠ce0[i].born:=fun h=>by
        have:=hd.2 j i _ _ (by simp[hjl]) (by simp[hil]) h;omega
       simp[this]
      have r1:=hk i x hx';have r2:=hv i x hx';rw[hcd]at r1 r2;exact⟨.tuple #[ce0[i].key,ce0[i].val],by simp[Instr.entry,hg1,hback,hg2,hfind],tup2 r1 r2⟩
     .simp at hx
   .exact absurd h (by simp)
  .exact absurd h (by simp)
 .exact absurd h (by simp)
end Go.Ev
