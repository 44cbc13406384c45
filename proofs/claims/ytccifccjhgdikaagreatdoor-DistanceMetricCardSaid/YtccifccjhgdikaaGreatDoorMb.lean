/-
  Own library, part 2: an abstract reading of values and a calculus over it; contracts of functions; plain lemmas.
-/
import Derived.TacticsIn
import Derived.Test.YtccifccjhgdikaaGreatDoorMa
set_option linter.unusedVariables false
set_option linter.unusedSimpArgs false
set_option maxRecDepth 100000
open Option.some renaming injEq->qb
open List renaming getElem?_eq_some_iff->qc,range->qg,getElem?_append_left->qh,mem_map->qr,getElem?_eq_getElem->qs,all_eq_true->qt,mem_append->qy,mem_cons->qz,getElem?_append_right->qB,mem_of_getElem?->qC,getD_eq_getElem?_getD->qH,mem_singleton->qV,getElem?_map->qW,getElem?_set_ne->q9,mem_cons_of_mem->zf,getElem?_set_self->zi,getElem?_take->zu,not_mem_nil->zz,take_of_length_le->zA,mem_append_left->zB,getElem?_drop->zH,append_assoc->zW,cons_append->z9,ext_getElem?->ya,mem_of_mem_take->yb,getElem?_eq_none->ym,eq_nil_of_length_eq_zero->yn,mem_cons_self->yz,mem_filter->yA,nodup_cons->yB,mem_range->yD,getElem?_toArray->yE,append_nil->y5,getElem?_cons_succ->y6,nodup_append->jz,nil_append->jY,getElem?_cons_zero->uo,getElem?_set->wF,pairwise_cons->Zz,mem_iff_getElem->Vy
open Bool renaming and_eq_true->qe,or_eq_true->yc
open Array renaming getD_eq_getD_getElem?->qi,getElem?_eq_some_iff->qR,getElem?_toList->zI,getElem?_setIfInBounds_ne->vB,getElem?_eq_getElem->uu
open Go.Sem renaming run_bind->ql,run_pure->qG
open Go.Result renaming andThen_ok->qm
open Nat renaming le_refl->qu,lt_of_lt_of_le->wC
open Option renaming map_some->qw
open Go.Builtin renaming zeroCells->za
open Prod.mk renaming injEq->yd
open List.cons renaming injEq->yF
open Go.World renaming putObj_heap_other->yP
open List.Nodup renaming length_le_of_subset->yQ
open Classical renaming byContradiction->y7
namespace Go.Ev
open Go Go.RowKit
theorem Uv{P:Program}{G:Gh}{mu:Mu}{w:World}(s:Sim G mu w.heap){x:AV}{v:Value}{ys:List (List AV)}{sz:Nat}(r:VRel G w.heap x v)(h:qZ mu x=some ys)(hz:qK sz ys)(n:Nat)(hn:n<=ys.length) :
  ∃(news:List Value),news.length=n*sz/\(∀ u∈news,u.oneCell'=true)/\(∀(k:Nat) y,(ys.take n).flatten[k]?=some y->VRel G w.heap y (news.getD k undef)) /\
   (Builtin.lenOf v).run P w = .ok ys.length w/\(Builtin.firstCells sz n v).run P w = .ok news.toArray w:=by
 have hzt:qK sz (ys.take n):=fun r hr=>hz r (yb hr)
 have hflt:(ys.take n).flatten.length=n*sz:=by rw[zd hzt.ok];simp[Nat.min_eq_left hn]
 have hsub:∀(k:Nat) y,(ys.take n).flatten[k]?=some y->ys.flatten[k]?=some y:=by
  intro k y hk;have:ys.flatten=(ys.take n).flatten++(ys.drop n).flatten:=by rw[<-List.flatten_append,List.take_append_drop]
  rw[this,qh (qc.1 hk).1];exact hk
 have fin:∀(a:Addr) (cap:Nat) (rd:Nat->Value),(∀(k:Nat) y,ys.flatten[k]?=some y->w.cell? (a.add k)=some (rd k)/\VRel G w.heap y (rd k))->v = .slice (some a) ys.length cap ->
   ∃(news:List Value),news.length=n*sz/\(∀ u∈news,u.oneCell'=true)/\(∀(k:Nat) y,(ys.take n).flatten[k]?=some y->VRel G w.heap y (news.getD k undef)) /\
   (Builtin.lenOf v).run P w = .ok ys.length w/\(Builtin.firstCells sz n v).run P w = .ok news.toArray w:=by
  intro a cap rd hrd hv;subst hv;have hget:∀ k,k<n*sz->∃ y,(ys.take n).flatten[k]?=some y:=fun k hk=>⟨(ys.take n).flatten[k]'(by omega),by simp only[qs (show k<(ys.take n).flatten.length by omega)]⟩
  refine⟨(qg (n*sz)).map rd,by simp,?_,?_,by simp[Builtin.lenOf],?_⟩
  .intro u hu
   obtain⟨k,hk,rfl⟩:=qr.1 hu;obtain⟨y,hy⟩:=hget k (by simpa using hk);exact(hrd k y (hsub k y hy)).2.one (hzt.one y (qC hy))
  .intro k y hy
   have hk:k<n*sz:=by rw[<-hflt];exact(qc.1 hy).1
   have e:((qg (n*sz)).map rd).getD k undef=rd k:=by simp[qH,hk]
   rw[e];exact(hrd k y (hsub k y hy)).2
  .simp only[Builtin.firstCells]
   exact run_loadCells w a _ rd (fun j hj=>by obtain⟨y,hy⟩:=hget j hj;exact(hrd j y (hsub j y hy)).1)
 unfold qZ at h;split at h
 .rename_i full xs
  simp only[qb]at h;subst h;cases r with
  |nil =>
   simp only[List.length_nil,Nat.le_zero]at hn;subst hn;exact⟨[],by simp,by simp,by simp,by simp[Builtin.lenOf],by simp[Builtin.firstCells]⟩
  |emp _ a cap hc=>exact fin a cap (fun _=>undef) (by simp) rfl
  |lst _ _ sz' a cap cs e fr rd hb hs hl hc hi hz' hr hv =>
   exact fin a cap rd (fun k y hy=>⟨by rw[jD hb hs];exact hr k y hy,hv k y hy⟩) rfl
 .rename_i b sz' off len
  split at h
  .rename_i cells hc
   split at h
   .rename_i hle
    simp only[qb]at h;cases r with
    |sl _ _ _ _ blk tot cap hb ht hl =>
    obtain⟨arr,e,h1,h2,h3,h4⟩:=s.arr b cells blk tot hc hb;have hlen:ys.length=len:=by rw[<-h];simp
    subst hlen;by_cases h0:ys.length=0
    .have:ys=[]:=yn h0
     subst this;exact fin ⟨blk,off,none⟩ cap (fun _=>undef) (by simp) rfl
    .have hszz:sz'=sz:=by
      have h00:0<ys.length:=by omega
      have hm:(cells.drop (off+0*sz')).take sz'∈ys:=by
       rw[<-h];exact qr.2 ⟨0,by simpa using h00,rfl⟩
      have:=(hz _ hm).1;have hle':sz'<=ys.length*sz':=Nat.le_mul_of_pos_left _ h00;simp at this;omega
     subst hszz;have hfl:ys.flatten=(cells.drop off).take (ys.length*sz'):=by
      rw[<-h];have:=wQ sz' ys.length (cells.drop off) (by simp;omega);simp only[List.drop_drop]at this;simpa using this
     refine fin ⟨blk,off,none⟩ cap (fun k=>arr.getD (off+k) undef) (fun k y hy=>?_) rfl;rw[hfl,zu]at hy;split at hy
     .rw [zH]at hy
      refine⟨?_,(h4 _ y hy).2⟩;rw[jD (a:=⟨blk,off,none⟩) h1 rfl];have hlt:off+k<cells.length:=(qc.1 hy).1;have:off+k<arr.size:=by omega
      simp[qi,this]
     .exact absurd hy (by simp)
   .exact absurd h (by simp)
  .exact absurd h (by simp)
 .exact absurd h (by simp)
theorem Stp.cellsAt{G:Gh}{mu:Mu}{w:World}(s:Sim G mu w.heap){b off blk tot:Nat}{cells xs:List AV}{arr:Array Value}{e:TypeId}{news:List Value}(hc:mu[b]?=some (.arr cells))(hb:G.blk[b]?=some (blk,tot))
  (h1:w.heap[blk]?=some (.cells arr e (0,0))) (h2:arr.size=tot) (h3:cells.length<=tot) (h4:∀(j:Nat) x,cells[j]?=some x->x.one=true/\VRel G w.heap x (arr.getD j undef))
  (hoff:off+xs.length<=cells.length) (hn:news.length=xs.length) (hone:∀ x,x∈xs->x.one=true) (hx:∀(k:Nat) x,xs[k]?=some x->VRel G w.heap x (news.getD k undef)) :
  Stp G mu w G (mu.set b (.arr (zJ cells off xs))) (w.setRow blk (arr.toList.take off++news++arr.toList.drop (off+news.length)).toArray):=by
 refine Stp.write s b (.arr cells) _ blk tot (.cells (arr.toList.take off++news++arr.toList.drop (off+news.length)).toArray e (0,0)) hc (by simp) (by simp) hb (by simp) (setRow_heap w blk arr _ e _ h1)
  (fun k hk=>setRow_other w blk k _ hk) rfl rfl rfl ?_
 refine⟨_,e,rfl,by simp;omega,by rw[yS _ _ _ hoff];simp;omega,?_⟩;intro j y hj;rw[yS _ _ _ hoff,zW]at hj;rw[wO,qH,zW];have hal:(arr.toList.take off).length=off:=by simp;omega
 have hcl:(cells.take off).length=off:=by simp;omega
 by_cases hj1:j<off
 .rw [qh (by omega),zu,if_pos hj1]at hj
  rw[qh (by omega),zu,if_pos hj1,zI,<-qi];exact h4 j y hj
 .rw [qB (by omega),hcl]at hj
  rw[qB (by omega),hal];by_cases hj2:j-off<xs.length
  .rw [qh hj2]at hj
   rw[qh (by omega),<-qH];exact⟨hone y (qC hj),hx _ y hj⟩
  .rw [qB (by omega),zH]at hj
   rw[qB (by omega),zH,zI,<-qi];have e1:off+xs.length+(j-off-xs.length)=j:=by omega
   have e2:off+news.length+(j-off-news.length)=j:=by omega
   rw[e1]at hj;rw[e2];exact h4 j y hj
def delE(es:List (AV×AV)):Option Nat->List (AV×AV)
 |some i=>es.eraseIdx i
 |none=>es
inductive ExtB (P:Program) (mu:Mu):Builtin->Array TypeId->List AV->AV->Mu->Prop where
 |copy {t t' e:TypeId} {sz sz0 bt b off len:Nat} {cells:List AV} {ys:List (List AV)} {x:AV} (hs:qp P t=some (e,sz,bt)) (hc:mu[b]?=some (.arr cells)) (hl:off+len*sz<=cells.length)
   (hr:qZ mu x=some ys) (hw:qK sz ys) :
   ExtB P mu .copy #[t,t'] [.sl b sz0 off len,x] (.sc (.int .i64 ((min ys.length len:Nat):Int))) (mu.set b (.arr (zJ cells off (ys.take len).flatten)))
 |clear {t e:TypeId} {sz bt b off len:Nat} {cells:List AV} {zv:AV} (hs:qp P t=some (e,sz,bt)) (hz:qn P e=some zv) (hz1:zv.cells.length=sz) (hz2:zv.cells.all AV.one=true) (hz0:sz≠0) (hc:mu[b]?=some (.arr cells)) (hl:off+len*sz<=cells.length) (hp:0<len) :
   ExtB P mu .clear #[t] [.sl b sz off len] (.tup []) (mu.set b (.arr (zJ cells off ((qg (len*sz)).map fun i=>zv.cells.getD (i % sz) .any))))
 |delete {t t' kt et:TypeId} {b:Nat} {es:List (AV×AV)} {k:AV} {r:Option Nat} (ht:mapT P t=some (kt,et)) (hc:mu[b]?=some (.mp es)) (hk:zo P kt k=true) (hf:qA P kt k es 0=some r) :
   ExtB P mu .delete #[t,t'] [.mp b,k] (.tup []) (mu.set b (.md (delE es r)))
theorem Uw{P:Program}{G:Gh}{mu mu':Mu}{w:World}(s:Sim G mu w.heap){b:Builtin}{ats:Array TypeId}{ty:TypeId}{cs:Array Bool}{args:List AV}{vs:Array Value}{z:AV}
  (hn:vs.size=args.length) (hr:∀(k:Nat) x,args[k]?=some x->VRel G w.heap x (vs.getD k undef)) (h:ExtB P mu b ats args z mu') :
  ∃ u w',(builtin b ats ty cs vs).run P w = .ok (.value u) w'/\Stp G mu w G mu' w'/\VRel G w'.heap z u:=by
 cases h with
 | @copy t t' e sz sz0 bt b off len cells ys x hs hc hl hrw hw =>
  have r0:=hr 0 _ rfl;have r1:=hr 1 _ rfl;have hvs:vs=#[vs.getD 0 undef,vs.getD 1 undef]:=by
   have h2:vs.size=2:=by simpa using hn
   apply Array.ext
   .simpa using h2
   .intro i hi hi'
    have:i=0\/i=1:=by omega
    rcases this with rfl|rfl<;>simp[qi,hi]
  generalize vs.getD 0 undef=u0 at *
  generalize vs.getD 1 undef=u1 at *
  subst hvs;obtain⟨inf,hu,hinf,hsz,hbt⟩:=yq hs;have hso:szOf P e=some sz:=by simp[szOf,hinf,hsz]
  obtain⟨news,hnl,hno,hnv,hlen,hfst⟩:=Uv (P:=P) s r1 hrw hw (min ys.length len) (Nat.min_le_left _ _);have htake:ys.take (min ys.length len)=ys.take len:=by
   rcases Nat.le_total ys.length len with h|h
   .rw [Nat.min_eq_left h,zA (qu _),zA h]
   .rw [Nat.min_eq_right h]
  rw[htake]at hnv;have hwt:qK sz (ys.take len):=fun r hr=>hw r (yb hr)
  have hflt:(ys.take len).flatten.length=min ys.length len*sz:=by
   rw[zd hwt.ok,List.length_take,Nat.min_comm]
  cases r0 with
  |sl _ _ _ _ blk tot cap hb ht hlc =>
   obtain⟨arr,el,h1,h2,h3,h4⟩:=s.arr b cells blk tot hc hb;have hle:min ys.length len*sz<=len*sz:=Nat.mul_le_mul_right _ (Nat.min_le_right _ _);have st:=Stp.cellsAt s (off:=off) (xs:=(ys.take len).flatten) (news:=news) hc hb h1 h2 h3 h4 (by omega) (by omega) hwt.one hnv;have hrun:=run_storeCells_at P blk off el news 0 arr w h1 (by omega) hno;simp only[Nat.add_zero]at hrun;refine⟨_,_,?_,st,.sc _ rfl⟩;have hmin:Nat.min ys.length len=min ys.length len:=rfl;simp only[builtin,Builtin.copy_,ql,run_underlying hu,qm,hlen,zl hso,hmin,hfst,qG,goInt];simp only[yE,uo,y6];simp[run_underlying hu,hlen,zl hso,hmin,hfst,hrun,goInt]
 | @clear t e sz bt b off len cells zv hs hz hz1 hz2 hz0 hc hl hp =>
  have r0:=hr 0 _ rfl;have hvs:vs=#[vs.getD 0 undef]:=by
   have h2:vs.size=1:=by simpa using hn
   apply Array.ext
   .simpa using h2
   .intro i hi hi'
    have:i=0:=by omega
    subst this;simp[qi,hi]
  generalize vs.getD 0 undef=u0 at *
  subst hvs;obtain⟨inf,hu,hinf,hsz,hbt⟩:=yq hs;obtain⟨z,hzr,rfl⟩:=jC hz w;have hz2':∀ c,c∈(ofV z).cells->c.one=true:=fun c hc=>by simpa using qt.1 hz2 c hc
  obtain⟨c1,c2,c3⟩:=(VRel.ofV (G:=G) (h:=w.heap) z).cells hz2';have hzs:z.cells.size=sz:=by rw[c1,hz1]
  have hnl:(za z.cells len).toList.length=len*sz:=by simp[za,hzs]
  have hmod:∀ i:Nat,i % sz<sz:=fun i=>Nat.mod_lt i (by omega)
  have hget:∀ i,i<len*sz->(za z.cells len).toList.getD i undef=z.cells.getD (i % sz) undef:=by
   intro i hi;have h1:i % sz<z.cells.size:=by rw[hzs];exact hmod i
   simp[za,hzs,qH,hi,qi];rw[getElem!_pos z.cells (i % sz) h1,uu h1];rfl
  cases r0 with
  |sl _ _ _ _ blk tot cap hb ht hlc =>
   obtain⟨arr,el,h1,h2,h3,h4⟩:=s.arr b cells blk tot hc hb;have hno:∀ v,v∈(za z.cells len).toList->v.oneCell'=true:=by
    intro v hv;obtain⟨i,hi⟩:=List.mem_iff_getElem?.1 hv;have hil:i<len*sz:=by rw[<-hnl];exact(qc.1 hi).1
    have:=hget i hil;rw[qH,hi]at this;simp only[Option.getD_some]at this;rw[this];have h1:i % sz<z.cells.size:=by rw[hzs];exact hmod i
    rw[qi,uu h1];exact c3 _ (by simp)
   have hxx:∀(k:Nat) x,((qg (len*sz)).map fun i=>(ofV z).cells.getD (i % sz) .any)[k]?=some x->k<len*sz/\(ofV z).cells[k % sz]?=some x:=by
    intro k x hx;have hk:k<len*sz:=by have:=(qc.1 hx).1;simpa using this
    refine⟨hk,?_⟩;have h1:k % sz<(ofV z).cells.length:=by rw[hz1];exact hmod k
    rw[qW,List.getElem?_range hk]at hx;simp only[qw,qb,qH,qs h1,Option.getD_some]at hx;rw[qs h1,hx]
   have st:=Stp.cellsAt s (off:=off) (xs:=(qg (len*sz)).map fun i=>(ofV z).cells.getD (i % sz) .any) (news:=(za z.cells len).toList) hc hb h1 h2 h3 h4 (by simpa using hl) (by rw[hnl];simp)
    (fun x hx=>by
     obtain⟨k,hk⟩:=List.mem_iff_getElem?.1 hx;exact hz2' x (qC (hxx k x hk).2))
    (fun k x hx=>by
     obtain⟨g1,g2⟩:=hxx k x hx;rw[hget k g1];exact c2 _ x g2)
   have hrun:=run_storeCells_at P blk off el (za z.cells len).toList 0 arr w h1 (by omega) hno;simp only[Nat.add_zero]at hrun;refine⟨_,_,?_,st,.tup [] #[] rfl (by simp)⟩;obtain⟨l,rfl⟩:∃ l,len=l+1:=⟨len-1,by omega⟩;simp only[builtin,Builtin.clear_,ql,yE,uo];simp[run_underlying hu,hzr,hrun]
 | @delete t t' kt et b es k r ht hc hko hf =>
  have r0:=hr 0 _ rfl;have r1:=hr 1 _ rfl;have hvs:vs=#[vs.getD 0 undef,vs.getD 1 undef]:=by
   have h2:vs.size=2:=by simpa using hn
   apply Array.ext
   .simpa using h2
   .intro i hi hi'
    have:i=0\/i=1:=by omega
    rcases this with rfl|rfl<;>simp[qi,hi]
  generalize vs.getD 0 undef=u0 at *
  generalize vs.getD 1 undef=u1 at *
  subst hvs;have hu:=jF ht;obtain⟨mb,tot,ce,rfl,hb,hh,hre,hborn⟩:=uD s r0 hc;have hck:(Instr.checkKey ce.isEmpty 10000 kt u1).run P w = .ok () w:=vR _ r1 hko;have hg:=yT (P:=P) hh;obtain⟨hfk,hlt⟩:=jm r1 hko hre hf;have hbo:zO ce ce.size := .of rfl hborn;cases r with
  |none =>
   refine⟨_,_,?_,Stp.putMapD s hc (by simp) hb hh hre hbo,.tup [] #[] rfl (by simp)⟩;simp only[Option.map_none]at hfk;simp[builtin,Builtin.delete_,run_underlying hu,hg,hck,hfk,ja hh]
  |some i =>
   refine⟨_,_,?_,Stp.putMapD s hc (by simp) hb hh (Uo hre (hlt i rfl)) (Un hbo i),.tup [] #[] rfl (by simp)⟩;simp only[qw]at hfk;simp[builtin,Builtin.delete_,run_underlying hu,hg,hck,hfk,ja hh]
end Go.Ev
namespace Go.Ev
open Go Go.RowKit
theorem Yc{P:Program}{kt:TypeId}{k:AV}{x:AV×AV}:∀{es:List (AV×AV)} {i:Nat} {r:Option Nat},qA P kt k es i=some r->(r.isSome=true->qA P kt k (es++[x]) i=some r)/\(r=none->qA P kt k (es++[x]) i=qA P kt k [x] (i+es.length))
 | [],i,r,h=>by
  simp[qA]at h;subst h;exact⟨fun h=>by simp at h,fun _=>by simp⟩
 |e :: es,i,r,h=>by
  unfold qA at h;split at h
  .rename_i hk
   simp only[qb]at h;subst h;refine⟨fun _=>?_,fun h=>absurd h (by simp)⟩;rw[z9,qA,hk]
  .rename_i hk
   obtain⟨h1,h2⟩:=Yc (x:=x) h;refine⟨fun hr=>?_,fun hr=>?_⟩
   .rw [z9,qA,hk];exact h1 hr
   .rw [z9,qA,hk]
    simp only;rw[h2 hr,List.length_cons];congr 1;omega
  .exact absurd h (by simp)
theorem Yd{P:Program}{mu mu':Mu}{t:TypeId}{m k z m' k' v:AV}(h:jG P mu t m k=some (z,mu'))(hl:zC P mu t m' k' false=some v):zC P mu' t m' k' false=some v:=by
 unfold jG at h;split at h
 .rename_i b kt et ht
  split at h
  .rename_i es hm
   split at h
   .rename_i hko
    split at h
    ·
     rename_i i hf;obtain⟨_,e,he,hke⟩:=vT hf;simp only[Nat.sub_zero]at he;simp only[he,qw,qb,yd]at h;have e1:es.set i (k,e.2)=es:=by
      rw[hke];apply ya;intro j;rw[wF];split
      .rename_i hij;subst hij
       split
       .exact he.symm
       .rw [ym (by omega)]
      .rfl
     rw[e1]at h;have e2:mu.set b (.mp es)=mu:=by
      apply ya;intro j;rw[wF];split
      .rename_i hij;subst hij
       split
       .exact hm.symm
       .rw [ym (by omega)]
      .rfl
     rw[<-h.2,e2];exact hl
    .rename_i hf
     cases hz:qn P et with
     |none=>simp[hz]at h
     |some zv =>
      simp only[hz,qw,qb,yd]at h;obtain⟨_,rfl⟩:=h;have hbl:b<mu.length:=(qc.1 hm).1;unfold zC at hl⊢;rw[ht]at hl⊢
      have key:yr (mu.set b (.mp (es++[(k,zv)]))) m'=yr mu m'\/(yr mu m'=some es/\yr (mu.set b (.mp (es++[(k,zv)]))) m'=some (es++[(k,zv)])):=by
       unfold yr;split
       .exact .inl rfl
       .rename_i b'
        by_cases hbb:b=b'
        .subst hbb
         rw[hm,zi hbl];exact .inr ⟨rfl,rfl⟩
        .rw [q9 hbb];exact .inl rfl
       .exact .inl rfl
       .exact .inl rfl
      rcases key with key|⟨k1,k2⟩
      .rw [key];exact hl
      .rw [k1]at hl
       rw[k2];simp only at hl⊢;split at hl
       .rename_i hko'
        rw[if_pos hko'];cases hfq:qA P kt k' es 0 with
        |none=>rw[hfq]at hl;simp at hl
        |some r =>
         rw[hfq]at hl;obtain⟨a1,a2⟩:=Yc (x:=(k,zv)) hfq;cases r with
         |some i =>
          rw[a1 rfl];simp only at hl⊢;cases hei:es[i]? with
          |none=>rw[hei]at hl;simp at hl
          |some e =>
           rw[hei]at hl;rw[qh (qc.1 hei).1,hei];exact hl
         |none =>
          rw[a2 rfl];simp only[hz,qw]at hl;obtain⟨bb,hbb⟩:=Z5 hko' hko;rw[qA,hbb];cases bb with
          |true =>
           simp only[Nat.zero_add];rw[qB (qu _),Nat.sub_self];simpa using hl
          |false =>
           simp only[qA,hz,qw];exact hl
       .exact absurd hl (by simp)
    .exact absurd h (by simp)
   .exact absurd h (by simp)
  .exact absurd h (by simp)
 .exact absurd h (by simp)
theorem Ux{P:Program}{mu mu':Mu}{t:TypeId}{m k z m' k' v:AV}(h:jG P mu t m k=some (z,mu'))(hl:zY P mu t m' k' false=some v):zY P mu' t m' k' false=some v:=by
 cases m' with
 |ims es =>
  simp only[zY]at hl⊢;cases ht:mapT P t with
  |none=>rw[ht]at hl;exact absurd hl (by simp)
  |some q =>
   rw[ht]at hl;simp only at hl⊢;split at hl
   .rename_i ho
    rw[if_pos ho];exact Yd h hl
   .exact absurd hl (by simp)
 |_=>exact Yd h hl
end Go.Ev
namespace Go.Ev
open Go Go.RowKit
@[go_sem] def jn(P:Program)(op:BinOp)(t:TypeId)(x y:AV):Option AV:=
 match x,y with
 | .agg xs,.agg ys=>match wK P t with
  |some n=>if xs.length=n then (match op with
   | .eql=>(aEqs xs ys).map fun b => .sc (.bool b)
   | .neq=>(aEqs xs ys).map fun b => .sc (.bool !b)
   |_=>none) else none
  |none=>none
 |x,y=>aBin P op t x y
theorem Uy{P:Program}{t:TypeId}{n:Nat}(h:wK P t=some n):P.eqGuardType P.depth t=false/\((∃ e q,P.underlying t=some (.array n e)/\P.underlying e=some (.int q)/\szOf P e=some 1) \/
  ∃ fs,P.underlying t=some (.struct fs)/\j0 P fs.toList 0=true/\P.stoodInHeld t=false/\fs.size=n):=by
 unfold wK at h;split at h
 .rename_i fs hu
  split at h
  .rename_i hf
   simp only[qb]at h;subst h;exact⟨hf.2.2,.inr ⟨fs,hu,hf.1,hf.2.1,rfl⟩⟩
  .exact absurd h (by simp)
 .rename_i n' e hu
  split at h
  .rename_i q he hs
   split at h
   .rename_i hg
    simp only[qb]at h;subst h;exact⟨hg,.inl ⟨e,q,hu,he,hs⟩⟩
   .exact absurd h (by simp)
  .exact absurd h (by simp)
 .exact absurd h (by simp)
theorem Uz{P:Program}{op:BinOp}{t:TypeId}{x y z:AV}{ox oy:Operand}{G:Gh}{w:World}{u v:Value}(rx:VRel G w.heap x u)(ry:VRel G w.heap y v)(h:jn P op t x y=some z) :
    ∃ r,(do eqGuard op t ox oy u v;binOp op t u v:Sem Value).run P w = .ok r w/\VRel G w.heap z r:=by
  unfold jn at h;split at h
  · rename_i xs ys
    split at h
    · rename_i n hi
      obtain⟨hg,hi⟩:=Uy hi;split at h
      · rename_i hl
        have rx':=rx;have ry':=ry;cases rx with
        |agg _ vs hn hv =>
        cases ry with
        |agg _ ws hm hw =>
        have hgd:(eqGuard op t ox oy (.agg vs) (.agg ws)).run P w = .ok () w:=run_eqGuard_agg w op t ox oy vs ws hg;simp only[ql,hgd,qm];have heq:∀ b,aEqs xs ys=some b->(Op.equal t (.agg vs) (.agg ws)).run P w = .ok b w:=fun b hb=>by
          rcases hi with ⟨e,q,hu,he,hs⟩|⟨fs,hu,hf,hp,hfs⟩
          · exact Z0 (G:=G) 9998 hu he hs hl rx' ry' hb
          · exact V8 (G:=G) 9998 hu hf hp (by omega) rx' ry' hb
        cases op<;>simp only at h<;>first
          | (simp at h;done)
          | (cases hb:aEqs xs ys with
             |none=>simp[hb]at h
             |some b =>
               simp only[hb,qw,qb]at h;subst h;refine⟨_,?_,.sc _ rfl⟩;simp[binOp,heq b hb];done)
      · exact absurd h (by simp)
    · exact absurd h (by simp)
  · exact VN rx ry h
def jo:Operand->Bool
 | .const (.slice none 0 0)=>true
 |_=>false
def yf(P:Program)(det:Bool)(op:BinOp)(t:TypeId)(x:AV)(K:AV->Prop):Prop:=
 (qp P t).isSome=true/\(op = .eql\/op = .neq) /\
 match x with
 | .lst _ []=>det=false/\K (.sc (.bool true))/\K (.sc (.bool false))
 | .lst _ (_ :: _) | .sl .. => K (.sc (.bool (decide (op = .neq))))
 |_=>False
theorem UA{P:Program}{w:World}(d:Nat){t e:TypeId}(hu:P.underlying t=some (.slice e))(b:Option Addr)(len cap:Nat) :
  (Op.equalIn (d+1) t (.slice b len cap) (.slice none 0 0)).run P w = .ok b.isNone w:=by
 cases b<;>simp[Op.equalIn,run_underlying hu]
theorem yf.sound{P:Program}{det:Bool}{op:BinOp}{t:TypeId}{x:AV}{ox oy:Operand}{G:Gh}{w:World}{u:Value}{K:AV->Prop}(rx:VRel G w.heap x u)(h:yf P det op t x K) :
  ∃ z r,K z/\(do eqGuard op t ox oy u (.slice none 0 0);binOp op t u (.slice none 0 0):Sem Value).run P w = .ok r w/\VRel G w.heap z r:=by
 obtain⟨hs,ho,h⟩:=h;obtain⟨e,hu⟩:∃ e,P.underlying t=some (.slice e):=by
  cases hq:qp P t with
  |none=>simp[hq]at hs
  |some q=>obtain⟨e',sz',bt'⟩:=q;obtain⟨i',h1,_⟩:=yq hq;exact⟨e',h1⟩
 have key:∀(b:Option Addr) (len cap:Nat),u = .slice b len cap->(do eqGuard op t ox oy u (.slice none 0 0);binOp op t u (.slice none 0 0):Sem Value).run P w = .ok (.bool (if op = .neq then b.isSome else b.isNone)) w:=by
  intro b len cap e1;subst e1;have hg:(eqGuard op t ox oy (.slice b len cap) (.slice none 0 0)).run P w = .ok () w:=by
   unfold eqGuard;cases op<;>rfl
  have he:(Op.equal t (.slice b len cap) (.slice none 0 0)).run P w = .ok b.isNone w:=UA 9999 hu b len cap;rcases ho with rfl|rfl
  .simp [hg,binOp,he]
  .cases b<;>simp[hg,binOp,he]
 have fin:∀(b:Bool),K (.sc (.bool b))->∀(c:Option Addr) (len cap:Nat),u = .slice c len cap->(if op = .neq then c.isSome else c.isNone)=b ->
   ∃ z r,K z/\(do eqGuard op t ox oy u (.slice none 0 0);binOp op t u (.slice none 0 0):Sem Value).run P w = .ok r w/\VRel G w.heap z r:=
  fun b hk c len cap e1 e2=>⟨_,_,hk,key c len cap e1,by rw[e2];exact .sc _ rfl⟩
 cases rx with
 |nil full =>
  obtain⟨_,h1,h2⟩:=h;by_cases hn:op = .neq
  .exact fin false h2 none 0 0 rfl (by rw[if_pos hn];rfl)
  .exact fin true h1 none 0 0 rfl (by rw[if_neg hn];rfl)
 |emp full a cap hc =>
  obtain⟨_,h1,h2⟩:=h;by_cases hn:op = .neq
  .exact fin true h1 (some a) 0 cap rfl (by rw[if_pos hn];rfl)
  .exact fin false h2 (some a) 0 cap rfl (by rw[if_neg hn];rfl)
 |lst full xs sz a cap cs e' fr rd hb hs' hl hc hi hz hr hv =>
  cases xs with
  |nil =>
   obtain⟨_,h1,h2⟩:=h;by_cases hn:op = .neq
   .exact fin true h1 (some a) _ cap rfl (by rw[if_pos hn];rfl)
   .exact fin false h2 (some a) _ cap rfl (by rw[if_neg hn];rfl)
  |cons y ys =>
   refine fin _ h (some a) _ cap rfl ?_;by_cases hn:op = .neq
   .rw [if_pos hn];simp[hn]
   .rw [if_neg hn];simp[hn]
 |sl b sz off len blk tot cap hb ht hl =>
  refine fin _ h (some _) _ cap rfl ?_;by_cases hn:op = .neq
  .rw [if_pos hn];simp[hn]
  .rw [if_neg hn];simp[hn]
 |_=>exact h.elim
theorem yf.det{P:Program}{op:BinOp}{t:TypeId}{x:AV}{K:AV->Prop}(h:yf P true op t x K):∃ z,K z/\∀ K':AV->Prop,K' z->yf P true op t x K':=by
 obtain⟨h0,h00,h⟩:=h;unfold yf;split at h
 .exact absurd h.1 (by simp)
 .exact ⟨_,h,fun K' hk=>⟨h0,h00,hk⟩⟩
 .exact ⟨_,h,fun K' hk=>⟨h0,h00,hk⟩⟩
 .exact h.elim
theorem yf.mono{P:Program}{det:Bool}{op:BinOp}{t:TypeId}{x:AV}{K K':AV->Prop}(h:yf P det op t x K)(hk:∀ z,K z->K' z):yf P det op t x K':=by
 obtain⟨h0,h00,h⟩:=h;unfold yf;refine⟨h0,h00,?_⟩;split at h
 .exact ⟨h.1,hk _ h.2.1,hk _ h.2.2⟩
 .exact hk _ h
 .exact hk _ h
 .exact h.elim
theorem UB{y:Operand}(h:jo y=true):y = .const (.slice none 0 0):=by
 unfold jo at h;split at h
 .rfl
 .exact absurd h (by simp)
def WK(x y:AV):Prop:=∀(G:Gh) (h:Array Obj) (v:Value),VRel G h x v->VRel ⟨G.imm,[]⟩ h y v
theorem WK.hf{x:AV}(h:HF x):WK x x:=h
theorem VRel.ro{G:Gh}{h:Array Obj}{full:Bool}{xs:List (List AV)}{v:Value}(r:VRel G h (.lst full xs) v):VRel G h (.lst false xs) v:=by
 cases r with
 |nil=>exact .nil _
 |emp _ a cap hc=>exact .emp _ a cap (by simp)
 |lst _ _ sz a cap cs e fr rd hb hs hl hc hi hz hr hv=>exact .lst _ _ sz a cap cs e fr rd hb hs hl (by simp) hi hz hr hv
theorem WK.lst{full:Bool}{xs:List (List AV)}(h:∀ r,r∈xs->∀ c,c∈r->HF c):WK (.lst full xs) (.lst false xs):=fun G hp v r=>VRel.ro (HF.lst h G hp v r)
theorem WK.agg{xs ys:List AV}(hn:ys.length=xs.length)(h:∀(k:Nat) x y,xs[k]?=some x->ys[k]?=some y->WK x y):WK (.agg xs) (.agg ys):=fun G hp v r=>by
 cases r with
 |agg _ vs hm hv =>
  refine .agg _ _ (by omega) (fun k y hy=>?_);have hk:k<ys.length:=(qc.1 hy).1;have hx:xs[k]?=some (xs[k]'(by omega)):=by simp[show k<xs.length by omega]
  exact h k _ y hx hy G hp _ (hv k _ hx)
def WKs:List AV->List AV->Prop
 | [],[]=>True
 |x :: xs,y :: ys=>WK x y/\WKs xs ys
 |_,_=>False
theorem WKs.get:∀{xs ys:List AV},WKs xs ys->ys.length=xs.length/\∀(k:Nat) x y,xs[k]?=some x->ys[k]?=some y->WK x y
 | [],[],_=>⟨rfl,by simp⟩
 |x :: xs,y :: ys,⟨h,t⟩=>by
  obtain⟨h1,h2⟩:=WKs.get t;refine⟨by simp[h1],fun k a b ha hb=>?_⟩;cases k with
  |zero=>simp at ha hb;subst ha;subst hb;exact h
  |succ k=>exact h2 k a b (by simpa using ha) (by simpa using hb)
 | [],_ :: _,h=>h.elim
 |_ :: _,[],h=>h.elim
theorem WK.aggs{xs ys:List AV}(h:WKs xs ys):WK (.agg xs) (.agg ys) := .agg h.get.1 h.get.2
def Rds(mu:Mu):List AV->List AV->Prop
 | [],[]=>True
 |x :: xs,y :: ys=>Rd mu x y/\Rds mu xs ys
 |_,_=>False
theorem Rds.get{mu:Mu}:∀{xs ys:List AV},Rds mu xs ys->ys.length=xs.length/\∀(k:Nat) x y,xs[k]?=some x->ys[k]?=some y->Rd mu x y
 | [],[],_=>⟨rfl,by simp⟩
 |x :: xs,y :: ys,⟨h,t⟩=>by
  obtain⟨h1,h2⟩:=Rds.get t;refine⟨by simp[h1],fun k a b ha hb=>?_⟩;cases k with
  |zero=>simp at ha hb;subst ha;subst hb;exact h
  |succ k=>exact h2 k a b (by simpa using ha) (by simpa using hb)
 | [],_ :: _,h=>h.elim
 |_ :: _,[],h=>h.elim
def MuLe(mu mu':Mu):Prop:=∀(b:Nat) c,mu[b]?=some c->mu'[b]?=some c
theorem MuLe.push(mu:Mu)(c:Cell):MuLe mu (mu++[c]):=fun b x h=>by rw[qh (qc.1 h).1];exact h
theorem MuLe.refl(mu:Mu):MuLe mu mu:=fun _ _ h=>h
theorem MuLe.trans{a b c:Mu}(h1:MuLe a b)(h2:MuLe b c):MuLe a c:=fun i x h=>h2 i x (h1 i x h)
def vU(P:Program)(mu:Mu)(f:AV)(args:List AV)(v:AV):Prop:=
 (∃ g first caps args',f = .fn (.func g) first caps/\qf P g args' v/\(WKs (first++args++caps) args'\/(Rds mu (first++args++caps) args'/\FL v))) \/
 ∃ g first caps args',f = .fn (.func g) first caps/\wR P g args' v/\Rds mu (first++args++caps) args'
def yH(P:Program)(i:Nat)(args:List AV)(mu:Mu)(R:Bool->Mu->Prop):Prop:=
 ∀(G:Gh) (w:World) (vs:Array Value),Sim G mu w.heap->qM G w.heap args vs->∀(l tot:Nat),G.blk[i]?=some (l,tot) ->
  ∃ fn tmps assign body,(Instr.yield l vs).run P w = .ok (.round l fn tmps assign body) w /\
   RoundIn Fence.wide 0 P l fn tmps assign body w fun e w'=>∃ b G' mu',e = .returned (.bool b)/\Stp G mu w G' mu' w'/\R b mu'
def qd(P:Program)(det:Bool)(mu:Mu)(f:AV)(args:List AV)(K Kp:AV->Mu->Prop):Prop:=
 (∃ v,vU P mu f args v/\K v mu) \/
 (det=false/\((∃ g first caps R,f = .fn (.func g) first caps/\qE P g (first++args++caps) mu R/\(∀ r mu',R (.ret r) mu'->K r mu')/\(∀ r mu',R (.pan r) mu'->Kp r mu')) \/
  ∃ i R,f = .yl i/\yH P i args mu R/\∀ b mu',R b mu'->K (.sc (.bool b)) mu'))
def OptK{α:Type}(o:Option α)(k:α->Prop):Prop:=∃ v,o=some v/\k v
@[go_sem] def lenA(P:Program)(mu:Mu)(t:TypeId):AV->Option AV
 | .lst _ xs=>if (qp P t).isSome then some (.sc (.int .i64 xs.length)) else none
 | .sl _ _ _ len=>if (qp P t).isSome then some (.sc (.int .i64 len)) else none
 | .sc (.string s)=>match P.underlying t with|some .string=>some (.sc (.int .i64 s.size))|_=>none
 | .im es=>match P.underlying t with|some (.map _ _)=>some (.sc (.int .i64 es.length))|_=>none
 | .ims es=>match P.underlying t with|some (.map _ _)=>some (.sc (.int .i64 es.length))|_=>none
 | .mp b=>match P.underlying t,mu[b]? with|some (.map _ _),some (.mp es)=>some (.sc (.int .i64 es.length))|_,_=>none
 |_=>none
@[go_sem] def minA:AV->AV->Option AV
 | .sc (.int k x),.sc (.int _ y)=>some (.sc (.int k (if y<x then y else x)))
 |_,_=>none
@[go_sem] def maxA:AV->AV->Option AV
 | .sc (.int k x),.sc (.int _ y)=>some (.sc (.int k (if y > x then y else x)))
 |_,_=>none
@[go_sem] def yU(P:Program)(mu:Mu)(b:Builtin)(argTypes:Array TypeId)(args:List AV):Option AV:=
 match b,args,argTypes[0]? with
 | .len,[x],some t=>lenA P mu t x
 | .cap,[.lst true xs],some t=>if (qp P t).isSome then some (.sc (.int .i64 xs.length)) else none
 | .min,[x,y],_=>minA x y
 | .max,[x,y],_=>maxA x y
 |_,_,_=>none
theorem w8{P:Program}{t:TypeId}(h:(qp P t).isSome=true):∃ e,P.underlying t=some (.slice e):=by
 cases hq:qp P t with
 |none=>simp[hq]at h
 |some q=>obtain⟨e',sz',bt'⟩:=q;obtain⟨i',h1,_⟩:=yq hq;exact⟨e',h1⟩
theorem qM.one_inv{G:Gh}{h:Array Obj}{x:AV}{vs:Array Value}(r:qM G h [x] vs):∃ v,vs=#[v]/\VRel G h x v:=by
 obtain⟨h1,h2⟩:=r;have:=h2 0 x rfl;refine⟨vs.getD 0 undef,?_,this⟩;have h1':vs.size=1:=by simpa using h1
 apply Array.ext
 .simpa using h1'
 .intro i hi hi'
  have:i=0:=by omega
  subst this;simp[qi,hi]
theorem qM.two_inv{G:Gh}{h:Array Obj}{x y:AV}{vs:Array Value}(r:qM G h [x,y] vs):∃ u v,vs=#[u,v]/\VRel G h x u/\VRel G h y v:=by
 obtain⟨h1,h2⟩:=r;have a:=h2 0 x rfl;have b:=h2 1 y rfl;refine⟨vs.getD 0 undef,vs.getD 1 undef,?_,a,b⟩;have h1':vs.size=2:=by simpa using h1
 apply Array.ext
 .simpa using h1'
 .intro i hi hi'
  have:i=0\/i=1:=by omega
  rcases this with rfl|rfl<;>simp[qi,hi]
theorem UC{P:Program}{G:Gh}{mu:Mu}{w:World}(s:Sim G mu w.heap){t ty:TypeId}{x z:AV}{v:Value}(r:VRel G w.heap x v)(h:lenA P mu t x=some z)(ats:Array TypeId)(ha:ats[0]?=some t) :
  ∃ u,(Builtin.len_ ats ty #[v]).run P w = .ok u w/\VRel G w.heap z u:=by
 unfold lenA at h;split at h
 .split at h
  .rename_i hs
   simp only[qb]at h;subst h;obtain⟨e,hu⟩:=w8 hs;obtain⟨a,cap,rfl,_⟩:=r.lst_inv;exact⟨_,by simp[Builtin.len_,ha,run_underlying hu,goInt],.sc _ rfl⟩
  .exact absurd h (by simp)
 .split at h
  .rename_i hs
   simp only[qb]at h;subst h;obtain⟨e,hu⟩:=w8 hs;cases r;exact⟨_,by simp[Builtin.len_,ha,run_underlying hu,goInt],.sc _ rfl⟩
  .exact absurd h (by simp)
 .split at h
  .rename_i hu
   simp only[qb]at h;subst h;cases r;exact⟨_,by simp[Builtin.len_,ha,run_underlying hu,goInt],.sc _ rfl⟩
  .exact absurd h (by simp)
 .split at h
  .rename_i hu
   simp only[qb]at h;subst h;cases r with
   |im _ blk ce clock hb hi hn hk hv hd =>
   have hg:(getObj blk).run P w = .ok (.map ce clock) w:=by simp[getObj,Sem.run,hb]
   exact⟨_,by simp[Builtin.len_,ha,run_underlying hu,goInt,hg,hn],.sc _ rfl⟩
  .exact absurd h (by simp)
 .split at h
  .rename_i hu
   simp only[qb]at h;subst h;cases r with
   |ims _ es' σ τ _ hp hd r =>
   cases r with
   |im _ blk ce clock hb hi hn hk hv hd' =>
   have hg:(getObj blk).run P w = .ok (.map ce clock) w:=by simp[getObj,Sem.run,hb]
   exact⟨_,by simp[Builtin.len_,ha,run_underlying hu,goInt,hg,hn,hp.1],.sc _ rfl⟩
  .exact absurd h (by simp)
 .split at h
  .rename_i es hu hm
   simp only[qb]at h;subst h;cases r with
   |mp _ blk tot hb =>
   obtain⟨ce,cl,h1,h2,_⟩:=s.mp _ es blk tot hm hb;have hg:(getObj blk).run P w = .ok (.map ce cl) w:=by simp[getObj,Sem.run,h1]
   exact⟨_,by simp[Builtin.len_,ha,run_underlying hu,goInt,hg,h2],.sc _ rfl⟩
  .exact absurd h (by simp)
 .exact absurd h (by simp)
theorem UD{P:Program}{G:Gh}{mu:Mu}{w:World}(s:Sim G mu w.heap){b:Builtin}{ats:Array TypeId}{ty:TypeId}{cs:Array Bool}{args:List AV}{vs:Array Value}{z:AV}(r:qM G w.heap args vs)
  (h:yU P mu b ats args=some z):∃ u,(builtin b ats ty cs vs).run P w = .ok (.value u) w/\VRel G w.heap z u:=by
 unfold yU at h;split at h
 .rename_i ha
  obtain⟨v,rfl,rv⟩:=r.one_inv;obtain⟨u,h1,h2⟩:=UC s rv h ats ha (ty:=ty);exact⟨u,by simp[builtin,h1],h2⟩
 .rename_i ha
  obtain⟨v,rfl,rv⟩:=r.one_inv;split at h
  .rename_i hs
   simp only[qb]at h;subst h;obtain⟨e,hu⟩:=w8 hs;obtain⟨a,cap,rfl,_,hc,_⟩:=rv.lst_inv;have:=hc rfl;subst this;exact⟨_,by simp[builtin,Builtin.cap_,ha,run_underlying hu,goInt],.sc _ rfl⟩
  .exact absurd h (by simp)
 .obtain ⟨u,v,rfl,ru,rv⟩:=r.two_inv
  unfold minA at h;split at h
  .simp only[qb]at h;subst h
   cases ru;cases rv;exact⟨_,by simp[builtin,Builtin.min_,Builtin.min2],.sc _ rfl⟩
  .exact absurd h (by simp)
 .obtain ⟨u,v,rfl,ru,rv⟩:=r.two_inv
  unfold maxA at h;split at h
  .simp only[qb]at h;subst h
   cases ru;cases rv;exact⟨_,by simp[builtin,Builtin.max_,Builtin.max2],.sc _ rfl⟩
  .exact absurd h (by simp)
 .exact absurd h (by simp)
end Go.Ev
namespace Go.Ev
open Go Go.RowKit
@[go_sem] def uG:AV->Option AV
 | .ip cs=>some (.ip cs)
 | .ptr b o=>some (.ptr b o)
 | .ifc t x=>some (.ifc t x)
 | .fn (.func f) a b=>some (.fn (.func f) a b)
 |_=>none
@[go_sem] def uH(i:Nat):AV->Option AV
 | .tup cs=>cs[i]?
 |_=>none
def vV(P:Program)(t:TypeId):Bool:=match P.underlying t with|some (.interface _)=>false|some _=>true|none=>false
@[go_sem] def uI(P:Program)(t:TypeId)(ok:Bool)(x:AV):Option AV:=
 if vV P t=true then
  match x with
  | .ifc u v=>if u=t then some (if ok then .tup [v,.sc (.bool true)] else v) else if ok then (qn P t).map fun z => .tup [z,.sc (.bool false)] else none
  | .sc .nilIface=>if ok then (qn P t).map fun z => .tup [z,.sc (.bool false)] else none
  |_=>none
 else none
@[go_sem] def w9(P:Program)(t:TypeId)(x:AV):Prop:=
 match x with
 | .lst _ xs=>∃ e sz bt,qp P t=some (e,sz,bt)/\zm sz xs
 |_=>True
def jb(P:Program)(t:TypeId):Bool:=match qn P t with|some z=>z.cells.all AV.one|none=>false
def evs(ev:Operand->AV)(l:List Operand):List AV:=l.map ev
def jI(P:Program)(mu:Mu)(b:Builtin)(ats:Array TypeId)(args:List AV)(K:AV->Mu->Prop):Prop:=∃ z m,ExtB P mu b ats args z m/\K z m
def qk(P:Program)(pl:Pol)(det:Bool)(dst:Option Tmp)(op:Op)(ev:Operand->AV)(mu:Mu)(K Kp:AV->Mu->Prop):Prop:=
 match op with
 | .move x | .assign x=>K (ev x) mu
 | .pick c a b=>∃ t,ev c = .sc (.bool t)/\K (if t then ev a else ev b) mu
 | .alloc e=>OptK (qn P e) fun z=>z.cells.all AV.one=true/\K (.ptr mu.length 0) (mu++[.arr z.cells])
 | .box e x=>(ev x).cells.all AV.one=true/\(if (dst.any pl.mt.contains)=true then K (.ptr mu.length 0) (mu++[.arr (ev x).cells]) else K (.ip (ev x).cells) mu)
 | .build t ps=>jb P t=true/\OptK (vL P t (ps.toList.map fun p=>(p.1,ev p.2))) fun z=>K z mu
 | .buildSlice t n ps=>OptK (vN P t n (ps.toList.map fun p=>(p.1,ev p.2))) fun z=>K z mu
 | .load t a=>OptK (yR P mu t (ev a)) fun z=>K z mu
 | .store t a x=>OptK (vE P mu t (ev a) (ev x)) fun m=>K (.sc undef) m
 | .nilCheck x=>OptK (uG (ev x)) fun z=>K z mu
 | .binOp op t x y _=>if jo y=true then yf P det op t (ev x) (fun z=>K z mu) else OptK (jn P op t (ev x) (ev y)) fun z=>K z mu
 | .unOp op _ x=>OptK (aUn op (ev x)) fun z=>K z mu
 | .convert src dst x=>(P.underlying src).isSome=true/\OptK (vF P src dst (ev x)) fun z=>K z mu
 | .makeInterface t x=>vV P t=true/\K (.ifc t (ev x)) mu
 | .makeFunc f first caps=>K (.fn f (evs ev first.toList) (evs ev caps.toList)) mu
 | .makeSlice t l c=>OptK (j4 P mu t (ev l) (ev c)) fun z=>K z.1 z.2
 | .slice t x lo hi mx=>w9 P t (ev x)/\OptK (vJ P t (ev x) (lo.map ev) (hi.map ev) (mx.map ev)) fun z=>K z mu
 | .fieldAddr s x f=>OptK (vG P s f (ev x)) fun z=>K z mu
 | .field t x f=>OptK (vI P t f (ev x)) fun z=>K z mu
 | .indexAddr t x i=>OptK (vH P t (ev x) (ev i)) fun z=>K z mu
 | .index t x i=>OptK (uz P t (ev x) (ev i)) fun z=>K z mu
 | .extract t i=>OptK (uH i (ev t)) fun z=>K z mu
 | .typeAssert x _ t ok=>OptK (uI P t ok (ev x)) fun z=>K z mu
 | .makeMap _ r=>r=none/\K (.mp mu.length) (mu++[.mp []])
 | .lookup t m k ok=>OptK (zY P mu t (ev m) (ev k) ok) fun z=>K z mu
 | .mapUpdate t m k v=>OptK (j8 P mu t (ev m) (ev k) (ev v)) fun m=>K (.sc undef) m
 | .insert t m k v=>OptK (j8 P mu t (ev m) (ev k) (ev v)) fun m=>K (.sc undef) m
 | .mapEntry t m k=>OptK (jG P mu t (ev m) (ev k)) fun z=>K z.1 z.2
 | .entryStore _ m s v=>OptK (uE mu (ev m) (ev s) (ev v)) fun m=>K (.sc undef) m
 | .range t m=>OptK (uF P mu t (ev m)) fun z=>K z.1 z.2
 | .next i str=>det=false/\str=false/\w7 mu (ev i) K
 | .entry i=>OptK (jH mu (ev i)) fun z=>K z mu
 | .panic x=>det=false/\∃ t v,ev x = .ifc t v/\Kp (.ifc t v) mu
 | .call c=>match c.callee with
  | .value f=>qd P det mu (ev f) (evs ev c.args.toList) K Kp
  | .builtin b=>match b with
   | .append=>∃ s x,evs ev c.args.toList=[s,x]/\qD P mu c.argTypes s x K
   | .copy=>jI P mu .copy c.argTypes (evs ev c.args.toList) K
   | .delete=>jI P mu .delete c.argTypes (evs ev c.args.toList) K
   | .clear=>jI P mu .clear c.argTypes (evs ev c.args.toList) K
   |b=>OptK (yU P mu b c.argTypes (evs ev c.args.toList)) fun z=>K z mu
  | .invoke _ _=>False
 |_=>False
theorem UE{P:Program}{o:Oper}{a:Act}{next:Act->World->Prop}{Q:Exit->Act->World->Prop}{s:Sem Value}{u:Value}{w w':World}(hs:s.run P w = .ok u w')(hn:next (a.put o.dst u) w') :
  o.upon P a next Q ((do pure (Next.value (<-s)):Sem Next).run P w):=by
 simp only[ql,hs,qm,qG,Oper.upon];exact hn
theorem uJ{P:Program}{o:Oper}{a:Act}{next:Act->World->Prop}{Q:Exit->Act->World->Prop}{s:Sem Unit}{w w':World}(hs:s.run P w = .ok () w')(hn:next (a.put o.dst undef) w') :
  o.upon P a next Q ((do s;pure Next.skip:Sem Next).run P w):=by
 simp only[ql,hs,qm,qG,Oper.upon];exact hn
theorem jc{G:Gh}{h:Array Obj}{ev:Operand->AV}{ρ:Operand->Value}(hev:∀ x,VRel G h (ev x) (ρ x))(l:Array Operand):qM G h (evs ev l.toList) (l.map ρ):=by
 refine⟨by simp[evs],fun k x hx=>?_⟩;simp only[evs,qW,Option.map_eq_some_iff,zI]at hx;obtain⟨y,hy,rfl⟩:=hx;have:(l.map ρ).getD k undef=ρ y:=by simp[qi,hy]
 rw[this];exact hev y
theorem Ye{G:Gh}{h:Array Obj}{ev:Operand->AV}{ρ:Operand->Value}(hev:∀ x,VRel G h (ev x) (ρ x))(l:Array (Nat×Operand)) :
  vK G h (l.toList.map fun p=>(p.1,ev p.2)) ((l.map fun (x:Nat×Operand)=>(x.1,ρ x.2)).toList):=by
 rw[Array.toList_map];induction l.toList with
 |nil=>trivial
 |cons p ps ih=>exact⟨rfl,hev _,ih⟩
theorem qM.append3{G:Gh}{h:Array Obj}{xs ys zs:List AV}{a b c:Array Value}(r1:qM G h xs a)(r2:qM G h ys b)(r3:qM G h zs c):qM G h (xs++ys++zs) (a++b++c):=by
 obtain⟨l1,g1⟩:=r1;obtain⟨l2,g2⟩:=r2;obtain⟨l3,g3⟩:=r3;refine⟨by simp[l1,l2,l3],fun k x hx=>?_⟩;simp only[qi]at *
 by_cases h1:k<xs.length
 .rw [zW,qh h1]at hx
  rw[Array.append_assoc,Array.getElem?_append_left (by omega)];exact g1 k x hx
 .by_cases h2:k<xs.length+ys.length
  .rw [qh (by simp;omega),qB (by omega)]at hx
   rw[Array.getElem?_append_left (by simp;omega),Array.getElem?_append_right (by omega),l1];exact g2 _ x hx
  .rw [qB (by simp;omega)]at hx
   rw[Array.getElem?_append_right (by simp;omega)];have e1:(xs++ys).length=(a++b).size:=by simp[l1,l2]
   rw[e1]at hx;exact g3 _ x hx
theorem Yf{P:Program}{G:Gh}{mu:Mu}{w:World}(s:Sim G mu w.heap){f:AV}{args:List AV}{v:AV}{fv:Value}{vs:Array Value}(rf:VRel G w.heap f fv)(ra:qM G w.heap args vs)
  (h:vU P mu f args v):∃ g first caps,fv = .func (.func g) first caps/\zn P g/\Calls P g (first++vs++caps) w fun e w'=>∃ G' u,e = .returned u/\Stp G mu w G' mu w'/\VRel G' w'.heap v u:=by
 have step:∀(imm imm':Nat->Prop) (w':World),(∀ b,G.imm b->imm b)->(∀ b,imm' b->b<w'.heap.size/\(imm b\/w.heap.size<=b))->j5 w.heap.size w w'->(∀ b,imm b->G.imm b\/Live G mu b) ->
   Stp G mu w ⟨fun b=>G.imm b\/(imm' b/\w.heap.size<=b),G.blk⟩ mu w':=by
  intro imm imm' w' h1 h2 hb h3;have hle:G.le ⟨fun b=>G.imm b\/(imm' b/\w.heap.size<=b),G.blk⟩:=⟨fun b h => .inl h,fun _ _ h=>h⟩;have he:Ext G w.heap w'.heap:=⟨hb.size,fun b hi=>hb.block b (s.imm b hi)⟩;have key:∀ b,Live G mu b->w'.heap[b]?=w.heap[b]?:=fun b hl=>hb.block b (s.livesize hl)
  refine⟨hle,⟨s.len,?_,?_,?_,s.inj,s.tab.mono hle.imm (fun b hi=>hb.block b (s.imm b hi))⟩,fun b hb' _=>hb.block b hb',hb.size,fun b h => .inl h,fun b h=>h.elim .inl (fun e => .inr (.inr e.2)),hb.tape,hb.os,hb.output,hb.drawn⟩
  .intro b hi
   rcases hi with hi|hi
   .exact wC (s.imm b hi) hb.size
   .exact (h2 b hi.1).1
  .intro i c blk tot hc hd hk
   obtain⟨o',g1,g2⟩:=s.obj i c blk tot hc hd hk;exact⟨o',by rw[key blk ⟨i,_,tot,hc,hd,hk⟩];exact g1,g2.mono hle he⟩
  .intro i c blk tot hc hd hk hi
   rcases hi with hi|hi
   .exact s.live i c blk tot hc hd hk hi
   .have:=s.livesize ⟨i,c,tot,hc,hd,hk⟩;omega
 rcases h with h|⟨g,fi,ca,args',rfl,⟨hcal,hs⟩,h⟩
 case inr =>
  cases rf with
  |fn _ _ _ fvs cvs hn hm hv hw =>
  refine⟨g,fvs,cvs,rfl,hcal,?_⟩;have rall:=qM.append3 (G:=G) (h:=w.heap) ⟨hn,hv⟩ ra ⟨hm,hw⟩;obtain⟨hl,hg⟩:=h.get;have ra':qM ⟨fun b=>G.imm b\/Live G mu b,[]⟩ w.heap args' (fvs++vs++cvs):=by
   refine⟨by rw[rall.1,hl],fun k y hy=>?_⟩;have hk:k<args'.length:=(qc.1 hy).1;have hx:(fi++args++ca)[k]?=some ((fi++args++ca)[k]'(by omega)):=by rw[qs]
   exact(hg k _ y hx hy).sound s (rall.2 k _ hx)
  refine(hs _ w _ (s.all) ra').mono fun e w' ⟨nw,u,he,h2,hb,hr⟩=>?_
  have st:=step (fun b=>G.imm b\/Live G mu b) nw w' (fun b h => .inl h) (fun b h=>⟨(h2 b h).2,.inr (h2 b h).1⟩) hb (fun b h=>h);refine⟨_,u,he,st,hr.le (G':=⟨fun b=>G.imm b\/(nw b/\w.heap.size<=b),G.blk⟩) ⟨fun b hi => .inr ⟨hi,(h2 b hi).1⟩,fun i x h=>by simp at h⟩⟩
 obtain⟨g,fi,ca,args',rfl,⟨hcal,hs⟩,h⟩:=h;cases rf with
 |fn _ _ _ fvs cvs hn hm hv hw =>
 refine⟨g,fvs,cvs,rfl,hcal,?_⟩;have rall:=qM.append3 (G:=G) (h:=w.heap) ⟨hn,hv⟩ ra ⟨hm,hw⟩;rcases h with h|⟨h,hfl⟩
 .obtain ⟨hl,hg⟩:=h.get
  have ra':qM ⟨G.imm,[]⟩ w.heap args' (fvs++vs++cvs):=by
   refine⟨by rw[rall.1,hl],fun k y hy=>?_⟩;have hk:k<args'.length:=(qc.1 hy).1;have hx:(fi++args++ca)[k]?=some ((fi++args++ca)[k]'(by omega)):=by rw[qs]
   exact hg k _ y hx hy G w.heap _ (rall.2 k _ hx)
  refine(hs G.imm w _ s.bare ra').mono fun e w' ⟨imm',u,he,h1,h2,hb,hr⟩=>?_
  have st:=step G.imm imm' w' (fun b h=>h) h2 hb (fun b h => .inl h);refine⟨_,u,he,st,?_⟩;refine hr.le ⟨fun b hi=>?_,fun i x h=>by simp at h⟩;rcases (h2 b hi).2 with h|h
  .exact .inl h
  .exact .inr ⟨hi,h⟩
 .obtain ⟨hl,hg⟩:=h.get
  have ra':qM ⟨fun b=>G.imm b\/Live G mu b,[]⟩ w.heap args' (fvs++vs++cvs):=by
   refine⟨by rw[rall.1,hl],fun k y hy=>?_⟩;have hk:k<args'.length:=(qc.1 hy).1;have hx:(fi++args++ca)[k]?=some ((fi++args++ca)[k]'(by omega)):=by rw[qs]
   exact(hg k _ y hx hy).sound s (rall.2 k _ hx)
  refine(hs _ w _ (s.all) ra').mono fun e w' ⟨imm',u,he,h1,h2,hb,hr⟩=>?_
  have st:=step _ imm' w' (fun b h => .inl h) h2 hb (fun b h=>h);exact⟨_,u,he,st,hfl _ _ _ _ _ hr⟩
end Go.Ev
namespace Go.Ev
open Go Go.RowKit
theorem UF{G:Gh}{h:Array Obj}{x z:AV}{v:Value}(r:VRel G h x v)(e:uG x=some z) :
  z=x/\((∃ a,v = .pointer (some a))\/(∃ t u,v = .iface t u)\/(∃ f a b,v = .func (.func f) a b)):=by
 unfold uG at e;split at e<;>simp only[qb,reduceCtorEq]at e<;>subst e
 .cases r;exact⟨rfl,.inl ⟨_,rfl⟩⟩
 .cases r;exact⟨rfl,.inl ⟨_,rfl⟩⟩
 .cases r;exact⟨rfl,.inr (.inl ⟨_,_,rfl⟩)⟩
 .cases r;exact⟨rfl,.inr (.inr ⟨_,_,_,rfl⟩)⟩
theorem Yg{P:Program}{t:TypeId}(h:vV P t=true):∃ d,P.underlying t=some d/\∀ ms,d ≠ .interface ms:=by
 unfold vV at h;split at h
 .exact absurd h (by simp)
 .rename_i d hd hu
  exact⟨d,hu,fun ms e=>hd ms e⟩
 .exact absurd h (by simp)
theorem UG{P:Program}{G:Gh}{w:World}{xt t:TypeId}{ok:Bool}{x z:AV}{v:Value}(r:VRel G w.heap x v)(h:uI P t ok x=some z) :
  ∃ u,(Instr.typeAssert v xt t ok).run P w = .ok u w/\VRel G w.heap z u:=by
 unfold uI at h;have tup:∀(y:AV) (u:Value) (b:Bool),VRel G w.heap y u->VRel G w.heap (.tup [y,.sc (.bool b)]) (.tuple #[u,.bool b]):=by
  intro y u b ry;refine .tup _ _ rfl (fun k c hk=>?_);cases k with
  |zero=>simp at hk;subst hk;exact ry
  |succ k=>cases k with
   |zero=>simp at hk;subst hk;exact .sc _ rfl
   |succ k=>simp at hk
 split at h
 .rename_i hc
  obtain⟨d,hu,hd⟩:=Yg hc;have zero:∀ z,qn P t=some z->∃ zv,(zeroValue t).run P w = .ok zv w/\VRel G w.heap z zv:=by
   intro z hz;obtain⟨zv,h1,rfl⟩:=jC hz w;exact⟨zv,h1,.ofV zv⟩
  split at h
  .rename_i ut uv
   cases r with
   |ifc _ _ v hv =>
   split at h
   .rename_i he
    subst he;simp only[qb]at h;subst h;cases ok
    .refine ⟨v,?_,hv⟩
     simp only[Instr.typeAssert,ql,run_underlying hu,qm];cases d<;>first | (exact absurd rfl (hd _))|simp
    .refine ⟨.tuple #[v,.bool true],?_,tup _ _ _ hv⟩
     simp only[Instr.typeAssert,ql,run_underlying hu,qm];cases d<;>first | (exact absurd rfl (hd _))|simp
   .rename_i he
    split at h
    .rename_i hok
     subst hok;cases hz:qn P t with
     |none=>simp[hz]at h
     |some z0 =>
      simp only[hz,qw,qb]at h;subst h;obtain⟨zv,h1,h2⟩:=zero z0 hz;refine⟨.tuple #[zv,.bool false],?_,tup _ _ _ h2⟩;simp only[Instr.typeAssert,ql,run_underlying hu,qm];cases d<;>first | (exact absurd rfl (hd _))|simp[he,h1]
    .exact absurd h (by simp)
  .cases r
   split at h
   .rename_i hok
    subst hok;cases hz:qn P t with
    |none=>simp[hz]at h
    |some z0 =>
     simp only[hz,qw,qb]at h;subst h;obtain⟨zv,h1,h2⟩:=zero z0 hz;refine⟨.tuple #[zv,.bool false],?_,tup _ _ _ h2⟩;simp only[Instr.typeAssert,ql,run_underlying hu,qm];cases d<;>first | (exact absurd rfl (hd _))|simp[h1]
   .exact absurd h (by simp)
  .exact absurd h (by simp)
 .exact absurd h (by simp)
def Yh(P:Program)(op:Op)(ev:Operand->AV)(mu:Mu)(K:AV->Mu->Prop):Prop:=
 ∃ f args ats i R,op = .call { callee := .value f,args,argTypes:=ats }/\ev f = .yl i/\yH P i (evs ev args.toList) mu R/\∀ b m,R b m->K (.sc (.bool b)) m
theorem UH{P:Program}{pl:Pol}{det:Bool}{o:Oper}{a:Act}{w:World}{G:Gh}{mu:Mu}{ev:Operand->AV}{K Kp:AV->Mu->Prop}(s:Sim G mu w.heap)(hev:∀ x,VRel G w.heap (ev x) (a.eval x))
  (h:qk P pl det o.dst o.op ev mu K Kp) (hy:¬Yh P o.op ev mu K) {next:Act->World->Prop} {Q:Exit->Act->World->Prop}
  (hK:∀ v mu' G' w' u,K v mu'->Stp G mu w G' mu' w'->VRel G' w'.heap v u->next (a.put o.dst u) w')
  (hKp:∀ v mu' G' w' u,Kp v mu'->Stp G mu w G' mu' w'->VRel G' w'.heap v u->Q (.panic [{ v:=u,recovered:=false }]) a w'):o.wp P a w next Q:=by
 obtain⟨dst,op,ty,pos,after,guard⟩:=o;simp only at h hK hKp hy;have good:∀{c:Sem Value} {x:AV} {mu':Mu},Good P G mu w c x mu'->K x mu'->∀{o':Oper},o'.dst=dst->o'.upon P a next Q ((do pure (Next.value (<-c)):Sem Next).run P w):=by
  intro c x mu' ⟨u,w',G',h1,h2,h3⟩ hk o' ho;exact UE h1 (by rw[ho];exact hK _ _ _ _ _ hk h2 h3)
 have quiet:∀{c:Sem Value} {x:AV} {u:Value},c.run P w = .ok u w->VRel G w.heap x u->K x mu->∀{o':Oper},o'.dst=dst->o'.upon P a next Q ((do pure (Next.value (<-c)):Sem Next).run P w):=
  fun h1 h2 hk _ ho=>good (Good.quiet s h1 h2) hk ho
 unfold Oper.wp;cases op<;>simp only[qk]at h<;>try (exact h.elim)
 case move x=>exact hK _ _ _ _ _ h (Stp.refl s) (hev x)
 case assign x=>exact hK _ _ _ _ _ h (Stp.refl s) (hev x)
 case pick c x y =>
  obtain⟨t,hc,hk⟩:=h;have rc:=hev c;rw[hc]at rc;have ec:a.eval c = .bool t:=by generalize a.eval c=cv at rc;cases rc;rfl
  simp only[execOp,ec,asBool];refine hK _ _ _ _ _ hk (Stp.refl s) ?_;cases t
  .exact hev y
  .exact hev x
 case alloc e =>
  obtain⟨z,hz,h1,hk⟩:=h;obtain⟨zv,hrun,rfl⟩:=jC hz w;obtain⟨G',g1,g2,g3⟩:=ZP (P:=P) s e (VRel.ofV zv) h1;refine good ⟨_,_,G',?_,g2,g3⟩ hk rfl;simp only[Instr.alloc,ql,hrun,qm,g1,qG]
 case box e x =>
  obtain⟨h1,hk⟩:=h;split at hk
  .obtain ⟨G',g1,g2,g3⟩:=ZP (P:=P) s e (hev x) h1
   refine good ⟨_,_,G',?_,g2,g3⟩ hk rfl;simp only[Instr.box,ql,qm,g1,qG]
  .obtain ⟨G',g1,g2,g3⟩:=VZ (P:=P) s e (hev x) h1
   refine good ⟨_,_,G',?_,g2,g3⟩ hk rfl;simp only[Instr.box,ql,qm,g1,qG]
 case build t ps =>
  obtain⟨h1,z,hz,hk⟩:=h;obtain⟨u,g1,g2⟩:=VY (P:=P) (w:=w) (Ye hev ps) (fun y hy=>by unfold jb at h1;rw[hy]at h1;exact h1) hz;exact quiet g1 g2 hk rfl
 case buildSlice t n ps =>
  obtain⟨z,hz,hk⟩:=h;exact good (V1 s (Ye hev ps) hz) hk rfl
 case load t x =>
  obtain⟨z,hz,hk⟩:=h;obtain⟨ad,u,g0,g1,g2⟩:=ZE (P:=P) s (hev x) hz;refine quiet ?_ g2 hk rfl;simp only[Instr.loadAt,g0,Instr.sureAddr,ql,qG,qm,g1]
 case store t x y =>
  obtain⟨m,hm,hk⟩:=h;obtain⟨ad,w',g0,g1,g2⟩:=VF (P:=P) s (hev x) (hev y) hm;refine uJ (w':=w') ?_ ?_
  .simp only[Instr.storeAt,g0,Instr.sureAddr,ql,qG,qm,g1]
  .exact hK _ _ _ _ _ hk g2 (.sc _ rfl)
 case nilCheck x =>
  obtain⟨z,hz,hk⟩:=h;obtain⟨rfl,hv⟩:=UF (hev x) hz;have:(execOp a.eval { dst,op := .nilCheck x,type:=ty,pos,after,guard }).run P w = .ok (.value (a.eval x)) w:=by
   rcases hv with ⟨ad,hv⟩|⟨t,u,hv⟩|⟨f,b,c,hv⟩<;>simp[execOp,hv]
  rw[this];exact hK _ _ _ _ _ hk (Stp.refl s) (hev x)
 case binOp op t x y yt =>
  split at h
  .rename_i hy
   obtain rfl:=UB hy;obtain⟨z,r,hk,g1,g2⟩:=yf.sound (ox:=x) (oy := .const (.slice none 0 0)) (hev x) h;exact quiet g1 g2 hk rfl
  obtain⟨z,hz,hk⟩:=h;obtain⟨u,g1,g2⟩:=Uz (P:=P) (ox:=x) (oy:=y) (hev x) (hev y) hz;exact quiet g1 g2 hk rfl
 case unOp op t x =>
  obtain⟨z,hz,hk⟩:=h;obtain⟨u,g1,g2⟩:=VO (P:=P) (hev x) hz;exact quiet g1 g2 hk rfl
 case convert src dst' x =>
  obtain⟨h1,z,hz,hk⟩:=h;obtain⟨u,g1,g2⟩:=VP (P:=P) (src:=src) (hev x) (Option.isSome_iff_exists.1 h1) hz;exact quiet g1 g2 hk rfl
 case makeInterface t x =>
  obtain⟨h1,hk⟩:=h;obtain⟨d,hu,hd⟩:=Yg h1;refine quiet (u := .iface t (a.eval x)) ?_ (.ifc t _ _ (hev x)) hk rfl;simp only[Instr.makeInterface,ql,run_underlying hu,qm];cases d<;>first | (exact absurd rfl (hd _))|simp
 case makeFunc f first caps =>
  refine quiet (u := .func f (first.map a.eval) (caps.map a.eval)) rfl ?_ h rfl;have r1:=jc hev first;have r2:=jc hev caps;exact .fn f _ _ _ _ r1.1 r2.1 r1.2 r2.2
 case makeSlice t l c =>
  obtain⟨z,hz,hk⟩:=h;exact good (V2 s (hev l) (hev c) hz) hk rfl
 case slice t x lo hi mx =>
  obtain⟨hr,z,hz,hk⟩:=h;obtain⟨u,g1,g2⟩:=VU (P:=P) (w:=w) (vlo:=lo.map a.eval) (vhi:=hi.map a.eval) (vmx:=mx.map a.eval) (hev x)
   (fun y hy=>by cases lo with|none=>simp at hy|some q=>simp at hy;subst hy;exact⟨_,rfl,hev q⟩) (fun h=>by cases lo with|none=>rfl|some q=>simp at h)
   (fun y hy=>by cases hi with|none=>simp at hy|some q=>simp at hy;subst hy;exact⟨_,rfl,hev q⟩) (fun h=>by cases hi with|none=>rfl|some q=>simp at h)
   (fun y hy=>by cases mx with|none=>simp at hy|some q=>simp at hy;subst hy;exact⟨_,rfl,hev q⟩) (fun h=>by cases mx with|none=>rfl|some q=>simp at h)
   (fun full xs e=>by rw[e]at hr;exact hr) hz
  exact quiet g1 g2 hk rfl
 case fieldAddr t x f =>
  obtain⟨z,hz,hk⟩:=h;obtain⟨u,g1,g2⟩:=VQ (P:=P) (hev x) hz;exact quiet g1 g2 hk rfl
 case field t x f =>
  obtain⟨z,hz,hk⟩:=h;obtain⟨u,g1,g2⟩:=VS (P:=P) (hev x) hz;exact quiet g1 g2 hk rfl
 case indexAddr t x i =>
  obtain⟨z,hz,hk⟩:=h;obtain⟨u,g1,g2⟩:=VR (P:=P) (hev x) (hev i) hz;exact quiet g1 g2 hk rfl
 case index t x i =>
  obtain⟨z,hz,hk⟩:=h;obtain⟨u,g1,g2⟩:=VT (P:=P) (hev x) (hev i) hz;exact quiet g1 g2 hk rfl
 case extract t i =>
  obtain⟨z,hz,hk⟩:=h;have rt:=hev t;unfold uH at hz;split at hz
  .rename_i cs e
   rw[e]at rt;generalize hq:a.eval t=tv at rt;cases rt with
   |tup _ vs hn hv =>
   have hlt:i<cs.length:=(qc.1 hz).1;have hlt':i<vs.size:=by omega
   refine quiet (u:=vs.getD i undef) ?_ (hv i z hz) hk rfl;simp[hq,Instr.extract,hlt',qi]
  .exact absurd hz (by simp)
 case typeAssert x xt t ok =>
  obtain⟨z,hz,hk⟩:=h;obtain⟨u,g1,g2⟩:=UG (P:=P) (hev x) hz;exact quiet g1 g2 hk rfl
 case makeMap t r =>
  obtain⟨rfl,hk⟩:=h;exact good (Ur (P:=P) (t:=t) s) hk rfl
 case lookup t m k ok =>
  obtain⟨z,hz,hk⟩:=h;obtain⟨u,g1,g2⟩:=Ug (P:=P) s (hev m) (hev k) hz;exact quiet g1 g2 hk rfl
 case mapUpdate t m k v =>
  obtain⟨m',hm,hk⟩:=h;obtain⟨w',g1,g2⟩:=Yb (P:=P) s (hev m) (hev k) (hev v) hm;exact uJ (w':=w') g1 (hK _ _ _ _ _ hk g2 (.sc _ rfl))
 case insert t m k v =>
  obtain⟨m',hm,hk⟩:=h;obtain⟨w',g1,g2⟩:=Yb (P:=P) s (hev m) (hev k) (hev v) hm;exact uJ (w':=w') g1 (hK _ _ _ _ _ hk g2 (.sc _ rfl))
 case mapEntry t m k =>
  obtain⟨z,hz,hk⟩:=h;exact good (Up s (hev m) (hev k) hz) hk rfl
 case entryStore t m st v =>
  obtain⟨m',hm,hk⟩:=h;obtain⟨w',g1,g2⟩:=Uq (P:=P) (t:=t) s (hev m) (hev st) (hev v) hm;exact uJ (w':=w') g1 (hK _ _ _ _ _ hk g2 (.sc _ rfl))
 case range t m =>
  obtain⟨z,hz,hk⟩:=h;exact good (Us s (hev m) hz) hk rfl
 case next i str =>
  obtain⟨_,rfl,hn⟩:=h;obtain⟨z,mu',hk,hg⟩:=Ut (P:=P) (ty:=ty) s (hev i) hn;exact good hg hk rfl
 case entry i =>
  obtain⟨z,hz,hk⟩:=h;obtain⟨u,g1,g2⟩:=Uu (P:=P) s (hev i) hz;exact quiet g1 g2 hk rfl
 case panic x =>
  obtain⟨_,t,v,hx,hk⟩:=h;have rx:=hev x;rw[hx]at rx;generalize hq:a.eval x=xv at rx;cases rx with
  |ifc _ _ u hu =>
  simp only[execOp,hq,Instr.panic];exact hKp _ _ _ _ _ hk (Stp.refl s) (.ifc t v u hu)
 case call c =>
  obtain⟨callee,args,argTypes⟩:=c;simp only at h;cases callee with
  |invoke r m=>exact h.elim
  |builtin b =>
   have fin:∀ z,yU P mu b argTypes (evs ev args.toList)=some z->K z mu->Oper.upon P { dst,op := .call { callee := .builtin b,args,argTypes },type:=ty,pos,after,guard } a next Q
     ((execOp a.eval { dst,op := .call { callee := .builtin b,args,argTypes },type:=ty,pos,after,guard }).run P w):=by
    intro z hz hk;obtain⟨u,g1,g2⟩:=UD (P:=P) (ty:=ty) (cs:=args.map fun | .const _=>true|_=>false) s (jc hev args) hz;have:(execOp a.eval { dst,op := .call { callee := .builtin b,args,argTypes },type:=ty,pos,after,guard }).run P w = .ok (.value u) w:=by
     simp only[execOp,resolve,ql,qG,qm,invoke];exact g1
    rw[this];exact hK _ _ _ _ _ hk (Stp.refl s) g2
   have fin2:jI P mu b argTypes (evs ev args.toList) K->Oper.upon P { dst,op := .call { callee := .builtin b,args,argTypes },type:=ty,pos,after,guard } a next Q
     ((execOp a.eval { dst,op := .call { callee := .builtin b,args,argTypes },type:=ty,pos,after,guard }).run P w):=by
    intro⟨z,m,hz,hk⟩;have ra:=jc hev args;obtain⟨u,w',g1,g2,g3⟩:=Uw (P:=P) (ty:=ty) (cs:=args.map fun | .const _=>true|_=>false) s ra.1 ra.2 hz;have:(execOp a.eval { dst,op := .call { callee := .builtin b,args,argTypes },type:=ty,pos,after,guard }).run P w = .ok (.value u) w':=by
     simp only[execOp,resolve,ql,qG,qm,invoke];exact g1
    rw[this];exact hK _ _ _ _ _ hk g2 g3
   cases b<;>simp only at h<;>try (first|exact fin2 h | (obtain⟨z,hz,hk⟩:=h;exact fin z hz hk))
   obtain⟨sv,xv,hl,hap⟩:=h;have ra:=jc hev args;rw[hl]at ra;obtain⟨u,v,e1,ru,rv⟩:=ra.two_inv;obtain⟨z,mu',hk,v',w',G',g1,g2,g3⟩:=V5 (ty:=ty) s ru rv hap;have:(execOp a.eval { dst,op := .call { callee := .builtin .append,args,argTypes },type:=ty,pos,after,guard }).run P w = .ok (.value v') w':=by
    simp only[execOp,resolve,ql,qG,qm,invoke,builtin,e1,g1]
   rw[this];exact hK _ _ _ _ _ hk g2 g3
  |value f =>
   rcases h with ⟨v,hp,hk⟩|⟨_,⟨g,fi,ca,R,hf,hs,hr,hpn⟩|⟨i,R,hf,hs,hk⟩⟩
   .obtain ⟨g,fvs,cvs,e1,hcal,hc⟩:=Yf s (hev f) (jc hev args) hp
    have:(execOp a.eval { dst,op := .call { callee := .value f,args,argTypes },type:=ty,pos,after,guard }).run P w = .ok (.enter g (fvs++args.map a.eval++cvs)) w:=by
     simp only[execOp,resolve,ql,qG,qm,e1,Deferred.ofValue,invoke,hcal _ w]
    rw[this];refine hc.mono fun e w' ⟨G',u,he,hst,hu⟩=>?_
    subst he;exact hK _ _ _ _ _ hk hst hu
   .have rf:=hev f
    rw[hf]at rf;generalize hq:a.eval f=fv at rf;cases rf with
    |fn _ _ _ fvs cvs hn hm hv hw =>
    obtain⟨hcal,hs⟩:=hs;have:(execOp a.eval { dst,op := .call { callee := .value f,args,argTypes },type:=ty,pos,after,guard }).run P w = .ok (.enter g (fvs++args.map a.eval++cvs)) w:=by
     simp only[execOp,resolve,ql,qG,qm,hq,Deferred.ofValue,invoke,hcal _ w]
    rw[this];refine(hs G w _ s (qM.append3 ⟨hn,hv⟩ (jc hev args) ⟨hm,hw⟩)).mono fun e w' ⟨G',mu',hst,h⟩=>?_
    rcases h with ⟨r,v,hR,rfl,hv'⟩|⟨r,v,hR,rfl,hv'⟩
    .exact hK _ _ _ _ _ (hr r mu' hR) hst hv'
    .exact hKp _ _ _ _ _ (hpn r mu' hR) hst hv'
   .exact (hy ⟨f,args,argTypes,i,R,rfl,hf,hs,hk⟩).elim
structure Ro where
 rd:Option Nat
 dl:List Deferred
 mks:Bool
 kp:List (AV×Value)
def Ro.fn:Ro:=⟨none,[],true,[]⟩
def Ro.round(l:Nat):Ro:=⟨some l,[],true,[]⟩
def WF(ro:Ro):Fence:={ Fence.wide with round:=ro.rd }
theorem Yi{P:Program}{ro:Ro}{o:Oper}{a:Act}{next:Act->World->Prop}{Q:Exit->Act->World->Prop}{res:Result Next}(h:o.upon P a next Q res):o.uponIn (WF ro) 0 P a next Q res:=by
 have hd:((WF ro).depth.isSome=true->1<=0):=fun h=>by simp[WF,Fence.wide]at h
 cases res with
 |halt why w=>cases why<;>first|exact h|exact h.elim
 |ok n w =>
  cases n
  case value v=>exact h
  case skip=>exact h
  case defer d=>exact h
  case enter f args =>
   refine⟨hd,?_⟩;have:=(callsIn_wide (n:=0)).2 h;exact this
  case row row args =>
   refine⟨hd,fun c cs _=>?_⟩;obtain⟨v,w',hr,hs⟩:=h c cs;exact⟨v,w',hr,stepsIn_wide.2 hs⟩
  all_goals exact h.elim
theorem j9{P:Program}{pl:Pol}{det:Bool}{ro:Ro}{o:Oper}{a:Act}{w:World}{G:Gh}{mu:Mu}{ev:Operand->AV}{K Kp:AV->Mu->Prop}(s:Sim G mu w.heap)(hev:∀ x,VRel G w.heap (ev x) (a.eval x))
  (h:qk P pl det o.dst o.op ev mu K Kp) {next:Act->World->Prop} {Q:Exit->Act->World->Prop}
  (hK:∀ v mu' G' w' u,K v mu'->Stp G mu w G' mu' w'->VRel G' w'.heap v u->next (a.put o.dst u) w')
  (hKp:∀ v mu' G' w' u,Kp v mu'->Stp G mu w G' mu' w'->VRel G' w'.heap v u->Q (.panic [{ v:=u,recovered:=false }]) a w'):o.wpIn (WF ro) 0 P a w next Q:=by
 have hnd:∀ c,o.op ≠ .defer c:=by
  intro c e;rw[e]at h;simp only[qk]at h
 refine⟨fun _ _=>trivial,?_⟩;rw[show (WF ro).round=ro.rd from rfl,Oper.semAt_eq _ _ _ hnd];by_cases hy:Yh P o.op ev mu K
 .obtain ⟨f,args,ats,i,R,ho,hf,hs,hk⟩:=hy
  obtain⟨dst,op,ty,pos,after,guard⟩:=o;simp only at ho hK hKp⊢;subst ho;have rf:=hev f;rw[hf]at rf;generalize hq:a.eval f=fv at rf;cases rf with
  |yl _ l tot hb =>
  obtain⟨fn,tmps,aas,body,h1,h2⟩:=hs G w (args.map a.eval) s (jc hev args) l tot hb;have:(execOp a.eval { dst,op := .call { callee := .value f,args,argTypes:=ats },type:=ty,pos,after,guard }).run P w = .ok (.round l fn tmps aas body) w:=by
   simp only[execOp,resolve,ql,qG,qm,hq,Deferred.ofValue,invoke];simpa using h1
  rw[this];refine⟨fun h=>by simp[WF,Fence.wide]at h,?_⟩;refine RoundIn.mono (F:=WF ro) (n:=0) h2 ?_;rintro e w' ⟨b,G',mu',rfl,hst,hR⟩;exact hK _ _ _ _ _ (hk b mu' hR) hst (.sc _ rfl)
 .exact Yi (UH s hev h hy hK hKp)
end Go.Ev
namespace Go.Ev
open Go Go.RowKit
def pe(o:Oper):List Edge:=o.after.toList.filter (Region.binds .any)
theorem uK{e:Edge}(h:Region.binds .any e=true)(m:Region.Mode):Region.binds m e=true:=by
 unfold Region.binds at *
 split at h
 .exact absurd h (by simp)
 .exact absurd h (by simp)
 .rfl
def jp(ops:Array Oper)(i:Nat):List Nat:=match ops[i]? with|some o=>(pe o).map (·.on)|none=>[]
def Yj(ops:Array Oper):Bool:=(qg ops.size).all fun i=>match ops[i]? with|some o=>o.after.toList.all fun e=>decide (e.on<i)||!Region.binds .text e|none=>true
def Yk(ops:Array Oper):Bool:=(qg ops.size).all fun i=>match ops[i]? with|some o=>o.after.toList.all fun e=>decide (e.on<i)|none=>true
def Yl(ops:List Oper):Nat->List Nat->List Nat
 | 0,acc=>acc.reverse
 |n+1,acc=>match (qg ops.length).find? fun i=>!acc.contains i&&(match ops[i]? with|some o=>o.after.toList.all fun e=>!Region.binds .gc e||acc.contains e.on|none=>false) with
  |some i=>Yl ops n (i :: acc)
  |none=>acc.reverse
def Qa(ops:Array Oper)(L:List Nat):Bool:=decide (L.length=ops.size)&&(qg L.length).all fun p=>match L[p]? with
 |some i=>!(L.take p).contains i&&(match ops[i]? with|some o=>o.after.toList.all fun e=>!Region.binds .gc e||(L.take p).contains e.on|none=>false)
 |none=>false
def zh(ops:Array Oper):Bool:=Yj ops&&(Yk ops||Qa ops (Yl ops.toList ops.size []))
theorem Qb{ops:Array Oper}(h:zh ops=true):∀(i:Nat) (o:Oper),ops[i]?=some o->∀ e,e∈o.after.toList->Region.binds .text e=true->e.on<i:=by
 intro i o ho e he hb;unfold zh at h;rw[qe]at h;have h:=h.1;unfold Yj at h;rw[qt]at h;have:=h i (by simpa using (qR.1 ho).1);rw[ho]at this;simp only[qt]at this;have:=this e he;rw[hb]at this;simpa using this
theorem Ym{o:Oper}{e:Edge}(h:e∈pe o):e∈o.after.toList/\Region.binds .text e=true:=⟨(yA.1 h).1,uK (yA.1 h).2 .text⟩
def Topo(ops:Array Oper)(L:List Nat):Prop:=∀ pre j post,L=pre++j :: post->j<ops.size/\j ∉ pre/\∀ e,e∈jp ops j->e∈pre
theorem Topo.nil(ops:Array Oper):Topo ops []:=fun pre j post h=>by simp at h
theorem Topo.snoc{ops:Array Oper}{L:List Nat}{j:Nat}(h:Topo ops L)(h1:j<ops.size)(h2:j ∉ L)(h3:∀ e,e∈jp ops j->e∈L):Topo ops (L++[j]):=by
 intro pre k post e;rcases List.eq_nil_or_concat post with rfl|⟨post',x,rfl⟩
 .have:=List.append_inj' e rfl
  obtain⟨rfl,h⟩:=this;simp only[yF,and_true]at h;subst h;exact⟨h1,h2,h3⟩
 .rw [<-List.concat_eq_append,List.concat_eq_append,List.concat_eq_append,<-z9,<-zW]at e
  have:=List.append_inj' e rfl;exact h pre k post' this.1
theorem UI(acc:List Nat){n:Nat}:∀ i,i<n->i ∉ acc->∃ j,j<n/\j ∉ acc/\∀ k,k<j->k∈acc:=by
 intro i;induction i using Nat.strongRecOn with
 |_ i ih =>
  intro hi hia;by_cases h:∀ k,k<i->k∈acc
  .exact ⟨i,hi,hia,h⟩
  .obtain ⟨k,hk⟩:=Classical.not_forall.1 h
   obtain⟨hk1,hk2⟩:=Classical.not_imp.1 hk;exact ih k hk1 (by omega) hk2
theorem Qc{ops:Array Oper}{m:Region.Mode}(hback:∀(i:Nat) (o:Oper),ops[i]?=some o->∀ e,e∈o.after.toList->Region.binds m e=true->e.on<i)(acc:List Nat)(hex:∃ i,i<ops.size/\i ∉ acc) :
  ∃ j,j<ops.size/\j ∉ acc/\∀ o,ops[j]?=some o->∀ e,e∈o.after.toList->Region.binds m e=true->e.on∈acc:=by
 obtain⟨i,hi,hia⟩:=hex;obtain⟨j,hj,hja,hmin⟩:=UI acc i hi hia;exact⟨j,hj,hja,fun o ho e he hb=>hmin _ (hback j o ho e he hb)⟩
theorem UJ{ops:Array Oper}{L:List Nat}(h:Qa ops L=true)(acc:List Nat)(hex:∃ i,i<ops.size/\i ∉ acc) :
  ∃ j,j<ops.size/\j ∉ acc/\∀ o,ops[j]?=some o->∀ e,e∈o.after.toList->Region.binds .gc e=true->e.on∈acc:=by
 unfold Qa at h;rw[qe,decide_eq_true_eq,qt]at h;obtain⟨hlen,hp⟩:=h;have hp:∀ p,p<L.length->∃ i,L[p]?=some i/\i ∉ L.take p/\∃ o,ops[i]?=some o/\∀ e,e∈o.after.toList->Region.binds .gc e=true->e.on∈L.take p:=by
  intro p hpl;have:=hp p (by simpa using hpl);rw[qs hpl]at this;simp only[qe,Bool.not_eq_true']at this;refine⟨L[p],by simp[hpl],by simpa using this.1,?_⟩;cases ho:ops[L[p]]? with
  |none=>rw[ho]at this;simp at this
  |some o =>
   rw[ho]at this;refine⟨o,rfl,fun e he hb=>?_⟩;have h2:=this.2;simp only[qt]at h2;have:=h2 e he;rw[hb]at this;simpa using this
 have hnd:L.Nodup:=by
  unfold List.Nodup;rw[List.pairwise_iff_getElem];intro i j hi hj hij e;obtain⟨x,hx,hn,_⟩:=hp j hj;rw[qs hj]at hx;simp only[qb]at hx;refine hn ?_;rw[<-hx,<-e];exact Vy.2 ⟨i,by simp;omega,by simp⟩
 have hlt:∀ x,x∈L->x<ops.size:=by
  intro x hx;obtain⟨p,hpl,e⟩:=Vy.1 hx;obtain⟨y,hy,_,o,ho,_⟩:=hp p hpl;rw[qs hpl]at hy;simp only[qb]at hy;rw[<-e,hy];exact(qR.1 ho).1
 have hall:∀ i,i<ops.size->i∈L:=by
  intro i hi;refine y7 fun hn=>?_
  have h1:(i :: L).length<=(qg ops.size).length:=yQ (yB.2 ⟨hn,hnd⟩) (fun k hk=>by
   rcases qz.1 hk with rfl|hk
   .simpa using hi
   .simpa using hlt k hk)
  simp at h1;omega
 obtain⟨i,hi,hia⟩:=hex;have key:∀ n p,L.length=p+n->(∀ x,x∈L.take p->x∈acc)->∃ q,q<L.length/\(∀ x,x∈L.take q->x∈acc)/\∀ x,L[q]?=some x->x ∉ acc:=by
  intro n;induction n with
  |zero =>
   intro p hpn hx;rw[zA (by omega)]at hx;exact absurd (hx i (hall i hi)) hia
  |succ n ih =>
   intro p hpn hx;by_cases hc:L[p]'(by omega)∈acc
   .refine ih (p+1) (by omega) fun x hx2=>?_
    rw[List.take_add_one,qs (by omega)]at hx2;rcases qy.1 hx2 with h|h
    .exact hx x h
    .simp at h;rw[h];exact hc
   .refine ⟨p,by omega,hx,fun x hx2=>?_⟩
    rw[qs (by omega)]at hx2;simp only[qb]at hx2;rw[<-hx2];exact hc
 obtain⟨q,hq,h1,h2⟩:=key L.length 0 (by omega) (by simp);obtain⟨j,hj,_,o,ho,he⟩:=hp q hq;refine⟨j,(qR.1 ho).1,h2 j hj,fun o' ho' e he' hb=>h1 _ (he e ?_ hb)⟩;rw[ho]at ho';simp only[qb]at ho';rw[ho'];exact he'
theorem UK{ops:Array Oper}(h:zh ops=true)(m:Region.Mode)(acc:List Nat)(hex:∃ i,i<ops.size/\i ∉ acc) :
  ∃ j,j<ops.size/\j ∉ acc/\∀ o,ops[j]?=some o->∀ e,e∈o.after.toList->Region.binds m e=true->e.on∈acc:=by
 have hb:=Qb h;cases m with
 |text=>exact Qc hb acc hex
 |any=>exact Qc (fun i o ho e he hbe=>hb i o ho e he (uK hbe .text)) acc hex
 |gc =>
  unfold zh at h;rw[qe,yc]at h;rcases h.2 with h2|h2
  .refine Qc (fun i o ho e he _=>?_) acc hex
   unfold Yk at h2;rw[qt]at h2;have:=h2 i (by simpa using (qR.1 ho).1);rw[ho]at this;simp only[qt,decide_eq_true_eq]at this;exact this e he
  .exact UJ h2 acc hex
theorem UL{ops:Array Oper}(hok:zh ops=true)(m:Region.Mode):∀(fuel t:Nat) (listed:Array Bool) (acc:List Nat),fuel+acc.length=ops.size->listed.size=ops.size ->
  (∀ i,i<ops.size->(listed.getD i true=true↔i∈acc))->Topo ops acc.reverse->acc.Nodup->(∀ i,i∈acc->i<ops.size) ->
  Topo ops (Region.linearise.go m ops fuel t listed acc)/\(Region.linearise.go m ops fuel t listed acc).length=ops.size:=by
 have hback:=Qb hok;have hnext:=UK hok m;intro fuel;induction fuel with
 |zero =>
  intro t listed acc hf hs hl ht hn hb;simp only[Region.linearise.go];exact⟨ht,by simp;omega⟩
 |succ fuel ih =>
  intro t listed acc hf hs hl ht hn hb;simp only[Region.linearise.go];generalize hrs:((qg ops.size).filter fun i=>!listed.getD i true&&((ops[i]?).map (·.after.all fun e=>!Region.binds m e||listed.getD e.on false)).getD false)=rs;have hmem:∀ i,i∈rs->i<ops.size/\i ∉ acc/\∀ e,e∈jp ops i->e∈acc:=by
   intro i hi;rw[<-hrs,yA]at hi;obtain⟨h1,h2⟩:=hi;have h1:i<ops.size:=by simpa using h1
   simp only[qe,Bool.not_eq_true']at h2;refine⟨h1,fun h=>?_,fun e he=>?_⟩
   .rw [(hl i h1).2 h]at h2;exact absurd h2.1 (by simp)
   .unfold jp at he
    have ho:ops[i]?=some ops[i]:=by simp[h1]
    rw[ho]at he;simp only[qr]at he;obtain⟨x,hx',rfl⟩:=he;obtain⟨hx,hxb⟩:=yA.1 hx';have h3:=h2.2;rw[ho]at h3;simp only[qw,Option.getD_some]at h3;have h4:=(Array.all_eq_true'.1 h3) x (by simpa using hx);rw[uK hxb m]at h4;simp only[Bool.not_true,Bool.false_or]at h4;have hxi:x.on<i:=hback i _ ho x hx (uK hxb .text);refine(hl x.on (by omega)).1 ?_;have:x.on<listed.size:=by omega
    simp only[qi,uu this,Option.getD_some]at h4⊢;exact h4
  have hne:rs≠[]:=by
   have hex:∃ i,i<ops.size/\i ∉ acc:=by
    refine y7 fun hno=>?_
    have hall:∀ i,i<ops.size->i∈acc:=fun i hi=>y7 fun h=>hno ⟨i,hi,h⟩
    have:(qg ops.size).length<=acc.length:=yQ (List.nodup_range) (fun i hi=>hall i (by simpa using hi));simp at this;omega
   obtain⟨j,hj,hja,hmin⟩:=hnext acc hex;intro e;have:j∈rs:=by
    rw[<-hrs,yA];refine⟨by simpa using hj,?_⟩;have ho:ops[j]?=some ops[j]:=by simp[hj]
    simp only[ho,qw,Option.getD_some,qe,Bool.not_eq_true'];refine⟨?_,?_⟩
    .cases hq:listed.getD j true with
     |false=>rfl
     |true=>exact absurd ((hl j hj).1 hq) hja
    .refine Array.all_eq_true'.2 fun x hx=>?_
     cases hbx:Region.binds m x with
     |false=>rfl
     |true =>
      have hm:=hmin _ ho x (by simpa using hx) hbx;have hxs:=hb _ hm;have:=(hl x.on hxs).2 hm;have hlt:x.on<listed.size:=by omega
      simp only[qi,uu hlt,Option.getD_some]at this⊢;simp[this]
   rw[e]at this;simp at this
  have hpos:0<rs.length:=List.length_pos_iff.2 hne;have hlt:t % rs.length<rs.length:=Nat.mod_lt _ hpos;rw[qs hlt];simp only;obtain⟨g1,g2,g3⟩:=hmem _ (List.getElem_mem hlt);generalize rs[t % rs.length]=i at g1 g2 g3;refine ih _ _ _ (by simp;omega) (by simp[hs]) ?_ ?_ (yB.2 ⟨g2,hn⟩) (fun k hk=>?_)
  .intro k hk
   by_cases hki:k=i
   .subst hki
    have:k<listed.size:=by omega
    simp[qi,this]
   .have:=hl k hk
    simp only[qi]at this⊢;rw[vB (fun h=>hki h.symm)];rw[this];simp[hki]
  .rw [List.reverse_cons]
   exact ht.snoc g1 (by simpa using g2) (fun e he=>by simpa using g3 e he)
  .rcases qz.1 hk with rfl|h
   .exact g1
   .exact hb k h
theorem Qd{ops:Array Oper}(hok:zh ops=true)(mixed:Bool)(t:Nat):Topo ops (Region.schedule mixed ops t)/\(Region.schedule mixed ops t).length=ops.size:=by
 have key:∀(m:Region.Mode) (t:Nat),Topo ops (Region.linearise m ops t)/\(Region.linearise m ops t).length=ops.size:=by
  intro m t;unfold Region.linearise;exact UL hok m ops.size t _ [] (by simp) (by simp) (fun i hi=>by simp[qi,hi]) (Topo.nil ops) List.nodup_nil (by simp)
 unfold Region.schedule;split
 .exact key _ _
 .exact key _ _
def jd(acc:List Nat)(o:Oper):Nat:=(pe o).foldl (fun s e=>s ||| (2 ^ e.on ||| acc.getD e.on 0)) 0
def yI:List Oper->List Nat->List Nat
 | [],acc=>acc
 |o :: l,acc=>yI l (acc++[jd acc o])
theorem Yn:∀(l:List Oper) (acc:List Nat),∃ r,yI l acc=acc++r/\r.length=l.length
 | [],acc=>⟨[],by simp[yI],rfl⟩
 |o :: l,acc=>by
  obtain⟨r,h1,h2⟩:=Yn l (acc++[jd acc o]);exact⟨jd acc o :: r,by simp[yI,h1],by simp[h2]⟩
theorem Yo(f:Edge->Nat)(i:Nat):∀(l:List Edge) (s:Nat),(l.foldl (fun s e=>s ||| f e) s).testBit i=true->s.testBit i=true\/∃ e,e∈l/\(f e).testBit i=true
 | [],s,h => .inl h
 |e :: l,s,h=>by
  simp only[List.foldl_cons]at h;rcases Yo f i l _ h with h|⟨e',h1,h2⟩
  .rw [Nat.testBit_or,yc]at h
   rcases h with h|h
   .exact .inl h
   .exact .inr ⟨e,by simp,h⟩
  .exact .inr ⟨e',by simp[h1],h2⟩
def qL(ops:Array Oper)(j:Nat):Nat:=(yI ops.toList []).getD j 0
theorem Yp:∀(l:List Oper) (acc:List Nat) (k:Nat) (o:Oper),l[k]?=some o->(∀ e,e∈(pe o)->e.on<acc.length+k) ->
  (yI l acc).getD (acc.length+k) 0=(pe o).foldl (fun s e=>s ||| (2 ^ e.on ||| (yI l acc).getD e.on 0)) 0
 | [],acc,k,o,h,_=>by simp at h
 |x :: l,acc,k,o,h,he=>by
  simp only[yI];cases k with
  |zero =>
   simp at h;subst h;obtain⟨r,h1,h2⟩:=Yn l (acc++[jd acc x]);rw[h1];have e1:(acc++[jd acc x]++r).getD (acc.length+0) 0=jd acc x:=by simp[qH]
   rw[e1];unfold jd;have key:∀(es:List Edge) (s:Nat),(∀ e,e∈es->e.on<acc.length)->es.foldl (fun s e=>s ||| (2 ^ e.on ||| acc.getD e.on 0)) s=es.foldl (fun s e=>s ||| (2 ^ e.on ||| (acc++[(pe x).foldl (fun s e=>s ||| (2 ^ e.on ||| acc.getD e.on 0)) 0]++r).getD e.on 0)) s:=by
    intro es;induction es with
    |nil=>intro s _;rfl
    |cons e es ih =>
     intro s hes;simp only[List.foldl_cons];have h0:=hes e (by simp);have:(acc++[(pe x).foldl (fun s e=>s ||| (2 ^ e.on ||| acc.getD e.on 0)) 0]++r).getD e.on 0=acc.getD e.on 0:=by
      simp only[qH,zW];rw[qh h0]
     rw[this];exact ih _ (fun e' he'=>hes e' (by simp[he']))
   exact key _ _ (fun e he'=>by have:=he e he';omega)
  |succ k =>
   have:=Yp l (acc++[jd acc x]) k o (by simpa using h) (fun e he'=>by have:=he e he';simp;omega);rw[show (acc++[jd acc x]).length+k=acc.length+(k+1) by simp;omega]at this;exact this
theorem UM{ops:Array Oper}(hok:zh ops=true){j i:Nat}(hj:j<ops.size)(h:(qL ops j).testBit i=true):∃ e,e∈jp ops j/\(i=e\/(qL ops e).testBit i=true):=by
 have hback:=Qb hok;have ho:ops[j]?=some ops[j]:=by simp[hj]
 have hed:jp ops j=(pe ops[j]).map (·.on):=by unfold jp;rw[ho]
 have:=Yp ops.toList [] j ops[j] (by simp) (fun e he=>by
  have:=hback j _ ho e (Ym he).1 (Ym he).2;simp;omega)
 simp only[List.length_nil,Nat.zero_add]at this;unfold qL at h⊢;rw[this]at h;rcases Yo _ i _ _ h with h|⟨e,h1,h2⟩
 .simp at h
 .rw [Nat.testBit_or,yc]at h2
  refine⟨e.on,by rw[hed];exact qr.2 ⟨e,h1,rfl⟩,?_⟩;rcases h2 with h2|h2
  .rw [Nat.testBit_two_pow]at h2
   exact .inl (by simpa using (of_decide_eq_true h2).symm)
  .exact .inr h2
def Qe(ops:Array Oper)(S:Nat->Prop):Prop:=∀ j,S j->j<ops.size/\∀ i,(qL ops j).testBit i=true->S i
theorem Qe.mask{ops:Array Oper}(hok:zh ops=true){S:Nat->Prop}(hc:Qe ops S){j:Nat}(hj:j<ops.size)(he:∀ e,e∈jp ops j->S e) :
  ∀ i,(qL ops j).testBit i=true->S i:=by
 intro i hi;obtain⟨e,h1,h2⟩:=UM hok hj hi;rcases h2 with rfl|h2
 .exact he i h1
 .exact (hc e (he e h1)).2 i h2
def Bef(L:List Nat)(i k:Nat):Prop:=∀ p q,L=p++k :: q->i∈p
theorem Bef.total:∀{L:List Nat} {i k:Nat},i∈L->k∈L->i≠k->Bef L i k\/Bef L k i
 | [],i,k,h,_,_=>absurd h (by simp)
 |x :: l,i,k,hi,hk,hne=>by
  have cons:∀{i k:Nat},Bef l i k->x≠k->Bef (x :: l) i k:=by
   intro i k h hx p q e;cases p with
   |nil=>simp only[jY,yF]at e;exact absurd e.1 hx
   |cons y p' =>
    simp only[z9,yF]at e;exact zf _ (h p' q e.2)
  have head:∀{k:Nat},x≠k->Bef (x :: l) x k:=by
   intro k hx p q e;cases p with
   |nil=>simp only[jY,yF]at e;exact absurd e.1 hx
   |cons y p' =>
    simp only[z9,yF]at e;rw[<-e.1];simp
  by_cases h1:x=i
  .subst h1;exact .inl (head hne)
  .by_cases h2:x=k
   .subst h2;exact .inr (head (fun e=>hne e.symm))
   .have hi':i∈l:=by simpa[Ne.symm h1] using hi
    have hk':k∈l:=by simpa[Ne.symm h2] using hk
    rcases Bef.total hi' hk' hne with h|h
    .exact .inl (cons h h2)
    .exact .inr (cons h h1)
theorem Topo.pre{ops:Array Oper}{p:List Nat}{j:Nat}(h:Topo ops (p++[j])):Topo ops p:=fun pre k post e=>h pre k (post++[j]) (by rw[e];simp)
theorem Topo.pre'{ops:Array Oper}:∀(q:List Nat) {p:List Nat},Topo ops (p++q)->Topo ops p
 | [],p,h=>by simpa using h
 |j :: q,p,h=>by
  have:Topo ops ((p++[j])++q):=by simpa using h
  exact(Topo.pre' q this).pre
theorem Topo.closed{ops:Array Oper}(hok:zh ops=true):∀(n:Nat) (p:List Nat),p.length=n->Topo ops p->Qe ops (·∈p)/\p.Nodup:=by
 intro n;induction n with
 |zero=>intro p hp _;have:=yn hp;subst this;exact⟨fun j hj=>by simp at hj,List.nodup_nil⟩
 |succ n ih =>
  intro p hp ht;rcases List.eq_nil_or_concat p with rfl|⟨p',j,rfl⟩
  .simp at hp
  .rw [List.concat_eq_append]at *
   obtain⟨hc,hn⟩:=ih p' (by simpa using hp) ht.pre;obtain⟨hj,hjp,hed⟩:=ht p' j [] rfl;have hmask:=hc.mask hok hj hed;refine⟨fun k hk=>?_,?_⟩
   .rcases qy.1 hk with hk|hk
    .exact ⟨(hc k hk).1,fun i hi=>qy.2 (.inl ((hc k hk).2 i hi))⟩
    .simp only[qV]at hk;subst hk
     exact⟨hj,fun i hi=>qy.2 (.inl (hmask i hi))⟩
   .rw [jz]
    exact⟨hn,by simp,fun x hx y hy=>by simp at hy;subst hy;exact fun e=>hjp (e ▸ hx)⟩
theorem Topo.bef{ops:Array Oper}(hok:zh ops=true){L:List Nat}(ht:Topo ops L){i k:Nat}(h:(qL ops k).testBit i=true):Bef L i k:=by
 intro p q e;obtain⟨hk,_,hed⟩:=ht p k q e;have hc:=(Topo.closed hok _ p rfl (Topo.pre' (k :: q) (by rw[<-e];exact ht))).1;exact hc.mask hok hk hed i h
end Go.Ev
namespace Go.Ev
open Go Go.RowKit
theorem va{mu:Mu}{i j:Nat}{c:Cell}(h:(mu.set i .dead)[j]?=some c)(hd:c ≠ .dead):j≠i/\mu[j]?=some c:=by
 by_cases e:i=j
 .subst e
  rw[List.getElem?_set_self']at h;cases hm:mu[i]? with
  |none=>rw[hm]at h;simp at h
  |some c'=>rw[hm]at h;simp at h;exact absurd h.symm hd
 .rw [q9 e]at h
  exact⟨fun h=>e h.symm,h⟩
theorem Live.hid{G:Gh}{mu:Mu}{i b:Nat}(h:Live G (mu.set i .dead) b):Live G mu b:=by
 obtain⟨j,c,tot,h1,h2,h3⟩:=h;exact⟨j,c,tot,(va h1 h2).2,h2,h3⟩
theorem Sim.hid{G:Gh}{mu:Mu}{h:Array Obj}(s:Sim G mu h)(i:Nat):Sim G (mu.set i .dead) h:=by
 refine⟨by simpa using s.len,s.imm,fun j c blk tot h1 h2 h3=>s.obj j c blk tot (va h1 h2).2 h2 h3,fun j c blk tot h1 h2 h3=>s.live j c blk tot (va h1 h2).2 h2 h3,?_,s.tab⟩;intro j k cj ck b tj tk h1 h2 h3 h4 h5 h6;exact s.inj j k cj ck b tj tk (va h1 h3).2 (va h2 h4).2 h3 h4 h5 h6
theorem Sim.hid_not{G:Gh}{mu:Mu}{h:Array Obj}(s:Sim G mu h){i b t:Nat}{c:Cell}(hc:mu[i]?=some c)(hd:c ≠ .dead)(hb:G.blk[i]?=some (b,t)):¬Live G (mu.set i .dead) b:=by
 rintro⟨j,cj,tot,h1,h2,h3⟩;obtain⟨hne,h4⟩:=va h1 h2;exact hne (s.inj j i cj c b tot t h4 hc h2 hd h3 hb)
theorem Stp.unhid{G G':Gh}{M m:Mu}{w w':World}{i b t:Nat}{c:Cell}(s:Sim G M w.heap)(hc:M[i]?=some c)(hd:c ≠ .dead)(hb:G.blk[i]?=some (b,t))(T:Stp G (M.set i .dead) w G' m w') :
  m[i]?=some .dead/\w'.heap[b]?=w.heap[b]?/\Stp G M w G' (m.set i c) w':=by
 have hn:=s.hid_not hc hd hb;obtain⟨o,ho,hr⟩:=s.obj i c b t hc hd hb;have hlt:b<w.heap.size:=(qR.1 ho).1;have hk:w'.heap[b]?=w.heap[b]?:=T.keep b hlt hn;have hb':G'.blk[i]?=some (b,t):=T.le.blk _ _ hb;have hnl:¬Live G' m b:=fun h=>(T.live b h).elim hn (fun g=>absurd hlt (Nat.not_lt.2 g))
 have hi:i<m.length:=by rw[<-T.sim.len];exact(qc.1 hb').1
 have hm:m[i]?=some .dead:=by
  have e:m[i]?=some m[i]:=qs hi;rw[e];by_cases hq:m[i] = .dead
  .rw [hq]
  .exact absurd ⟨i,m[i],t,e,hq,hb'⟩ hnl
 have himm:¬G'.imm b:=fun h=>by
  rcases T.inew b h with h|h|h
  .exact s.live i c b t hc hd hb h
  .exact hn h
  .exact absurd hlt (Nat.not_lt.2 h)
 have hext:Ext G w.heap w'.heap:=T.ext (s.hid i);have hset:∀(j:Nat) (x:Cell),(m.set i c)[j]?=some x->x ≠ .dead->(j=i/\x=c)\/(j≠i/\m[j]?=some x):=by
  intro j x hj hx;by_cases e:i=j
  .subst e
   rw[zi hi]at hj;exact .inl ⟨rfl,(Option.some.inj hj).symm⟩
  .rw [q9 e]at hj
   exact .inr ⟨fun h=>e h.symm,hj⟩
 refine⟨hm,hk,T.le,⟨by simpa using T.sim.len,T.sim.imm,?_,?_,?_,T.sim.tab⟩,?_,T.size,?_,?_,T.tape,T.os,T.output,T.drawn⟩
 .intro j x blk tot h1 h2 h3
  rcases hset j x h1 h2 with ⟨rfl,rfl⟩|⟨_,h4⟩
  .rw [hb']at h3
   obtain⟨rfl,rfl⟩:=Prod.mk.inj (Option.some.inj h3);exact⟨o,by rw[hk];exact ho,hr.mono T.le hext⟩
  .exact T.sim.obj j x blk tot h4 h2 h3
 .intro j x blk tot h1 h2 h3
  rcases hset j x h1 h2 with ⟨rfl,rfl⟩|⟨_,h4⟩
  .rw [hb']at h3
   obtain⟨rfl,rfl⟩:=Prod.mk.inj (Option.some.inj h3);exact himm
  .exact T.sim.live j x blk tot h4 h2 h3
 .intro j k cj ck b' tj tk h1 h2 h3 h4 h5 h6
  rcases hset j cj h1 h3 with ⟨rfl,rfl⟩|⟨e1,g1⟩<;>rcases hset k ck h2 h4 with ⟨rfl,rfl⟩|⟨e2,g2⟩
  .rfl
  .rw [hb']at h5
   obtain⟨rfl,rfl⟩:=Prod.mk.inj (Option.some.inj h5);exact absurd ⟨k,ck,tk,g2,h4,h6⟩ hnl
  .rw [hb']at h6
   obtain⟨rfl,rfl⟩:=Prod.mk.inj (Option.some.inj h6);exact absurd ⟨j,cj,tj,g1,h3,h5⟩ hnl
  .exact T.sim.inj j k cj ck b' tj tk g1 g2 h3 h4 h5 h6
 .intro x hx hl
  exact T.keep x hx (fun h=>hl h.hid)
 .rintro x ⟨j,cj,tot,h1,h2,h3⟩
  rcases hset j cj h1 h2 with ⟨rfl,rfl⟩|⟨_,h4⟩
  .rw [hb']at h3
   obtain⟨rfl,rfl⟩:=Prod.mk.inj (Option.some.inj h3);exact .inl ⟨j,cj,t,hc,hd,hb⟩
  .exact (T.live x ⟨j,cj,tot,h4,h2,h3⟩).imp (fun h=>h.hid) id
 .intro x hx
  rcases T.inew x hx with h|h|h
  .exact .inl h
  .exact .inr (.inl h.hid)
  .exact .inr (.inr h)
theorem Stp.drop{G:Gh}{M:Mu}{w:World}(s:Sim G M w.heap)(i:Nat):Stp G M w G (M.set i .dead) w:=
 ⟨.refl G,s.hid i,fun _ _ _=>rfl,qu _,fun _ h => .inl h.hid,fun _ h => .inl h,rfl,rfl,rfl,qu _⟩
theorem Sim.putOther{G:Gh}{M:Mu}{w:World}(s:Sim G M w.heap){D:Nat}{o:Obj}(hl:¬Live G M D)(hi:¬G.imm D):Sim G M (w.putObj D o).heap:=by
 have hext:Ext G w.heap (w.putObj D o).heap:=⟨by simp,fun b hb=>yP (fun e=>hi (e ▸ hb))⟩;refine⟨s.len,fun b hb=>by have:=s.imm b hb;simpa using this,?_,s.live,s.inj,s.tab.mono (fun _ h=>h) hext.keep⟩;intro j x blk tot h1 h2 h3;obtain⟨o',ho,hr⟩:=s.obj j x blk tot h1 h2 h3;refine⟨o',?_,hr.mono (.refl G) hext⟩;rw[yP (fun (e:blk=D)=>hl ⟨j,x,tot,h1,h2,e ▸ h3⟩)];exact ho
structure Mk (G:Gh) (mu:Mu) (h:Array Obj) (D:Nat):Prop where
 obj:h[D]?=some (.deferred (some []))
 nlive:¬Live G mu D
 nimm:¬G.imm D
theorem Mk.step{G G':Gh}{mu mu':Mu}{w w':World}{D:Nat}(m:Mk G mu w.heap D)(t:Stp G mu w G' mu' w'):Mk G' mu' w'.heap D:=by
 have hlt:D<w.heap.size:=(qR.1 m.obj).1;refine⟨by rw[t.keep D hlt m.nlive];exact m.obj,fun h=>?_,fun h=>?_⟩
 .exact (t.live D h).elim m.nlive (fun g=>absurd hlt (Nat.not_lt.2 g))
 .rcases t.inew D h with h|h|h
  .exact m.nimm h
  .exact m.nlive h
  .exact absurd hlt (Nat.not_lt.2 h)
def mkOf(D:Nat):Deferred:={ target := .collected D,args:=#[] }
def Dfs(dl:List Deferred)(mk:Bool)(base:Nat)(G:Gh)(mu:Mu)(h:Array Obj)(ds:List Deferred):Prop:=∃ Ds:List Nat,(ds=Ds.map mkOf++dl/\(mk=false->Ds=[]))/\Ds.Nodup/\∀ D,D∈Ds->base<=D/\Mk G mu h D
theorem Dfs.nil(dl:List Deferred)(mk:Bool)(base:Nat)(G:Gh)(mu:Mu)(h:Array Obj):Dfs dl mk base G mu h dl:=⟨[],⟨rfl,fun _=>rfl⟩,List.nodup_nil,by simp⟩
theorem Dfs.step{dl:List Deferred}{mk:Bool}{base:Nat}{G G':Gh}{mu mu':Mu}{w w':World}{ds:List Deferred}(d:Dfs dl mk base G mu w.heap ds)(t:Stp G mu w G' mu' w'):Dfs dl mk base G' mu' w'.heap ds:=by
 obtain⟨Ds,h1,h2,h3⟩:=d;exact⟨Ds,h1,h2,fun D hD=>⟨(h3 D hD).1,(h3 D hD).2.step t⟩⟩
def yV:List Nat->World->World
 | [],w=>w
 | D :: Ds,w=>yV Ds (w.putObj D (.deferred none))
theorem Qf{P:Program}{F:Fence}{n:Nat}{dl:List Deferred}{fn:Func}{tmps:Array Value}{R:Ending->World->Prop}{u:FrameMode}(hu:u ≠ .run):∀(Ds:List Nat) (w:World),Ds.Nodup->(∀ D,D∈Ds->w.heap[D]?=some (.deferred (some []))) ->
  LeavesInM F n P fn tmps R dl u (yV Ds w)->LeavesInM F n P fn tmps R (Ds.map mkOf++dl) u w
 | [],w,_,_,h=>h
 | D :: Ds,w,hn,hD,h=>by
  obtain⟨hn1,hn2⟩:=yB.1 hn;refine⟨hu,.inl ⟨D,w.putObj D (.deferred none),rfl,run_takeDeferred (hD D (by simp)),Qf hu Ds _ hn2 (fun E hE=>?_) h⟩⟩;rw[yP (fun (e:E=D)=>hn1 (e ▸ hE))];exact hD E (by simp[hE])
theorem Yq{G0 G:Gh}{mu0 mu:Mu}{w0:World}:∀(Ds:List Nat) (w:World),Ds.Nodup->(∀ D,D∈Ds->w0.heap.size<=D/\Mk G mu w.heap D)->Stp G0 mu0 w0 G mu w ->
  Stp G0 mu0 w0 G mu (yV Ds w)/\Ext G w.heap (yV Ds w).heap
 | [],w,_,_,t=>⟨t,Ext.refl _ _⟩
 | D :: Ds,w,hn,hD,t=>by
  obtain⟨hn1,hn2⟩:=yB.1 hn;obtain⟨hb,hm⟩:=hD D (by simp);have t1:Stp G0 mu0 w0 G mu (w.putObj D (.deferred none)):=by
   refine⟨t.le,t.sim.putOther hm.nlive hm.nimm,fun b hb' hl=>?_,by simpa using t.size,t.live,t.inew,t.tape,t.os,t.output,t.drawn⟩;rw[yP (by omega)];exact t.keep b hb' hl
  obtain⟨h1,h2⟩:=Yq Ds (w.putObj D (.deferred none)) hn2 (fun E hE=>⟨(hD E (by simp[hE])).1,by
   have m:=(hD E (by simp[hE])).2;exact⟨by rw[yP (fun (e:E=D)=>hn1 (e ▸ hE))];exact m.obj,m.nlive,m.nimm⟩⟩) t1
  .refine ⟨h1,⟨Nat.le_trans (by simp) h2.size,fun b hb'=>?_⟩⟩
   have:=h2.keep b hb';simp only[yV];rw[this,yP (fun (e:b=D)=>hm.nimm (e ▸ hb'))]
end Go.Ev
namespace Go.Ev
open Go Go.RowKit
def Br(b:Bool)(p q:Prop):Prop:=(b=true->p)/\(b=false->q)
def vb:AV->Bool->Option Bool
 | .sc (.bool b),want=>some (b == want)
 | .sc _,_=>some false
 |_,_=>none
def qX(ops:Array Oper)(st:St)(o:Oper):Option Bool:=
 match o.guard with
 |none=>some true
 |some (j,want)=>match (ops[j]?).bind (·.dst) with
  |none=>some false
  |some d=>vb (st.tm d) want
def awpS(P:Program)(pl:Pol)(det:Bool)(ops:Array Oper):List Oper->(St->Prop)->(AV->St->Prop)->St->Prop
 | [],Q,_,st=>Q st
 |o :: l,Q,Qp,st=>OptK (qX ops st o) fun b =>
   Br b (qk P pl det o.dst o.op st.ev st.mu (fun v m=>awpS P pl det ops l Q Qp (st.put o.dst v m)) (fun v m=>Qp v ⟨st.tm,m⟩)) (awpS P pl det ops l Q Qp (st.put o.dst (.sc undef) st.mu))
structure Rel (ro:Ro) (G0:Gh) (mu0:Mu) (w0:World) (n:Nat) (G:Gh) (st:St) (a:Act) (w:World):Prop where
 tm:∀ i,VRel G w.heap (st.tm i) (a.tmps.getD i undef)
 df:ro.rd=none->Dfs ro.dl ro.mks w0.heap.size G st.mu w.heap a.defers
 size:a.tmps.size=n
 stp:Stp G0 mu0 w0 G st.mu w
 kp:∀ p,p∈ro.kp->VRel G w.heap p.1 p.2
theorem Rel.ev{ro:Ro}{G0:Gh}{mu0:Mu}{w0:World}{n:Nat}{G:Gh}{st:St}{a:Act}{w:World}(r:Rel ro G0 mu0 w0 n G st a w)(x:Operand):VRel G w.heap (st.ev x) (a.eval x):=by
 cases x with
 |tmp t=>exact r.tm t
 |const v=>exact .ofV v
 |global g=>exact .any _
 |func f=>exact .fn _ [] [] _ _ rfl rfl (by simp) (by simp)
def dOk(n:Nat):Option Tmp->Bool|some d=>decide (d<n)|none=>true
theorem Rel.put{ro:Ro}{G0:Gh}{mu0:Mu}{w0:World}{n:Nat}{G G':Gh}{st:St}{a:Act}{w w':World}{m:Mu}{v:AV}{u:Value}{d:Option Tmp}(s0:Sim G0 mu0 w0.heap)(r:Rel ro G0 mu0 w0 n G st a w)(t:Stp G st.mu w G' m w')(rv:VRel G' w'.heap v u)
  (hd:dOk n d=true):Rel ro G0 mu0 w0 n G' (st.put d v m) (a.put d u) w':=by
 refine⟨fun i=>?_,?_,?_,r.stp.trans s0 t,fun p hp=>t.vrel r.stp.sim (r.kp p hp)⟩
 .cases d with
  |none=>exact t.vrel r.stp.sim (r.tm i)
  |some d =>
   simp only[dOk,decide_eq_true_eq]at hd;simp only[St.put,Act.put];by_cases hi:i=d
   .subst hi
    rw[if_pos rfl];have:i<a.tmps.size:=by rw[r.size];exact hd
    simpa[qi,this] using rv
   .rw [if_neg hi]
    have:(a.tmps.setIfInBounds d u).getD i undef=a.tmps.getD i undef:=by
     simp only[qi];rw[vB (fun h=>hi h.symm)]
    rw[this];exact t.vrel r.stp.sim (r.tm i)
 .intro h
  have:=(r.df h).step t;cases d<;>exact this
 .cases d with
  |none=>exact r.size
  |some d=>simp[Act.put,r.size]
theorem Rel.drew{ro:Ro}{G0:Gh}{mu0:Mu}{w0:World}{n:Nat}{G:Gh}{st:St}{a:Act}{w:World}(s0:Sim G0 mu0 w0.heap)(r:Rel ro G0 mu0 w0 n G st a w):Rel ro G0 mu0 w0 n G st a w.drew:=
 ⟨r.tm,r.df,r.size,r.stp.trans s0 (Stp.drew r.stp.sim),r.kp⟩
theorem uL{ro:Ro}{G0:Gh}{mu0:Mu}{w0:World}{n:Nat}{G:Gh}{st:St}{a:Act}{w:World}(r:Rel ro G0 mu0 w0 n G st a w){ops:Array Oper}{o:Oper}{b:Bool}(h:qX ops st o=some b):Region.wanted o (yielded ops a.tmps)=b:=by
 unfold qX at h;unfold Region.wanted;cases hg:o.guard with
 |none=>rw[hg]at h;simpa using h
 |some q =>
  obtain⟨j,want⟩:=q;rw[hg]at h;simp only at h⊢;unfold yielded;cases hd:(ops[j]?).bind (·.dst) with
  |none=>rw[hd]at h;simp only[qb]at h;subst h;simp
  |some d =>
   rw[hd]at h;simp only[Option.bind_some]at h⊢;have rd:=r.tm d;have hget:a.tmps[d]?=some (a.tmps.getD d undef)\/a.tmps[d]?=none/\a.tmps.getD d undef=undef:=by
    simp only[qi];cases a.tmps[d]? with
    |none=>exact .inr ⟨rfl,rfl⟩
    |some v=>exact .inl rfl
   unfold vb at h;split at h
   .rename_i bb hb
    simp only[qb]at h;subst h;rw[hb]at rd;generalize a.tmps.getD d undef=v at rd hget;cases rd;rcases hget with hg|⟨_,hg⟩
    .rw [hg];cases bb<;>cases ‹Bool›<;>rfl
    .exact absurd hg (by simp[undef])
   .rename_i v hv hb
    simp only[qb]at h;subst h;rw[hb]at rd;generalize a.tmps.getD d undef=v' at rd hget;cases rd;rcases hget with hg|⟨hg,_⟩
    .rw [hg]
     cases v<;>first|rfl | (exact absurd rfl (hv _))
    .rw [hg];rfl
   .exact absurd h (by simp)
theorem Yr{P:Program}{pl:Pol}{ops:Array Oper}{ro:Ro}{l2:List Oper}{G0:Gh}{mu0:Mu}{w0:World}{n:Nat}(s0:Sim G0 mu0 w0.heap){Q:St->Prop}{Qp:AV->St->Prop}{QQ:Exit->Act->World->Prop}
  (hQ:∀ st a w G,Q st->Rel ro G0 mu0 w0 n G st a w->wpListIn (WF ro) 0 P ops QQ l2 a w)
  (hQp:∀ v st a w G u,Qp v st->Rel ro G0 mu0 w0 n G st a w->VRel G w.heap v u->QQ (.panic [{ v:=u,recovered:=false }]) a w) :
  ∀(l:List Oper) (st:St) (a:Act) (w:World) (G:Gh),Rel ro G0 mu0 w0 n G st a w->(l.all fun o=>dOk n o.dst)=true->awpS P pl false ops l Q Qp st->wpListIn (WF ro) 0 P ops QQ (l++l2) a w:=by
 intro l;induction l with
 |nil=>intro st a w G r _ h;exact hQ st a w G h r
 |cons o l ih =>
  intro st a w G r hd h;simp only[List.all_cons,qe]at hd;obtain⟨b,hb,h1,h2⟩:=h;have hw:=uL r hb;simp only[z9,wpListIn,hw];cases b with
  |false =>
   rw[if_neg (by simp)];exact⟨fun _ _=>trivial,ih _ _ _ G (r.put s0 (Stp.refl r.stp.sim) (.sc _ rfl) hd.1) hd.2 (h2 rfl)⟩
  |true =>
   rw[if_pos rfl];refine j9 r.stp.sim r.ev (h1 rfl) ?_ ?_
   .intro v mu' G' w' u hk hst hv
    exact ih _ _ _ G' (r.put s0 hst hv hd.1) hd.2 hk
   .intro v mu' G' w' u hk hst hv
    refine hQp v ⟨st.tm,mu'⟩ a w' G' u hk ?_ hv;exact r.put (d:=none) s0 hst (.any undef) rfl
theorem Qg{P:Program}{pl:Pol}{ops:Array Oper}{ro:Ro}{G0:Gh}{mu0:Mu}{w0:World}{n:Nat}(s0:Sim G0 mu0 w0.heap){Q:St->Prop}{Qp:AV->St->Prop}{QQ:Exit->Act->World->Prop}
  (hQ:∀ st a w G,Q st->Rel ro G0 mu0 w0 n G st a w->QQ .normal a w)
  (hQp:∀ v st a w G u,Qp v st->Rel ro G0 mu0 w0 n G st a w->VRel G w.heap v u->QQ (.panic [{ v:=u,recovered:=false }]) a w) :
  ∀(l:List Oper) (st:St) (a:Act) (w:World) (G:Gh),Rel ro G0 mu0 w0 n G st a w->(l.all fun o=>dOk n o.dst)=true->awpS P pl false ops l Q Qp st->wpListIn (WF ro) 0 P ops QQ l a w:=by
 intro l st a w G r hd h;have:=Yr (l2:=[]) s0 (fun st a w G hq r=>hQ st a w G hq r) hQp l st a w G r hd h
 rwa[y5]at this
def memW(pl:Pol)(o:Oper):Bool:=
 match o.op with
 | .alloc _ | .store .. | .makeSlice .. | .mapUpdate .. | .mapEntry .. | .entryStore .. | .makeMap .. | .insert .. | .range .. | .next .. => true
 | .box .. => o.dst.any pl.mt.contains
 | .call c=>match c.callee with | .builtin .append | .builtin .copy | .builtin .delete | .builtin .clear=>true|_=>false
 |_=>false
def memR(o:Oper):Bool:=
 match o.op with
 | .load .. | .call _ | .lookup .. | .entry .. => true
 |_=>false
def vW(l:Array Operand):List Tmp:=l.toList.filterMap fun | .tmp t=>some t|_=>none
def yu(ops:Array Oper)(o:Oper):List Tmp:=
 vW o.op.operands++(match o.guard with|some (j,_)=>((ops[j]?).bind (·.dst)).toList|none=>[])
def Qh(pl:Pol)(o:Oper):Bool:=
 match o.op with
 | .alloc _ | .makeSlice .. | .makeMap .. => true
 | .box .. => o.dst.any pl.mt.contains
 |_=>false
def reads(pl:Pol)(o:Oper):Bool:=memR o&&!memW pl o
def soft(pl:Pol)(a b:Oper):Bool:=
 (match a.op,b.op with
 | .lookup t _ _ false,.mapEntry t' _ _=>t == t'
 |_,_=>false)||(reads pl a&&Qh pl b)
def q8(pl:Pol)(ops:Array Oper)(a b:Oper):Bool:=
 (memW pl a&&(memW pl b||memR b))||(memR a&&memW pl b&&!soft pl a b) ||
 (match a.dst with|some d=>(yu ops b).contains d||b.dst == some d|none=>false) ||
 (match b.dst with|some d=>(yu ops a).contains d|none=>false)
def vX(pl:Pol)(ops:Array Oper):Bool:=
 zh ops&&(let ms:=yI ops.toList [];(qg ops.size).all fun j=>(qg j).all fun i =>
  match ops[i]?,ops[j]? with|some a,some b=>!q8 pl ops a b||(ms.getD j 0).testBit i|_,_=>true)
theorem UN{pl:Pol}{ops:Array Oper}(h:vX pl ops=true):zh ops=true/\∀(i j:Nat) a b,i<j->ops[i]?=some a->ops[j]?=some b->q8 pl ops a b=true->(qL ops j).testBit i=true:=by
 unfold vX at h;rw[qe]at h;refine⟨h.1,fun i j a b hij ha hb hc=>?_⟩;have hj:j<ops.size:=(qR.1 hb).1;have h2:=h.2;simp only[qt,yD]at h2;have:=h2 j hj i hij;rw[ha,hb]at this;simp only[hc,Bool.not_true,Bool.false_or]at this;exact this
def uM(pl:Pol)(ops:Array Oper)(a b:Nat):Bool:=
 zh ops&&(let ms:=yI ops.toList [];(qg ops.size).all fun j=>(qg j).all fun i=>(i == a&&j == b) ||
  match ops[i]?,ops[j]? with|some x,some y=>!q8 pl ops x y||(ms.getD j 0).testBit i|_,_=>true) &&
 (qg b).all fun k=>!(decide (a<k))||match ops[k]?,ops[a]? with|some x,some y=>!q8 pl ops x y|_,_=>true
theorem UO{pl:Pol}{ops:Array Oper}{a b:Nat}(h:uM pl ops a b=true):zh ops=true/\(∀(i j:Nat) x y,i<j->¬(i=a/\j=b)->ops[i]?=some x->ops[j]?=some y->q8 pl ops x y=true->(qL ops j).testBit i=true) /\
  ∀(k:Nat) x y,a<k->k<b->ops[k]?=some x->ops[a]?=some y->q8 pl ops x y=false:=by
 unfold uM at h;rw[qe,qe]at h;refine⟨h.1.1,fun i j x y hij hne ha hb hc=>?_,fun k x y h1 h2 hx hy=>?_⟩
 .have hj:j<ops.size:=(qR.1 hb).1
  have h2:=h.1.2;simp only[qt,yD]at h2;have:=h2 j hj i hij;rw[ha,hb,yc]at this;rcases this with this|this
  .simp at this;exact absurd this hne
  .simp only[hc,Bool.not_true,Bool.false_or]at this
   exact this
 .have h3:=h.2
  simp only[qt,yD]at h3;have:=h3 k h2;rw[hx,hy]at this;simpa[h1] using this
def DS(P:Program)(pl:Pol)(o:Oper)(ev:Operand->AV)(mu:Mu)(v:AV)(m:Mu):Prop:=qk P pl true o.dst o.op ev mu (fun a b=>a=v/\b=m) (fun _ _=>False)
theorem qk.det{P:Program}{pl:Pol}{o:Oper}{ev:Operand->AV}{mu:Mu}{K Kp:AV->Mu->Prop}(h:qk P pl true o.dst o.op ev mu K Kp):∃ v m,DS P pl o ev mu v m/\K v m:=by
 unfold DS;generalize o.dst=dst at *
 cases ho:o.op<;>rw[ho]at h<;>simp only[qk]at h⊢<;>try (exact h.elim)
 case move=>exact⟨_,_,⟨rfl,rfl⟩,h⟩
 case assign=>exact⟨_,_,⟨rfl,rfl⟩,h⟩
 case makeFunc=>exact⟨_,_,⟨rfl,rfl⟩,h⟩
 case pick=>obtain⟨t,h1,h2⟩:=h;exact⟨_,_,⟨t,h1,rfl,rfl⟩,h2⟩
 case alloc=>obtain⟨z,h1,h2,h3⟩:=h;exact⟨_,_,⟨z,h1,h2,rfl,rfl⟩,h3⟩
 case box =>
  obtain⟨h1,h2⟩:=h;split at h2
  .rename_i hc;exact⟨_,_,⟨h1,by rw[if_pos hc];exact⟨rfl,rfl⟩⟩,h2⟩
  .rename_i hc;exact⟨_,_,⟨h1,by rw[if_neg hc];exact⟨rfl,rfl⟩⟩,h2⟩
 case build=>obtain⟨h0,z,h1,h2⟩:=h;exact⟨_,_,⟨h0,z,h1,rfl,rfl⟩,h2⟩
 case buildSlice=>obtain⟨z,h1,h2⟩:=h;exact⟨_,_,⟨z,h1,rfl,rfl⟩,h2⟩
 case load=>obtain⟨z,h1,h2⟩:=h;exact⟨_,_,⟨z,h1,rfl,rfl⟩,h2⟩
 case store=>obtain⟨z,h1,h2⟩:=h;exact⟨_,_,⟨z,h1,rfl,rfl⟩,h2⟩
 case nilCheck=>obtain⟨z,h1,h2⟩:=h;exact⟨_,_,⟨z,h1,rfl,rfl⟩,h2⟩
 case binOp =>
  split at h
  .rename_i hy
   simp only[if_pos hy];obtain⟨z,hk,hK⟩:=h.det;exact⟨z,_,hK _ ⟨rfl,rfl⟩,hk⟩
  .rename_i hy
   simp only[if_neg hy];obtain⟨z,h1,h2⟩:=h;exact⟨_,_,⟨z,h1,rfl,rfl⟩,h2⟩
 case unOp=>obtain⟨z,h1,h2⟩:=h;exact⟨_,_,⟨z,h1,rfl,rfl⟩,h2⟩
 case convert=>obtain⟨h0,z,h1,h2⟩:=h;exact⟨_,_,⟨h0,z,h1,rfl,rfl⟩,h2⟩
 case makeInterface=>obtain⟨h0,h2⟩:=h;exact⟨_,_,⟨h0,rfl,rfl⟩,h2⟩
 case makeSlice=>obtain⟨z,h1,h2⟩:=h;exact⟨_,_,⟨z,h1,rfl,rfl⟩,h2⟩
 case slice=>obtain⟨h0,z,h1,h2⟩:=h;exact⟨_,_,⟨h0,z,h1,rfl,rfl⟩,h2⟩
 case fieldAddr=>obtain⟨z,h1,h2⟩:=h;exact⟨_,_,⟨z,h1,rfl,rfl⟩,h2⟩
 case field=>obtain⟨z,h1,h2⟩:=h;exact⟨_,_,⟨z,h1,rfl,rfl⟩,h2⟩
 case indexAddr=>obtain⟨z,h1,h2⟩:=h;exact⟨_,_,⟨z,h1,rfl,rfl⟩,h2⟩
 case index=>obtain⟨z,h1,h2⟩:=h;exact⟨_,_,⟨z,h1,rfl,rfl⟩,h2⟩
 case extract=>obtain⟨z,h1,h2⟩:=h;exact⟨_,_,⟨z,h1,rfl,rfl⟩,h2⟩
 case typeAssert=>obtain⟨z,h1,h2⟩:=h;exact⟨_,_,⟨z,h1,rfl,rfl⟩,h2⟩
 case makeMap=>obtain⟨h0,h2⟩:=h;exact⟨_,_,⟨h0,rfl,rfl⟩,h2⟩
 case lookup=>obtain⟨z,h1,h2⟩:=h;exact⟨_,_,⟨z,h1,rfl,rfl⟩,h2⟩
 case mapUpdate=>obtain⟨z,h1,h2⟩:=h;exact⟨_,_,⟨z,h1,rfl,rfl⟩,h2⟩
 case insert=>obtain⟨z,h1,h2⟩:=h;exact⟨_,_,⟨z,h1,rfl,rfl⟩,h2⟩
 case mapEntry=>obtain⟨z,h1,h2⟩:=h;exact⟨_,_,⟨z,h1,rfl,rfl⟩,h2⟩
 case entryStore=>obtain⟨z,h1,h2⟩:=h;exact⟨_,_,⟨z,h1,rfl,rfl⟩,h2⟩
 case range=>obtain⟨z,h1,h2⟩:=h;exact⟨_,_,⟨z,h1,rfl,rfl⟩,h2⟩
 case next=>exact absurd h.1 (by simp)
 case entry=>obtain⟨z,h1,h2⟩:=h;exact⟨_,_,⟨z,h1,rfl,rfl⟩,h2⟩
 case panic=>exact absurd h.1 (by simp)
 case call c =>
  obtain⟨callee,args,ats⟩:=c;cases callee with
  |invoke r m=>exact h.elim
  |value f =>
   rcases h with ⟨v,h1,h2⟩|⟨h1,_⟩
   .exact ⟨_,_,.inl ⟨v,h1,rfl,rfl⟩,h2⟩
   .exact absurd h1 (by simp)
  |builtin b =>
   cases b<;>simp only at h⊢<;>try (first | (obtain⟨z,m,h1,h2⟩:=h;exact⟨_,_,⟨z,m,h1,rfl,rfl⟩,h2⟩) | (obtain⟨z,h1,h2⟩:=h;exact⟨_,_,⟨z,h1,rfl,rfl⟩,h2⟩))
   obtain⟨s,x,h1,h⟩:=h;obtain⟨v,m,g,k⟩:=h.det;exact⟨v,m,⟨s,x,h1,g⟩,k⟩
theorem DS.mem{P:Program}{pl:Pol}{o:Oper}{ev:Operand->AV}{mu:Mu}{v:AV}{m:Mu}(h:DS P pl o ev mu v m)(hw:memW pl o=false):m=mu/\(memR o=false->∀ mu2,DS P pl o ev mu2 v mu2):=by
 unfold DS at *
 unfold memW at hw;unfold memR;cases ho:o.op<;>rw[ho]at h hw<;>simp only[qk]at h⊢<;>try (exact h.elim)
 case move=>exact⟨h.2.symm,fun _ mu2=>⟨h.1,by first|rfl|trivial⟩⟩
 case assign=>exact⟨h.2.symm,fun _ mu2=>⟨h.1,by first|rfl|trivial⟩⟩
 case makeFunc=>exact⟨h.2.symm,fun _ mu2=>⟨h.1,by first|rfl|trivial⟩⟩
 case pick=>obtain⟨t,h1,h2⟩:=h;exact⟨h2.2.symm,fun _ mu2=>⟨t,h1,h2.1,by first|rfl|trivial⟩⟩
 case alloc=>exact absurd hw (by simp)
 case box =>
  obtain⟨h1,h2⟩:=h;simp only at hw;have hn:¬(o.dst.any pl.mt.contains=true):=by rw[hw];simp
  rw[if_neg hn]at h2;exact⟨h2.2.symm,fun _ mu2=>⟨h1,by rw[if_neg hn];exact⟨h2.1,by first|rfl|trivial⟩⟩⟩
 case build=>obtain⟨h0,z,h1,h2⟩:=h;exact⟨h2.2.symm,fun _ mu2=>⟨h0,z,h1,h2.1,by first|rfl|trivial⟩⟩
 case buildSlice=>obtain⟨z,h1,h2⟩:=h;exact⟨h2.2.symm,fun _ mu2=>⟨z,h1,h2.1,by first|rfl|trivial⟩⟩
 case load=>obtain⟨z,h1,h2⟩:=h;exact⟨h2.2.symm,fun h=>absurd h (by simp)⟩
 case store=>exact absurd hw (by simp)
 case nilCheck=>obtain⟨z,h1,h2⟩:=h;exact⟨h2.2.symm,fun _ mu2=>⟨z,h1,h2.1,by first|rfl|trivial⟩⟩
 case binOp =>
  split at h
  .rename_i hy
   simp only[if_pos hy];obtain⟨z,hk,hK⟩:=h.det;exact⟨hk.2.symm,fun _ mu2=>hK _ ⟨hk.1,by first|rfl|trivial⟩⟩
  .rename_i hy
   simp only[if_neg hy];obtain⟨z,h1,h2⟩:=h;exact⟨h2.2.symm,fun _ mu2=>⟨z,h1,h2.1,by first|rfl|trivial⟩⟩
 case unOp=>obtain⟨z,h1,h2⟩:=h;exact⟨h2.2.symm,fun _ mu2=>⟨z,h1,h2.1,by first|rfl|trivial⟩⟩
 case convert=>obtain⟨h0,z,h1,h2⟩:=h;exact⟨h2.2.symm,fun _ mu2=>⟨h0,z,h1,h2.1,by first|rfl|trivial⟩⟩
 case makeInterface=>obtain⟨h0,h2⟩:=h;exact⟨h2.2.symm,fun _ mu2=>⟨h0,h2.1,by first|rfl|trivial⟩⟩
 case makeSlice=>exact absurd hw (by simp)
 case slice=>obtain⟨h0,z,h1,h2⟩:=h;exact⟨h2.2.symm,fun _ mu2=>⟨h0,z,h1,h2.1,by first|rfl|trivial⟩⟩
 case fieldAddr=>obtain⟨z,h1,h2⟩:=h;exact⟨h2.2.symm,fun _ mu2=>⟨z,h1,h2.1,by first|rfl|trivial⟩⟩
 case field=>obtain⟨z,h1,h2⟩:=h;exact⟨h2.2.symm,fun _ mu2=>⟨z,h1,h2.1,by first|rfl|trivial⟩⟩
 case indexAddr=>obtain⟨z,h1,h2⟩:=h;exact⟨h2.2.symm,fun _ mu2=>⟨z,h1,h2.1,by first|rfl|trivial⟩⟩
 case index=>obtain⟨z,h1,h2⟩:=h;exact⟨h2.2.symm,fun _ mu2=>⟨z,h1,h2.1,by first|rfl|trivial⟩⟩
 case extract=>obtain⟨z,h1,h2⟩:=h;exact⟨h2.2.symm,fun _ mu2=>⟨z,h1,h2.1,by first|rfl|trivial⟩⟩
 case typeAssert=>obtain⟨z,h1,h2⟩:=h;exact⟨h2.2.symm,fun _ mu2=>⟨z,h1,h2.1,by first|rfl|trivial⟩⟩
 case makeMap=>exact absurd hw (by simp)
 case lookup=>obtain⟨z,h1,h2⟩:=h;exact⟨h2.2.symm,fun h=>absurd h (by simp)⟩
 case mapUpdate=>exact absurd hw (by simp)
 case insert=>exact absurd hw (by simp)
 case mapEntry=>exact absurd hw (by simp)
 case entryStore=>exact absurd hw (by simp)
 case range=>exact absurd hw (by simp)
 case next=>exact absurd hw (by simp)
 case entry=>obtain⟨z,h1,h2⟩:=h;exact⟨h2.2.symm,fun h=>absurd h (by simp)⟩
 case panic=>exact absurd h.1 (by simp)
 case call c =>
  obtain⟨callee,args,ats⟩:=c;cases callee with
  |invoke r m=>exact h.elim
  |value f =>
   rcases h with ⟨v,h1,h2⟩|⟨h1,_⟩
   .exact ⟨h2.2.symm,fun h=>absurd h (by simp)⟩
   .exact absurd h1 (by simp)
  |builtin b =>
   cases b<;>simp only at h hw⊢<;>first
    | (obtain⟨z,h1,h2⟩:=h;exact⟨h2.2.symm,fun h=>absurd h (by simp)⟩)
    | (exact absurd hw (by simp))
theorem jq{ev ev':Operand->AV}{l:Array Operand}(h:∀ x,x∈l->ev x=ev' x):evs ev l.toList=evs ev' l.toList:=
 List.map_congr_left fun x hx=>h x (by simpa using hx)
theorem uN{ev ev':Operand->AV}{l:Array (Nat×Operand)}(h:∀ x,x∈(l.toList.map (·.2)).toArray->ev x=ev' x):(l.toList.map fun p=>(p.1,ev p.2))=l.toList.map fun p=>(p.1,ev' p.2):=
 List.map_congr_left fun p hp=>by rw[h p.2 (by simp only[List.mem_toArray,qr];exact⟨p,hp,rfl⟩)]
theorem vd{ev ev':Operand->AV}{o:Option Operand}(h:∀ x,x∈o.toArray->ev x=ev' x):o.map ev=o.map ev':=by
 cases o with
 |none=>rfl
 |some x=>simp[h x (by simp)]
theorem DS.congr{P:Program}{pl:Pol}{o:Oper}{ev ev':Operand->AV}{mu:Mu}{v:AV}{m:Mu}(h:DS P pl o ev mu v m)(he:∀ x,x∈o.op.operands->ev x=ev' x):DS P pl o ev' mu v m:=by
 unfold DS at *
 cases ho:o.op<;>rw[ho]at h he<;>simp only[qk,Op.operands]at h he⊢<;>try (exact h.elim)
 case move x=>rw[<-he x (by simp)];exact h
 case assign x=>rw[<-he x (by simp)];exact h
 case makeFunc f first caps =>
  rw[<-jq (l:=first) (fun x hx=>he x (by simp[hx])),<-jq (l:=caps) (fun x hx=>he x (by simp[hx]))];exact h
 case pick c x y=>rw[<-he c (by simp),<-he x (by simp),<-he y (by simp)];exact h
 case alloc=>exact h
 case box t x=>rw[<-he x (by simp)];exact h
 case build t ps=>rw[<-uN he];exact h
 case buildSlice t n ps=>rw[<-uN he];exact h
 case load t x=>rw[<-he x (by simp)];exact h
 case store t x y=>rw[<-he x (by simp),<-he y (by simp)];exact h
 case nilCheck x=>rw[<-he x (by simp)];exact h
 case binOp op t x y yt=>rw[<-he x (by simp),<-he y (by simp)];exact h
 case unOp op t x=>rw[<-he x (by simp)];exact h
 case convert s t x=>rw[<-he x (by simp)];exact h
 case makeInterface t x=>rw[<-he x (by simp)];exact h
 case makeSlice t x y=>rw[<-he x (by simp),<-he y (by simp)];exact h
 case slice t x lo hi mx =>
  rw[<-he x (by simp),<-vd (o:=lo) (fun y hy=>he y (by simp only[Array.mem_append];exact .inl (.inl (.inr hy)))),
   <-vd (o:=hi) (fun y hy=>he y (by simp only[Array.mem_append];exact .inl (.inr hy))),<-vd (o:=mx) (fun y hy=>he y (by simp only[Array.mem_append];exact .inr hy))]
  exact h
 case fieldAddr t x f=>rw[<-he x (by simp)];exact h
 case field t x f=>rw[<-he x (by simp)];exact h
 case indexAddr t x i=>rw[<-he x (by simp),<-he i (by simp)];exact h
 case index t x i=>rw[<-he x (by simp),<-he i (by simp)];exact h
 case extract x i=>rw[<-he x (by simp)];exact h
 case typeAssert x xt t ok=>rw[<-he x (by simp)];exact h
 case makeMap=>exact h
 case lookup t m k ok=>rw[<-he m (by simp),<-he k (by simp)];exact h
 case mapUpdate t m k v=>rw[<-he m (by simp),<-he k (by simp),<-he v (by simp)];exact h
 case insert t m k v=>rw[<-he m (by simp),<-he k (by simp),<-he v (by simp)];exact h
 case mapEntry t m k=>rw[<-he m (by simp),<-he k (by simp)];exact h
 case entryStore t m k v=>rw[<-he m (by simp),<-he k (by simp),<-he v (by simp)];exact h
 case range t m=>rw[<-he m (by simp)];exact h
 case next=>exact absurd h.1 (by simp)
 case entry i=>rw[<-he i (by simp)];exact h
 case panic x=>exact absurd h.1 (by simp)
 case call c =>
  obtain⟨callee,args,ats⟩:=c;cases callee with
  |invoke r m=>exact h.elim
  |value f =>
   simp only[Call.operands]at he;simp only at h⊢;rw[<-jq (l:=args) (fun x hx=>he x (by simp[hx])),<-he f (by simp)];exact h
  |builtin b =>
   simp only[Call.operands]at he;simp only at h⊢;rw[<-jq (l:=args) (fun x hx=>he x (by simp[hx]))];exact h
theorem Ys{mu mu':Mu}(hm:MuLe mu mu'){p:AV}{n:Nat}{cs:List AV}(h:ye mu p n=some cs):ye mu' p n=some cs:=by
 unfold ye at *
 split at h
 .exact h
 .split at h
  .rename_i hb;rw[hm _ _ hb];exact h
  .exact absurd h (by simp)
 .exact absurd h (by simp)
theorem UP{P:Program}{mu mu':Mu}(hm:MuLe mu mu'){t:TypeId}{p z:AV}(h:yR P mu t p=some z):yR P mu' t p=some z:=by
 unfold yR at *
 split at h
 .rename_i n e1 e2
  cases hq:ye mu p n with
  |none=>rw[hq]at h;exact absurd h (by simp)
  |some cs=>rw[hq]at h;rw[Ys hm hq];exact h
 .cases hq:ye mu p 1 with
  |none=>rw[hq]at h;exact absurd h (by simp)
  |some cs=>rw[hq]at h;rw[Ys hm hq];exact h
 .exact absurd h (by simp)
theorem UQ{mu mu':Mu}(hm:MuLe mu mu'){m:AV}{es:List (AV×AV)}(h:yr mu m=some es):yr mu' m=some es:=by
 unfold yr at *
 split at h
 .exact h
 .split at h
  .rename_i hb;rw[hm _ _ hb];exact h
  .exact absurd h (by simp)
 .exact h
 .exact absurd h (by simp)
theorem Yt{P:Program}{mu mu':Mu}(hm:MuLe mu mu'){t:TypeId}{m k z:AV}{ok:Bool}(h:zC P mu t m k ok=some z):zC P mu' t m k ok=some z:=by
 unfold zC at *
 split at h
 .rename_i e1 e2
  rw[e1,UQ hm e2];exact h
 .exact absurd h (by simp)
theorem UR{P:Program}{mu mu':Mu}(hm:MuLe mu mu'){t:TypeId}{m k z:AV}{ok:Bool}(h:zY P mu t m k ok=some z):zY P mu' t m k ok=some z:=by
 cases m with
 |ims es =>
  simp only[zY]at h⊢;cases ht:mapT P t with
  |none=>rw[ht]at h;exact absurd h (by simp)
  |some q =>
   rw[ht]at h;simp only at h⊢;split at h
   .rename_i ho
    rw[if_pos ho];exact Yt hm h
   .exact absurd h (by simp)
 |_=>exact Yt hm h
theorem US{mu mu':Mu}(hm:MuLe mu mu'){x z:AV}(h:jH mu x=some z):jH mu' x=some z:=by
 unfold jH at *
 split at h
 .split at h
  .rename_i hb;rw[hm _ _ hb];exact h
  .exact absurd h (by simp)
 .exact absurd h (by simp)
theorem UT{P:Program}{mu mu':Mu}(hm:MuLe mu mu'){t:TypeId}{x z:AV}(h:lenA P mu t x=some z):lenA P mu' t x=some z:=by
 unfold lenA at *
 split at h
 .exact h
 .exact h
 .exact h
 .exact h
 .exact h
 .split at h
  .rename_i e1 e2;rw[e1,hm _ _ e2];exact h
  .exact absurd h (by simp)
 .exact absurd h (by simp)
theorem UU{P:Program}{mu mu':Mu}(hm:MuLe mu mu'){b:Builtin}{ts:Array TypeId}{xs:List AV}{z:AV}(h:yU P mu b ts xs=some z):yU P mu' b ts xs=some z:=by
 unfold yU at *
 split at h
 .exact UT hm h
 .exact h
 .exact h
 .exact h
 .exact absurd h (by simp)
theorem Rd.le{mu mu':Mu}(hm:MuLe mu mu'){x y:AV}(h:Rd mu x y):Rd mu' x y:=by
 induction h with
 |hf x h=>exact .hf x h
 |sl b sz off len cells ys hc hl hn hz h ih=>exact .sl b sz off len cells ys (hm _ _ hc) hl hn hz ih
 |ptr b off cells ys hc hn h ih=>exact .ptr b off cells ys (hm _ _ hc) hn ih
 |mp b es fs hc hn hk hv ih1 ih2=>exact .mp b es fs (hm _ _ hc) hn ih1 ih2
 |md b es fs hc hn hk hv ih1 ih2=>exact .md b es fs (hm _ _ hc) hn ih1 ih2
 |agg xs ys hn h ih=>exact .agg xs ys hn ih
 |tup xs ys hn h ih=>exact .tup xs ys hn ih
 |lst full xs ys hn hz h ih=>exact .lst full xs ys hn hz ih
 |fn f a b c d hn hm' h h' ih1 ih2=>exact .fn f a b c d hn hm' ih1 ih2
 |ifc t x y h ih=>exact .ifc t x y ih
 |wk x full ys h ih=>exact .wk x full ys ih
 |ims x es es' σ τ hp hd h ih=>exact .ims x es es' σ τ hp hd ih
theorem Rds.le{mu mu':Mu}(hm:MuLe mu mu'):∀{xs ys:List AV},Rds mu xs ys->Rds mu' xs ys
 | [],[],_=>trivial
 |x :: xs,y :: ys,⟨h,t⟩=>⟨h.le hm,Rds.le hm t⟩
 | [],_ :: _,h=>h.elim
 |_ :: _,[],h=>h.elim
theorem vU.le{P:Program}{mu mu':Mu}(hm:MuLe mu mu'){f:AV}{args:List AV}{v:AV}(h:vU P mu f args v):vU P mu' f args v:=by
 rcases h with ⟨g,first,caps,args',h1,h2,h3⟩|⟨g,first,caps,args',h1,h2,h3⟩
 .refine .inl ⟨g,first,caps,args',h1,h2,?_⟩
  rcases h3 with h3|⟨h3,h4⟩
  .exact .inl h3
  .exact .inr ⟨h3.le hm,h4⟩
 .exact .inr ⟨g,first,caps,args',h1,h2,h3.le hm⟩
theorem DS.le{P:Program}{pl:Pol}{o:Oper}{ev:Operand->AV}{mu mu':Mu}{v:AV}{m:Mu}(hr:reads pl o=true)(hm:MuLe mu mu')(h:DS P pl o ev mu v m):DS P pl o ev mu' v mu':=by
 unfold reads at hr;rw[qe,Bool.not_eq_true']at hr;obtain⟨hr,hw⟩:=hr;unfold DS at *
 unfold memR at hr;unfold memW at hw;cases ho:o.op<;>rw[ho]at h hr hw<;>simp only[qk]at h⊢<;>try (first | (exact h.elim) | (exfalso;simp at hr;done))
 case load=>obtain⟨z,h1,h2⟩:=h;exact⟨z,UP hm h1,h2.1,by first|rfl|trivial⟩
 case lookup=>obtain⟨z,h1,h2⟩:=h;exact⟨z,UR hm h1,h2.1,by first|rfl|trivial⟩
 case entry=>obtain⟨z,h1,h2⟩:=h;exact⟨z,US hm h1,h2.1,by first|rfl|trivial⟩
 case call c =>
  obtain⟨callee,args,ats⟩:=c;cases callee with
  |invoke r m=>exact h.elim
  |value f =>
   rcases h with ⟨v,h1,h2⟩|⟨h1,_⟩
   .exact .inl ⟨v,h1.le hm,h2.1,by first|rfl|trivial⟩
   .exact absurd h1 (by simp)
  |builtin b =>
   cases b<;>simp only at h hw⊢<;>first
    | (obtain⟨z,h1,h2⟩:=h;exact⟨z,UU hm h1,h2.1,by first|rfl|trivial⟩)
    | (exact absurd hw (by simp))
theorem DS.push{P:Program}{pl:Pol}{o:Oper}{ev:Operand->AV}{mu:Mu}{v:AV}{m:Mu}(hp:Qh pl o=true)(h:DS P pl o ev mu v m):MuLe mu m:=by
 unfold DS at *
 unfold Qh at hp;cases ho:o.op<;>rw[ho]at h hp<;>simp only[qk]at h<;>try (first | (exact h.elim) | (exfalso;simp at hp;done))
 case alloc=>obtain⟨z,h1,h2,h3,h4⟩:=h;rw[<-h4];exact .push _ _
 case box =>
  obtain⟨h1,h2⟩:=h;simp only at hp;rw[if_pos hp]at h2;rw[<-h2.2];exact .push _ _
 case makeSlice =>
  obtain⟨z,h1,h2,h3⟩:=h;rw[<-h3];unfold j4 at h1;split at h1
  .split at h1
   .split at h1
    .simp only[qb]at h1
     rw[<-h1];exact .push _ _
    .exact absurd h1 (by simp)
   .exact absurd h1 (by simp)
  .exact absurd h1 (by simp)
 case makeMap=>obtain⟨h0,h1,h2⟩:=h;rw[<-h2];exact .push _ _
end Go.Ev
namespace Go.Ev
open Go Go.RowKit
theorem Yu{pl:Pol}{o:Oper}(h:reads pl o=true):memW pl o=false:=by
 unfold reads at h;rw[qe,Bool.not_eq_true']at h;exact h.2
theorem UV{pl:Pol}{o:Oper}(h:reads pl o=true):memR o=true:=by
 unfold reads at h;rw[qe]at h;exact h.1
theorem UW{pl:Pol}{o:Oper}(h:memW pl o=true):reads pl o=false:=by
 unfold reads;rw[h];simp
theorem UX{pl:Pol}{a b:Oper}(h:reads pl a=false):soft pl a b=false:=by
 unfold soft;rw[h];simp only[Bool.false_and,Bool.or_false];split
 .rename_i ho _
  unfold reads memR memW at h;rw[ho]at h;exact absurd h (by simp)
 .rfl
theorem UY{P:Program}{pl:Pol}{a b:Oper}(h:soft pl a b=true){ev ev':Operand->AV}{mu m:Mu}{v v':AV}(hb:DS P pl b ev' mu v' m)(ha:DS P pl a ev mu v mu):DS P pl a ev m v m:=by
 unfold soft at h;rw[yc]at h;rcases h with h|h
 .split at h
  .rename_i t mo ko t' mo' ko' h1 h2
   have ht:=beq_iff_eq.1 h;subst ht;unfold DS at *
   rw[h1]at ha⊢;rw[h2]at hb;simp only[qk]at ha hb⊢;obtain⟨z,hz,hv,_⟩:=ha;obtain⟨y,hy,_,hm⟩:=hb;obtain⟨y1,y2⟩:=y;simp only at hm;subst hm;exact⟨z,Ux hy hz,hv,by first|rfl|trivial⟩
  .exact absurd h (by simp)
 .rw [qe]at h
  exact ha.le h.1 (hb.push h.2)
section
variable (P:Program) (pl:Pol) (ops:Array Oper)
def zR(st:St)(o:Oper)(st':St):Prop:=
 ∃ b,qX ops st o=some b/\(b=true->∃ v m,DS P pl o st.ev st.mu v m/\st'=st.put o.dst v m)/\(b=false->st'=st.put o.dst (.sc undef) st.mu)
theorem Qi{Q:St->Prop}{Qp:AV->St->Prop}:∀(l:List Oper) (st:St),awpS P pl true ops l Q Qp st ->
  ∃ stf:Nat->St,stf 0=st/\Q (stf l.length)/\∀(i:Nat) (o:Oper),l[i]?=some o->zR P pl ops (stf i) o (stf (i+1)):=by
 intro l;induction l with
 |nil=>intro st h;exact⟨fun _=>st,rfl,h,by simp⟩
 |cons o l ih =>
  intro st h;obtain⟨b,hb,h1,h2⟩:=h;have key:∀ st':St,awpS P pl true ops l Q Qp st'->zR P pl ops st o st'->∃ stf:Nat->St,stf 0=st/\Q (stf (o :: l).length)/\∀(i:Nat) (x:Oper),(o :: l)[i]?=some x->zR P pl ops (stf i) x (stf (i+1)):=by
   intro st' hst' hok;obtain⟨stf,e0,hq,hs⟩:=ih st' hst';refine⟨fun i=>match i with|0=>st|k+1=>stf k,rfl,hq,fun i x hx=>?_⟩;cases i with
   |zero=>simp at hx;subst hx;simp only[e0];exact hok
   |succ i=>exact hs i x (by simpa using hx)
  cases b with
  |true =>
   obtain⟨v,m,hd,hk⟩:=qk.det (h1 rfl);exact key _ hk ⟨true,hb,fun _=>⟨v,m,hd,rfl⟩,fun h=>absurd h (by simp)⟩
  |false=>exact key _ (h2 rfl) ⟨false,hb,fun h=>absurd h (by simp),fun _=>rfl⟩
variable (po:Array Oper)
def yg(k:Nat):Option Tmp:=(po[k]?).bind (·.dst)
def wAt(k:Nat):Bool:=(po[k]?).any (memW pl)
def Sst(stf:Nat->St)(S:List Nat):Nat->St
 | 0=>stf 0
 |k+1=>if k∈S then ⟨fun t=>if yg po k=some t then (stf (k+1)).tm t else (Sst stf S k).tm t,if wAt pl po k=true then (stf (k+1)).mu else (Sst stf S k).mu⟩ else Sst stf S k
variable {P pl ops po}
theorem zb{st:St}{d:Option Tmp}{v:AV}{m:Mu}{t:Tmp}(h:d≠some t):(st.put d v m).tm t=st.tm t:=by
 cases d with
 |none=>rfl
 |some d =>
  simp only[St.put];rw[if_neg (fun e=>h (by rw[e]))]
theorem zR.frame{st st':St}{o:Oper}(h:zR P pl ops st o st'){t:Tmp}(ht:o.dst≠some t):st'.tm t=st.tm t:=by
 obtain⟨b,_,h1,h2⟩:=h;cases b with
 |true=>obtain⟨v,m,_,rfl⟩:=h1 rfl;exact zb ht
 |false=>rw[h2 rfl];exact zb ht
theorem zR.mem{st st':St}{o:Oper}(h:zR P pl ops st o st')(hw:memW pl o=false):st'.mu=st.mu:=by
 obtain⟨b,_,h1,h2⟩:=h;cases b with
 |true=>obtain⟨v,m,hd,rfl⟩:=h1 rfl;exact(hd.mem hw).1
 |false=>rw[h2 rfl];rfl
variable {stf:Nat->St}
theorem UZ(hs:∀(i:Nat) (o:Oper),po[i]?=some o->zR P pl ops (stf i) o (stf (i+1))){k:Nat}(hk:k<po.size){t:Tmp}(h:yg po k≠some t):(stf (k+1)).tm t=(stf k).tm t:=by
 have ho:po[k]?=some po[k]:=by simp[hk]
 exact(hs k _ ho).frame (by unfold yg at h;rw[ho]at h;exact h)
theorem Yv(hs:∀(i:Nat) (o:Oper),po[i]?=some o->zR P pl ops (stf i) o (stf (i+1))){k:Nat}(hk:k<po.size)(h:wAt pl po k=false):(stf (k+1)).mu=(stf k).mu:=by
 have ho:po[k]?=some po[k]:=by simp[hk]
 exact(hs k _ ho).mem (by unfold wAt at h;rw[ho]at h;exact h)
theorem Qj(hs:∀(i:Nat) (o:Oper),po[i]?=some o->zR P pl ops (stf i) o (stf (i+1)))(S:List Nat)(t:Tmp)(j:Nat)(h1:∀ k,k<j->yg po k=some t->k∈S)(h2:∀ k,j<=k->k<po.size->yg po k=some t->k ∉ S) :
  ∀ m,m<=po.size->(Sst pl po stf S m).tm t=(stf (min m j)).tm t:=by
 intro m;induction m with
 |zero=>intro _;simp[Sst]
 |succ m ih =>
  intro hm;have ih:=ih (by omega);simp only[Sst];by_cases hd:yg po m=some t
  .by_cases hj:m<j
   .rw [if_pos (h1 m hj hd)]
    simp only[if_pos hd];rw[Nat.min_eq_left (by omega)]
   .rw [if_neg (h2 m (by omega) (by omega) hd),ih,Nat.min_eq_right (by omega),Nat.min_eq_right (by omega)]
  .have e:(if m∈S then (⟨fun t=>if yg po m=some t then (stf (m+1)).tm t else (Sst pl po stf S m).tm t,if wAt pl po m=true then (stf (m+1)).mu else (Sst pl po stf S m).mu⟩:St) else Sst pl po stf S m).tm t=(Sst pl po stf S m).tm t:=by
    split
    .simp only[if_neg hd]
    .rfl
   rw[e,ih];by_cases hj:m<j
   .rw [Nat.min_eq_left (by omega),Nat.min_eq_left (by omega),UZ hs (by omega) hd]
   .rw [Nat.min_eq_right (by omega),Nat.min_eq_right (by omega)]
theorem uO(hs:∀(i:Nat) (o:Oper),po[i]?=some o->zR P pl ops (stf i) o (stf (i+1)))(S:List Nat)(j:Nat)(h1:∀ k,k<j->wAt pl po k=true->k∈S)(h2:∀ k,j<=k->k<po.size->wAt pl po k=true->k ∉ S) :
  ∀ m,m<=po.size->(Sst pl po stf S m).mu=(stf (min m j)).mu:=by
 intro m;induction m with
 |zero=>intro _;simp[Sst]
 |succ m ih =>
  intro hm;have ih:=ih (by omega);simp only[Sst];by_cases hd:wAt pl po m=true
  .by_cases hj:m<j
   .rw [if_pos (h1 m hj hd)]
    simp only[if_pos hd];rw[Nat.min_eq_left (by omega)]
   .rw [if_neg (h2 m (by omega) (by omega) hd),ih,Nat.min_eq_right (by omega),Nat.min_eq_right (by omega)]
  .have e:(if m∈S then (⟨fun t=>if yg po m=some t then (stf (m+1)).tm t else (Sst pl po stf S m).tm t,if wAt pl po m=true then (stf (m+1)).mu else (Sst pl po stf S m).mu⟩:St) else Sst pl po stf S m).mu=(Sst pl po stf S m).mu:=by
    split
    .simp only[if_neg hd]
    .rfl
   rw[e,ih];by_cases hj:m<j
   .rw [Nat.min_eq_left (by omega),Nat.min_eq_left (by omega),Yv hs (by omega) (by simpa using hd)]
   .rw [Nat.min_eq_right (by omega),Nat.min_eq_right (by omega)]
theorem U0(S:List Nat)(t:Tmp)(j:Nat)(hd:yg po j≠some t):∀ m,(Sst pl po stf (S++[j]) m).tm t=(Sst pl po stf S m).tm t:=by
 intro m;induction m with
 |zero=>rfl
 |succ m ih =>
  simp only[Sst];by_cases hm:m∈S
  .rw [if_pos (by simp[hm]),if_pos hm]
   simp only[ih]
  .by_cases hmj:m=j
   .subst hmj
    rw[if_pos (by simp),if_neg hm];simp only[if_neg hd,ih]
   .rw [if_neg (by simp[hm,hmj]),if_neg hm,ih]
theorem U1(S:List Nat)(j:Nat)(hd:wAt pl po j=false):∀ m,(Sst pl po stf (S++[j]) m).mu=(Sst pl po stf S m).mu:=by
 intro m;induction m with
 |zero=>rfl
 |succ m ih =>
  simp only[Sst];by_cases hm:m∈S
  .rw [if_pos (by simp[hm]),if_pos hm]
   simp only[ih]
  .by_cases hmj:m=j
   .subst hmj
    rw[if_pos (by simp),if_neg hm];rw[hd];simp only[Bool.false_eq_true,if_false,ih]
   .rw [if_neg (by simp[hm,hmj]),if_neg hm,ih]
def OrdC(pl:Pol)(ops po:Array Oper)(L:List Nat):Prop:=∀(i k:Nat) x y,i<k->po[i]?=some x->po[k]?=some y->q8 pl ops x y=true->Bef L i k
theorem Qk(hs:∀(i:Nat) (o:Oper),po[i]?=some o->zR P pl ops (stf i) o (stf (i+1))){ro:Ro}{G0:Gh}{mu0:Mu}{w0:World}{n:Nat}(s0:Sim G0 mu0 w0.heap)(idx:Nat->Nat)(hidx:∀ k,k<po.size->ops[idx k]?=po[k]?)(hdst:(po.toList.all fun o=>dOk n o.dst)=true){QQ:Exit->Act->World->Prop}
    (hQ:∀ a w G,Rel ro G0 mu0 w0 n G (stf po.size) a w->QQ .normal a w) :
    ∀(post pre:List Nat) (a:Act) (w:World) (G:Gh),OrdC pl ops po (pre++post)->(pre++post).length=po.size->(∀ k,k∈pre++post->k<po.size)->(pre++post).Nodup ->
      Rel ro G0 mu0 w0 n G (Sst pl po stf pre po.size) a w->wpOpsIn (WF ro) 0 P ops QQ (post.map idx) a w:=by
  intro post;induction post with
  |nil =>
    intro pre a w G ht hlen hlt hnd r;simp only[y5]at ht hlen hlt hnd;simp only[List.map_nil,wpOpsIn];refine hQ a w G ?_;have hall:∀ i,i<po.size->i∈pre:=by
      intro i hi;refine y7 fun h=>?_
      have h1:(i :: pre).length<=(qg po.size).length:=yQ (yB.2 ⟨h,hnd⟩) (fun k hk=>by
        rcases qz.1 hk with rfl|hk
        · simpa using hi
        · simpa using (hlt k hk))
      simp at h1;omega
    have e:Sst pl po stf pre po.size=stf po.size:=by
      have e1:(Sst pl po stf pre po.size).tm=(stf po.size).tm:=by
        funext t;rw[Qj hs pre t po.size (fun k hk _=>hall k hk) (fun k h1 h2 _=>absurd h2 (by omega)) po.size (qu _),Nat.min_self]
      have e2:(Sst pl po stf pre po.size).mu=(stf po.size).mu:=by
        rw[uO hs pre po.size (fun k hk _=>hall k hk) (fun k h1 h2 _=>absurd h2 (by omega)) po.size (qu _),Nat.min_self]
      cases hq:Sst pl po stf pre po.size;cases hq':stf po.size;rw[hq,hq']at e1 e2;simp only at e1 e2;rw[e1,e2]
    rw[<-e];exact r
  |cons j post ih =>
    intro pre a w G ht hlen hlt hnd r;have hj:j<po.size:=hlt j (by simp);have hjp:j ∉ pre:=fun h=>by
      rw[jz]at hnd;exact hnd.2.2 j h j (by simp) rfl
    have ho:po[j]?=some po[j]:=by simp[hj]
    generalize hoj:po[j]=o at ho;have hdj:dOk n o.dst=true:=qt.1 hdst o (by have:=Array.mem_of_getElem? ho;simpa using this)
    have before:∀(k:Nat) (x:Oper),k<j->po[k]?=some x->q8 pl ops x o=true->k∈pre:=fun k x hk hx hc=>ht k j x o hk hx ho hc pre post rfl
    have inpre:∀(i k:Nat) (x y:Oper),i<k->po[i]?=some x->po[k]?=some y->q8 pl ops x y=true->k∈pre->i∈pre:=by
      intro i k x y hik hx hy hc hk;obtain⟨p,q,e⟩:=List.append_of_mem hk;have:=ht i k x y hik hx hy hc p (q++j :: post) (by rw[e];simp);rw[e];simp[this]
    have after:∀(k:Nat) (x:Oper),j<k->po[k]?=some x->q8 pl ops o x=true->k ∉ pre:=fun k x hk hx hc hkp=>hjp (inpre j k o x hk ho hx hc hkp)
    have dstEq:∀ k t,yg po k=some t->∃ x,po[k]?=some x/\x.dst=some t:=by
      intro k t h;unfold yg at h;cases hx:po[k]? with
      |none=>rw[hx]at h;exact absurd h (by simp)
      |some x=>rw[hx]at h;exact⟨x,rfl,h⟩
    have wEq:∀ k,wAt pl po k=true->∃ x,po[k]?=some x/\memW pl x=true:=by
      intro k h;unfold wAt at h;cases hx:po[k]? with
      |none=>rw[hx]at h;exact absurd h (by simp)
      |some x=>rw[hx]at h;exact⟨x,rfl,h⟩
    have noj:∀ k (x:Oper),po[k]?=some x->j<=k->k≠j->j<k:=fun k x _ h1 h2=>by omega
    have tmEq:∀ t,t∈yu ops o->(Sst pl po stf pre po.size).tm t=(stf j).tm t:=by
      intro t htr;rw[Qj hs pre t j ?_ ?_ po.size (qu _),Nat.min_eq_right (by omega)]
      · intro k hk hd
        obtain⟨x,hx,hxd⟩:=dstEq k t hd;exact before k x hk hx (by simp[q8,hxd,htr])
      · intro k hk1 hk2 hd
        by_cases hkj:k=j
        · subst hkj;exact hjp
        · obtain⟨x,hx,hxd⟩:=dstEq k t hd
          exact after k x (by omega) hx (by simp[q8,hxd,htr])
    have muEq:(memW pl o||memR o)=true->reads pl o=false->(Sst pl po stf pre po.size).mu=(stf j).mu:=by
      intro hm hnl;rw[uO hs pre j ?_ ?_ po.size (qu _),Nat.min_eq_right (by omega)]
      · intro k hk hd
        obtain⟨x,hx,hxw⟩:=wEq k hd;refine before k x hk hx ?_;simp only[q8,hxw,hm,Bool.and_self,Bool.true_or]
      · intro k hk1 hk2 hd
        by_cases hkj:k=j
        · subst hkj;exact hjp
        · obtain⟨x,hx,hxw⟩:=wEq k hd
          refine after k x (by omega) hx ?_;have hsf:=UX (b:=x) hnl;simp only[q8,hxw,hsf,Bool.true_or,Bool.and_true,Bool.not_false];simp only[yc]at hm⊢;rcases hm with hm|hm
          · exact .inl (.inl (.inl hm))
          · exact .inl (.inl (.inr hm))
    have lookEq:reads pl o=true->∀(ev:Operand->AV) v m,DS P pl o ev (stf j).mu v m->DS P pl o ev (Sst pl po stf pre po.size).mu v (Sst pl po stf pre po.size).mu:=by
      intro hlk ev v m hds;have hjw:memW pl o=false:=Yu hlk;have hjr:memR o=true:=UV hlk;have bef:∀ k,k<j->wAt pl po k=true->k∈pre:=by
        intro k hk hd;obtain⟨x,hx,hxw⟩:=wEq k hd;refine before k x hk hx ?_;simp only[q8,hxw,hjr,Bool.or_true,Bool.and_self,Bool.true_or]
      obtain⟨J,hJ1,hJ2,hJ3,hJ4⟩:∃ J,j<=J/\J<=po.size/\(∀ k,k<J->wAt pl po k=true->k∈pre)/\(∀ k,J<=k->k<po.size->wAt pl po k=true->k ∉ pre):=by
        have down:∀ d,d<=po.size-j->(∀ k,po.size-d<=k->k<po.size->wAt pl po k=true->k ∉ pre) \/
            ∃ J,j<=J/\J<=po.size/\(∀ k,k<J->wAt pl po k=true->k∈pre)/\(∀ k,J<=k->k<po.size->wAt pl po k=true->k ∉ pre):=by
          intro d;induction d with
          |zero=>intro _;exact .inl (fun k h1 h2 _=>absurd h2 (by omega))
          |succ d ihd =>
            intro hd;rcases ihd (by omega) with h|h
            · by_cases hw:wAt pl po (po.size-(d+1))=true/\(po.size-(d+1))∈pre
              · obtain⟨hw1,hw2⟩:=hw
                refine .inr ⟨po.size-d,by omega,by omega,fun k hk hkw=>?_,fun k h1 h2 h3=>h k h1 h2 h3⟩;by_cases hke:k=po.size-(d+1)
                · rw[hke];exact hw2
                · obtain⟨x,hx,hxw⟩:=wEq k hkw
                  obtain⟨y,hy,hyw⟩:=wEq _ hw1;exact inpre k _ x y (by omega) hx hy (by simp only[q8,hxw,hyw,Bool.true_or,Bool.and_self]) hw2
              · refine .inl (fun k h1 h2 h3 h4=>?_)
                by_cases hke:k=po.size-(d+1)
                · rw[hke]at h3 h4;exact hw ⟨h3,h4⟩
                · exact h k (by omega) h2 h3 h4
            · exact .inr h
        rcases down (po.size-j) (qu _) with h|h
        · exact⟨j,qu _,by omega,bef,fun k h1 h2 h3=>h k (by omega) h2 h3⟩
        · exact h
      have hmu:(Sst pl po stf pre po.size).mu=(stf J).mu:=by
        rw[uO hs pre J hJ3 hJ4 po.size (qu _),Nat.min_eq_right (by omega)]
      have chain:∀ m',j<=m'->m'<=J->∀ v m,DS P pl o ev (stf j).mu v m->DS P pl o ev (stf m').mu v (stf m').mu:=by
        intro m';induction m' with
        | zero =>
                  intro h1 _ v m h;have:j=0:=by omega
                  subst this;have:=(h.mem hjw).1;rw[this]at h;exact h
        |succ m' ihm =>
          intro h1 h2 v m h;by_cases he:j=m'+1
          · rw[<-he];have:=(h.mem hjw).1;rw[this]at h;exact h
          · have hprev:=ihm (by omega) (by omega) v m h
            by_cases hw:wAt pl po m'=true
            · have hmp:=hJ3 m' (by omega) hw
              obtain⟨x,hx,hxw⟩:=wEq m' hw;have hjm:j≠m':=fun e=>by rw[<-e]at hmp;exact hjp hmp
              have hsoft:soft pl o x=true:=by
                refine Decidable.byContradiction fun hns=>after m' x (by omega) hx ?_ hmp
                simp only[q8,hjr,hxw,Bool.not_eq_true]at hns⊢;simp[hns]
              obtain⟨b',hb',hb1',hb2'⟩:=hs m' x hx;cases b' with
              |true =>
                obtain⟨v',m2,hd',hst'⟩:=hb1' rfl;rw[hst'];have:((stf m').put x.dst v' m2).mu=m2:=by cases x.dst<;>rfl
                rw[this];exact UY hsoft hd' hprev
              | false =>
                         rw[hb2' rfl];have:((stf m').put x.dst (.sc undef) (stf m').mu).mu=(stf m').mu:=by cases x.dst<;>rfl
                         rw[this];exact hprev
            · have:=Yv hs (k:=m') (by omega) (by simpa using hw)
              rw[this];exact hprev
      rw[hmu];exact chain J hJ1 (qu _) v m hds
    have newTm:∀ t,o.dst=some t->(Sst pl po stf (pre++[j]) po.size).tm t=(stf (j+1)).tm t:=by
      intro t hdt;rw[Qj hs (pre++[j]) t (j+1) ?_ ?_ po.size (qu _),Nat.min_eq_right (by omega)]
      · intro k hk hd
        by_cases hkj:k=j
        · subst hkj;simp
        · obtain⟨x,hx,hxd⟩:=dstEq k t hd
          exact qy.2 (.inl (before k x (by omega) hx (by simp[q8,hxd,hdt])))
      · intro k hk1 hk2 hd hkm
        obtain⟨x,hx,hxd⟩:=dstEq k t hd;rcases qy.1 hkm with h|h
        · exact after k x (by omega) hx (by simp[q8,hxd,hdt]) h
        · simp at h;omega
    have newMu:memW pl o=true->(Sst pl po stf (pre++[j]) po.size).mu=(stf (j+1)).mu:=by
      intro hm;rw[uO hs (pre++[j]) (j+1) ?_ ?_ po.size (qu _),Nat.min_eq_right (by omega)]
      · intro k hk hd
        by_cases hkj:k=j
        · subst hkj;simp
        · obtain⟨x,hx,hxw⟩:=wEq k hd
          exact qy.2 (.inl (before k x (by omega) hx (by simp[q8,hxw,hm])))
      · intro k hk1 hk2 hd hkm
        obtain⟨x,hx,hxw⟩:=wEq k hd;rcases qy.1 hkm with h|h
        · exact after k x (by omega) hx (by simp[q8,hxw,hm]) h
        · simp at h;omega
    have djo:yg po j=o.dst:=by unfold yg;rw[ho];rfl
    have wjo:wAt pl po j=memW pl o:=by unfold wAt;rw[ho];rfl
    have newSt:∀(v:AV) (m:Mu),(∀ t,o.dst=some t->v=(stf (j+1)).tm t)->(memW pl o=true->m=(stf (j+1)).mu)->(memW pl o=false->m=(Sst pl po stf pre po.size).mu) ->
        (Sst pl po stf pre po.size).put o.dst v m=Sst pl po stf (pre++[j]) po.size:=by
      intro v m h1 h2 h3;have e1:((Sst pl po stf pre po.size).put o.dst v m).tm=(Sst pl po stf (pre++[j]) po.size).tm:=by
        funext t;by_cases hdt:o.dst=some t
        · rw[newTm t hdt,<-h1 t hdt,hdt];simp[St.put]
        · rw[zb hdt,U0 pre t j (by rw[djo];exact hdt)]
      have e2:((Sst pl po stf pre po.size).put o.dst v m).mu=(Sst pl po stf (pre++[j]) po.size).mu:=by
        cases hm:memW pl o with
        |true=>rw[newMu hm];exact h2 hm
        |false=>rw[U1 pre j (by rw[wjo];exact hm)];exact h3 hm
      cases hq:(Sst pl po stf pre po.size).put o.dst v m;cases hq':Sst pl po stf (pre++[j]) po.size;rw[hq,hq']at e1 e2;simp only at e1 e2;rw[e1,e2]
    obtain⟨b,hb,hb1,hb2⟩:=hs j o ho;have hbw:qX ops (Sst pl po stf pre po.size) o=some b:=by
      rw[<-hb];unfold qX;cases hg:o.guard with
      |none=>rfl
      |some q =>
        obtain⟨k,want⟩:=q;simp only;cases hd:(ops[k]?).bind (·.dst) with
        |none=>rfl
        |some d =>
          simp only;rw[tmEq d (by simp[yu,hg,hd])]
    have hwant:=uL r hbw;have hdput:∀{st:St} {v:AV} {m:Mu} {t:Tmp},o.dst=some t->(st.put o.dst v m).tm t=v:=by
      intro st v m t h;rw[h];simp[St.put]
    simp only[List.map_cons,wpOpsIn,hidx j hj,ho,hwant];cases b with
    |false =>
      rw[if_neg (by simp)];have hst:=hb2 rfl;have e:=newSt (.sc undef) (Sst pl po stf pre po.size).mu (fun t h=>by rw[hst];exact(hdput h).symm) (fun h=>by rw[hst,muEq (by simp[h]) (UW h)];rfl) (fun _=>rfl);refine⟨fun _ _=>trivial,ih (pre++[j]) _ _ G (by simpa using ht) (by simpa using hlen) (by simpa using hlt) (by simpa using hnd) ?_⟩;rw[<-e];exact r.put s0 (Stp.refl r.stp.sim) (.sc _ rfl) hdj
    |true =>
      rw[if_pos rfl];obtain⟨v,m,hds,hst⟩:=hb1 rfl;have hevs:∀ x,x∈o.op.operands->(stf j).ev x=(Sst pl po stf pre po.size).ev x:=by
        intro x hx;cases x with
        |tmp t =>
          refine(tmEq t ?_).symm;simp only[yu,vW,qy,List.mem_filterMap];exact .inl ⟨.tmp t,by simpa using hx,rfl⟩
        |const v=>rfl
        |global g=>rfl
        |func f=>rfl
      have hds':=hds.congr hevs;have:∃ m',DS P pl o (Sst pl po stf pre po.size).ev (Sst pl po stf pre po.size).mu v m'/\(memW pl o=true->m'=m)/\(memW pl o=false->m'=(Sst pl po stf pre po.size).mu):=by
        by_cases hlk:reads pl o=true
        · exact⟨_,lookEq hlk _ _ _ hds',fun h=>by rw[Yu hlk]at h;exact absurd h (by simp),fun _=>rfl⟩
        simp only[Bool.not_eq_true]at hlk;by_cases hm:(memW pl o||memR o)=true
        · rw[muEq hm hlk]
          refine⟨m,hds',fun _=>rfl,fun h=>(hds'.mem h).1⟩
        · simp only[yc,not_or,Bool.not_eq_true]at hm
          exact⟨_,(hds'.mem hm.1).2 hm.2 _,fun h=>by rw[hm.1]at h;exact absurd h (by simp),fun _=>rfl⟩
      obtain⟨m',hd3,hm1,hm2⟩:=this;have e:=newSt v m' (fun t h=>by rw[hst];exact(hdput h).symm) (fun h=>by rw[hm1 h,hst];rfl) hm2;refine j9 r.stp.sim r.ev hd3 ?_ ?_
      · rintro v' mu' G' w' u ⟨rfl,rfl⟩ hstp hv
        refine ih (pre++[j]) _ _ G' (by simpa using ht) (by simpa using hlen) (by simpa using hlt) (by simpa using hnd) ?_;rw[<-e];exact r.put s0 hstp hv hdj
      · intro _ _ _ _ _ h;exact h.elim
end
theorem Ql{pl:Pol}{po:Array Oper}{stf:Nat->St}:∀ m,Sst pl po stf [] m=stf 0:=by
 intro m;induction m with
 |zero=>rfl
 |succ m ih=>simp only[Sst];rw[if_neg (by simp)];exact ih
theorem Yw{P:Program}{pl:Pol}{ops:Array Oper}{ro:Ro}{G0:Gh}{mu0:Mu}{w0:World}{n:Nat}(s0:Sim G0 mu0 w0.heap)(hdst:(ops.toList.all fun o=>dOk n o.dst)=true)
  {Q:St->Prop} {Qp:AV->St->Prop} {QQ:Exit->Act->World->Prop} (hQ:∀ st a w G,Q st->Rel ro G0 mu0 w0 n G st a w->QQ .normal a w) {st:St} {a:Act} {w:World} {G:Gh} (r:Rel ro G0 mu0 w0 n G st a w)
  (L:List Nat) (hlen:L.length=ops.size) (hlt:∀ k,k∈L->k<ops.size) (hnd:L.Nodup) (hord:OrdC pl ops ops L)
  (h:awpS P pl true ops ops.toList Q Qp st):wpOpsIn (WF ro) 0 P ops QQ L a w:=by
 obtain⟨stf,e0,hq,hs⟩:=Qi P pl ops ops.toList st h;have hs':∀(i:Nat) (o:Oper),ops[i]?=some o->zR P pl ops (stf i) o (stf (i+1)):=fun i o ho=>hs i o (by simpa using ho)
 have:=Qk hs' s0 (fun i=>i) (fun k _=>rfl) hdst (fun a w G r=>hQ _ a w G (by simpa using hq) r) L [] a w G hord hlen hlt hnd (by rw[Ql,e0];exact r);simpa using this
def yJ:Nat->Oper->List Oper->List Oper
 |d+1,x,y :: l=>y :: yJ d x l
 |_,x,l=>x :: l
def zZ:Nat->Nat->List Oper->List Oper
 | 0,d,x :: l=>yJ d x l
 |n+1,d,x :: l=>x :: zZ n d l
 |_,_,[]=>[]
def mvI(a b k:Nat):Nat:=if k<a then k else if k<b then k+1 else if k=b then a else k
def mvP(a b i:Nat):Nat:=if i<a then i else if i=a then b else if i<=b then i-1 else i
theorem U2{a b:Nat}(h:a<=b)(k:Nat):mvI a b (mvP a b k)=k:=by
 unfold mvP;split
 .unfold mvI;rw[if_pos ‹_›]
 .split
  .unfold mvI;rw[if_neg (by omega),if_neg (by omega),if_pos rfl];omega
  .split
   .unfold mvI;rw[if_neg (by omega),if_pos (by omega)];omega
   .unfold mvI;rw[if_neg (by omega),if_neg (by omega),if_neg (by omega)]
theorem U3{a b:Nat}(h:a<=b)(k:Nat):mvP a b (mvI a b k)=k:=by
 unfold mvI;split
 .unfold mvP;rw[if_pos ‹_›]
 .split
  .unfold mvP;rw[if_neg (by omega),if_neg (by omega),if_pos (by omega)];omega
  .split
   .unfold mvP;rw[if_neg (by omega),if_pos rfl];omega
   .unfold mvP;rw[if_neg (by omega),if_neg (by omega),if_neg (by omega)]
theorem Yx:∀(d:Nat) (x:Oper) (l:List Oper),(yJ d x l).length=l.length+1
 | 0,x,l=>by simp[yJ]
 |d+1,x,[]=>by simp[yJ]
 |d+1,x,y :: l=>by simp[yJ,Yx d x l]
theorem Yy:∀(d:Nat) (x:Oper) (l:List Oper) (k:Nat),d<=l.length->(yJ d x l)[k]?=if k<d then l[k]? else if k=d then some x else l[k-1]?
 | 0,x,l,k,h=>by
  cases k with
  |zero=>simp[yJ]
  |succ k=>simp[yJ]
 |d+1,x,[],k,h=>by simp at h
 |d+1,x,y :: l,k,h=>by
  cases k with
  |zero=>simp[yJ]
  |succ k =>
   simp only[yJ,y6];rw[Yy d x l k (by simpa using h)];by_cases h1:k<d
   .simp [h1]
   .by_cases h2:k=d
    .simp [h2]
    .obtain ⟨m,rfl⟩:∃ m,k=m+1:=⟨k-1,by omega⟩
     simp[h1,h2]
theorem Qm:∀(a d:Nat) (l:List Oper),(zZ a d l).length=l.length
 | 0,d,x :: l=>by simp[zZ,Yx]
 |n+1,d,x :: l=>by simp[zZ,Qm n d l]
 | 0,d,[]=>rfl
 |n+1,d,[]=>rfl
theorem Yz:∀(a d:Nat) (l:List Oper) (k:Nat),a+d<l.length->(zZ a d l)[k]?=l[mvI a (a+d) k]?
 | 0,d,[],k,h=>by simp at h
 |n+1,d,[],k,h=>by simp at h
 | 0,d,x :: l,k,h=>by
  simp only[zZ];rw[Yy d x l k (by simp at h;omega)];unfold mvI;by_cases h1:k<d
  .simp [h1]
  .by_cases h2:k=d
   .simp [h2]
   .obtain ⟨m,rfl⟩:∃ m,k=m+1:=⟨k-1,by omega⟩
    simp[h1,h2]
 |n+1,d,x :: l,k,h=>by
  cases k with
  |zero=>simp[zZ,mvI]
  |succ k =>
   simp only[zZ,y6];rw[Yz n d l k (by simp at h;omega)];have:mvI (n+1) (n+1+d) (k+1)=mvI n (n+d) k+1:=by
    unfold mvI;rw[show n+1+d=n+d+1 by omega];simp only[Nat.add_lt_add_iff_right,Nat.add_right_cancel_iff];split
    .rfl
    .split
     .rfl
     .split<;>rfl
   rw[this,y6]
theorem U4{F:Fence}{n:Nat}{P:Program}{o:Oper}{a:Act}{K K':Act->World->Prop}{Q Q':Exit->Act->World->Prop}{res:Result Next}(hK:∀ a w,K a w->K' a w)(hp:∀ ch a w,Q (.panic ch) a w->Q' (.panic ch) a w)(ho:LetsOut Q->LetsOut Q')
  (h:o.uponIn F n P a K Q res):o.uponIn F n P a K' Q' res:=by
 cases res with
 |halt why w=>cases why<;>first|exact h.elim|exact hp _ _ _ h
 |ok nx w =>
  cases nx
  case value v=>exact hK _ _ h
  case skip=>exact hK _ _ h
  case defer d=>exact hK _ _ h
  case enter f args =>
   refine⟨h.1,h.2.1,fun cs hr=>?_⟩;obtain⟨e,w',fr,hR,rest⟩:=h.2.2 cs hr;refine⟨e,w',fr,?_,rest⟩;cases e with
   |returned v=>exact hK _ _ hR
   |panicked ch=>exact hp _ _ _ hR
   |outgrown=>exact ho hR
  case row row args=>exact⟨h.1,h.2.mono fun _ _ hr=>hK _ _ hr⟩
  case round l f tmps aas body =>
   refine⟨h.1,RoundIn.mono h.2 fun e w' hR=>?_⟩;cases e with
   |returned v=>exact hK _ _ hR
   |panicked ch=>exact hp _ _ _ hR
   |outgrown=>exact ho hR
  all_goals exact h.elim
theorem uP{F:Fence}{n:Nat}{P:Program}{ops:Array Oper}{QQ:Exit->Act->World->Prop}:∀(L1 L2:List Nat) (a:Act) (w:World),wpOpsIn F n P ops (Exit.then (wpOpsIn F n P ops QQ L2) QQ) L1 a w->wpOpsIn F n P ops QQ (L1++L2) a w
 | [],L2,a,w,h=>h
 |i :: L1,L2,a,w,h=>by
  simp only[wpOpsIn,z9]at h⊢;cases ho:ops[i]? with
  |none =>
   rw[ho]at h;exact uP L1 L2 a w h
  |some o =>
   rw[ho]at h;simp only at h⊢;split
   .rename_i hw
    rw[if_pos hw]at h;exact⟨h.1,U4 (fun a w hk=>uP L1 L2 a w hk) (fun ch a w hq=>hq) (fun⟨a,w,hq⟩=>⟨a,w,hq⟩) h.2⟩
   .rename_i hw
    rw[if_neg hw]at h;exact⟨h.1,uP L1 L2 _ w h.2⟩
theorem YI(n:Nat):∀(d:Nat) (L:List Nat),L.length=n+d->(∀ k,k∈L->k<n+d)->L.Nodup->(∀ j,n<=j->j<n+d->∀ i,i<j->Bef L i j)->∃ L1,L=L1++List.range' n d/\L1.length=n
 | 0,L,h1,_,_,_=>⟨L,by simp,by simpa using h1⟩
 |d+1,L,h1,h2,h3,h4=>by
  have hall:∀ i,i<n+(d+1)->i∈L:=by
   intro i hi;refine y7 fun h=>?_
   have h1:(i :: L).length<=(qg (n+(d+1))).length:=yQ (yB.2 ⟨h,h3⟩) (fun k hk=>by
    rcases qz.1 hk with rfl|hk
    .simpa using hi
    .simpa using (h2 k hk))
   simp at h1;omega
  obtain⟨p,q,e⟩:=List.append_of_mem (hall (n+d) (by omega));have hp:∀ i,i<n+d->i∈p:=fun i hi=>h4 (n+d) (by omega) (by omega) i hi p q e
  have hpl:n+d<=p.length:=by
   have:(qg (n+d)).length<=p.length:=yQ List.nodup_range (fun k hk=>hp k (by simpa using hk));simpa using this
  have hq:q=[]:=by
   have:=congrArg List.length e;simp at this;exact yn (by omega)
  subst hq;rw[e]at h3;have hnd:p.Nodup:=(jz.1 h3).1;have hnp:n+d ∉ p:=fun h=>(jz.1 h3).2.2 _ h _ (by simp) rfl
  obtain⟨L1,hL1,hl1⟩:=YI n d p (by have:=congrArg List.length e;simp at this;omega) (fun k hk=>by
   have:=h2 k (by rw[e];simp[hk]);have hne:k≠n+d:=fun h=>hnp (h ▸ hk)
   omega) hnd (fun j hj1 hj2 i hi pre post e2=>by
   refine h4 j hj1 (by omega) i hi pre (post++[n+d]) ?_;rw[e,e2];simp)
  exact⟨L1,by rw[e,hL1,List.range'_concat];simp,hl1⟩
def Qn(pl:Pol)(ops:Array Oper)(n:Nat):Bool:=
 zh ops&&decide (n<=ops.size)&&(let ms:=yI ops.toList [];(qg ops.size).all fun j=>(qg j).all fun i=>(if n<=j then (ms.getD j 0).testBit i else
  match ops[i]?,ops[j]? with|some a,some b=>!q8 pl ops a b||(ms.getD j 0).testBit i|_,_=>true))
def YJ(P:Program)(pl:Pol)(ops:Array Oper)(Q:St->Prop)(Qp:AV->St->Prop)(st:St):Prop:=
 (vX pl ops=true/\awpS P pl true ops ops.toList Q Qp st) \/
 (∃ a d,uM pl ops a (a+d)=true/\0<d/\a+d<ops.toList.length/\awpS P pl true ops ops.toList Q Qp st/\awpS P pl true ops (zZ a d ops.toList) Q Qp st) \/
 (∃ n,Qn pl ops n=true/\awpS P pl true ops (ops.toList.take n) (fun st=>awpS P pl false ops (ops.toList.drop n) Q Qp st) Qp st)
theorem U5{P:Program}{pl:Pol}{ops:Array Oper}{ro:Ro}{G0:Gh}{mu0:Mu}{w0:World}{n:Nat}(s0:Sim G0 mu0 w0.heap)(hdst:(ops.toList.all fun o=>dOk n o.dst)=true)
  {Q:St->Prop} {Qp:AV->St->Prop} {QQ:Exit->Act->World->Prop} (hQ:∀ st a w G,Q st->Rel ro G0 mu0 w0 n G st a w->QQ .normal a w)
  (hQp:∀ v st a w G u,Qp v st->Rel ro G0 mu0 w0 n G st a w->VRel G w.heap v u->QQ (.panic [{ v:=u,recovered:=false }]) a w) {st:St} {a:Act} {w:World} {G:Gh} (r:Rel ro G0 mu0 w0 n G st a w)
  (h:YJ P pl ops Q Qp st) (mixed:Bool) (t:Nat):wpOpsIn (WF ro) 0 P ops QQ (Region.schedule mixed ops t) a w:=by
 have main:∀(hedge:zh ops=true),Topo ops (Region.schedule mixed ops t)/\(Region.schedule mixed ops t).length=ops.size/\(∀ k,k∈Region.schedule mixed ops t->k<ops.size)/\(Region.schedule mixed ops t).Nodup:=by
  intro hedge;obtain⟨h1,h2⟩:=Qd hedge mixed t;obtain⟨h3,h4⟩:=Topo.closed hedge _ _ rfl h1;exact⟨h1,h2,fun k hk=>(h3 k hk).1,h4⟩
 rcases h with ⟨hok,h⟩|⟨a0,d,hok,hd,hlt0,hA,hB⟩|⟨m,hok,hA⟩
 .obtain ⟨hedge,hcl⟩:=UN hok
  obtain⟨h1,h2,h3,h4⟩:=main hedge;exact Yw s0 hdst hQ r _ h2 h3 h4 (fun i k x y hik hx hy hc=>h1.bef hedge (hcl i k x y hik hx hy hc)) h
 .obtain ⟨hedge,hcl,hcl2⟩:=UO hok
  obtain⟨h1,h2,h3,h4⟩:=main hedge;generalize Region.schedule mixed ops t=L at *
  have hall:∀ i,i<ops.size->i∈L:=by
   intro i hi;refine y7 fun h=>?_
   have h1:(i :: L).length<=(qg ops.size).length:=yQ (yB.2 ⟨h,h4⟩) (fun k hk=>by
    rcases qz.1 hk with rfl|hk
    .simpa using hi
    .simpa using (h3 k hk))
   simp at h1;omega
  have hsz:a0+d<ops.size:=by simpa using hlt0
  rcases Bef.total (hall a0 (by omega)) (hall (a0+d) hsz) (by omega) with hb|hb
  .refine Yw s0 hdst hQ r _ h2 h3 h4 (fun i k x y hik hx hy hc=>?_) hA
   by_cases he:i=a0/\k=a0+d
   .rw [he.1,he.2];exact hb
   .exact h1.bef hedge (hcl i k x y hik he hx hy hc)
  .obtain ⟨stf,e0,hq,hs⟩:=Qi P pl ops (zZ a0 d ops.toList) st hB
   have hget:∀ k:Nat,(zZ a0 d ops.toList).toArray[k]?=ops[mvI a0 (a0+d) k]?:=by
    intro k;have:=Yz a0 d ops.toList k hlt0;simpa using this
   have hpsz:(zZ a0 d ops.toList).toArray.size=ops.size:=by simp[Qm]
   have hs':∀(i:Nat) (o:Oper),(zZ a0 d ops.toList).toArray[i]?=some o->zR P pl ops (stf i) o (stf (i+1)):=fun i o ho=>hs i o (by simpa using ho)
   have e1:∀ k,mvI a0 (a0+d) (mvP a0 (a0+d) k)=k:=U2 (by omega);have e2:∀ k,mvP a0 (a0+d) (mvI a0 (a0+d) k)=k:=U3 (by omega);have hsw:∀ k,k<ops.size->mvP a0 (a0+d) k<ops.size:=by
    intro k hk;unfold mvP;split
    .exact hk
    .split
     .exact hsz
     .split<;>omega
   have key:=Qk (QQ:=QQ) hs' s0 (mvI a0 (a0+d)) (fun k _=>(hget k).symm) ?_ (fun a w G r=>hQ _ a w G (by simpa using hq) r) (L.map (mvP a0 (a0+d))) [] a w G ?_ (by simpa[Qm] using h2) ?_ ?_ (by rw[Ql,e0];exact r)
   .simpa [List.map_map,Function.comp_def,e1] using key
   .rw [qt]at hdst⊢
    intro o ho;obtain⟨k,hk⟩:=List.mem_iff_getElem?.1 ho;have:ops[mvI a0 (a0+d) k]?=some o:=by rw[<-hget];simpa using hk
    exact hdst o (by have:=Array.mem_of_getElem? this;simpa using this)
   .simp only[jY]
    intro i k x y hik hx hy hc p q e;rw[hget]at hx hy;have hbk:Bef L (mvI a0 (a0+d) i) (mvI a0 (a0+d) k):=by
     by_cases hk:k=a0+d
     .have ek:mvI a0 (a0+d) k=a0:=by unfold mvI;rw[if_neg (by omega),if_neg (by omega),if_pos hk]
      rw[ek]at hy⊢;by_cases hi:i<a0
      .have ei:mvI a0 (a0+d) i=i:=by unfold mvI;rw[if_pos hi]
       rw[ei]at hx⊢;exact h1.bef hedge (hcl i a0 x y hi (by omega) hx hy hc)
      .have ei:mvI a0 (a0+d) i=i+1:=by unfold mvI;rw[if_neg hi,if_pos (by omega)]
       rw[ei]at hx⊢;by_cases hib:i+1=a0+d
       .rw [hib];exact hb
       .rw [hcl2 (i+1) x y (by omega) (by omega) hx hy]at hc
        exact absurd hc (by simp)
     .by_cases hi:i=a0+d
      .have ei:mvI a0 (a0+d) i=a0:=by unfold mvI;rw[if_neg (by omega),if_neg (by omega),if_pos hi]
       have ek:mvI a0 (a0+d) k=k:=by unfold mvI;rw[if_neg (by omega),if_neg (by omega),if_neg hk]
       rw[ei]at hx⊢;rw[ek]at hy⊢;exact h1.bef hedge (hcl a0 k x y (by omega) (by omega) hx hy hc)
      .have hlt:mvI a0 (a0+d) i<mvI a0 (a0+d) k:=by
        unfold mvI;rw[if_neg hk,if_neg hi];split<;>split<;>(try split)<;>(try split)<;>omega
       have hna:mvI a0 (a0+d) i≠a0:=by
        unfold mvI;rw[if_neg hi];split
        .omega
        .split<;>omega
       exact h1.bef hedge (hcl _ _ x y hlt (fun h=>hna h.1) hx hy hc)
    have e':L=p.map (mvI a0 (a0+d))++mvI a0 (a0+d) k :: q.map (mvI a0 (a0+d)):=by
     have:=congrArg (List.map (mvI a0 (a0+d))) e;simpa[List.map_map,Function.comp_def,e1] using this
    have:=hbk _ _ e';obtain⟨z,hz,hzz⟩:=qr.1 this;have:z=i:=by have:=congrArg (mvP a0 (a0+d)) hzz;rwa[e2,e2]at this
    exact this ▸ hz
   .intro k hk
    simp only[jY,qr]at hk;obtain⟨z,hz,rfl⟩:=hk;rw[hpsz];exact hsw z (h3 z hz)
   .simp only[jY]
    exact List.Pairwise.map _ (fun x y hxy e=>hxy (by have:=congrArg (mvI a0 (a0+d)) e;rwa[e1,e1]at this)) h4
 .unfold Qn at hok
  rw[qe,qe,decide_eq_true_eq]at hok;obtain⟨⟨hedge,hmN⟩,hcl⟩:=hok;obtain⟨h1,h2,h3,h4⟩:=main hedge;generalize Region.schedule mixed ops t=L at *
  simp only[qt,yD]at hcl;have htl:∀ j,m<=j->j<m+(ops.size-m)->∀ i,i<j->Bef L i j:=by
   intro j hj1 hj2 i hi;have:=hcl j (by omega) i hi;rw[if_pos hj1]at this;exact h1.bef hedge this
  obtain⟨L1,hL,hl1⟩:=YI m (ops.size-m) L (by omega) (fun k hk=>by have:=h3 k hk;omega) h4 htl;have hnd1:L1.Nodup:=by rw[hL]at h4;exact(jz.1 h4).1
  have hlt1:∀ k,k∈L1->k<m:=by
   intro k hk;have hkN:=h3 k (by rw[hL];simp[hk]);refine y7 fun hge=>?_
   rw[hL]at h4;exact(jz.1 h4).2.2 k hk k (by simp[List.mem_range'];exact⟨k-m,by omega,by omega⟩) rfl
  rw[hL];refine uP L1 _ a w ?_;obtain⟨stf,e0,hq,hs⟩:=Qi P pl ops (ops.toList.take m) st hA;have hpsz:(ops.toList.take m).toArray.size=m:=by simp;omega
  have hget:∀ k,k<m->(ops.toList.take m).toArray[k]?=ops[k]?:=by
   intro k hk;simp[zu,hk]
  have hs':∀(i:Nat) (o:Oper),(ops.toList.take m).toArray[i]?=some o->zR P pl ops (stf i) o (stf (i+1)):=fun i o ho=>hs i o (by simpa using ho)
  have key:=Qk (QQ:=Exit.then (wpOpsIn (WF ro) 0 P ops QQ (List.range' m (ops.size-m))) QQ) hs' s0 (fun i=>i) (fun k hk=>(hget k (by omega)).symm) ?_ (fun a w G r=>?_) L1 [] a w G ?_ (by simpa[hpsz] using hl1) (fun k hk=>by rw[hpsz];exact hlt1 k (by simpa using hk)) (by simpa using hnd1) (by rw[Ql,e0];exact r)
  .simpa using key
  .rw [qt]at hdst⊢
   intro o ho;exact hdst o (yb (by simpa using ho))
  .have hq':awpS P pl false ops (ops.toList.drop m) Q Qp (stf (ops.toList.take m).toArray.size):=by simpa using hq
   have hsnd:=Qg s0 hQ hQp (ops.toList.drop m) _ a w G r (by
    rw[qt]at hdst⊢;intro o ho;exact hdst o (List.mem_of_mem_drop ho)) hq'
   have e:wpOpsIn (WF ro) 0 P ops QQ (List.range' m (ops.size-m))=wpListIn (WF ro) 0 P ops QQ (ops.toList.drop m):=by
    have:=wpOpsIn_eq_wpListIn (F:=WF ro) (n:=0) (P:=P) (ops:=ops) (Q:=QQ) (ops.toList.drop m) m (fun j=>by simp);simpa using this
   show wpOpsIn (WF ro) 0 P ops QQ (List.range' m (ops.size-m)) a w;rw[e];exact hsnd
  .simp only[jY]
   intro i k x y hik hx hy hc pre post e;have hk:k<m:=by have:=(qR.1 hy).1;omega
   rw[hget i (by omega)]at hx;rw[hget k hk]at hy;have hbit:=hcl k (by omega) i hik;rw[if_neg (by omega),hx,hy]at hbit;simp only[hc,Bool.not_true,Bool.false_or]at hbit;exact h1.bef hedge hbit pre (post++List.range' m (ops.size-m)) (by rw[hL,e];simp)
end Go.Ev
namespace Go.Ev
open Go Go.RowKit
theorem qk.congr{P:Program}{pl:Pol}{det:Bool}{dst:Option Tmp}{op:Op}{ev ev':Operand->AV}{mu:Mu}{K Kp:AV->Mu->Prop}(h:qk P pl det dst op ev mu K Kp)(he:∀ x,x∈op.operands->ev x=ev' x):qk P pl det dst op ev' mu K Kp:=by
 cases op<;>simp only[qk,Op.operands]at h he⊢<;>try (exact h.elim)
 case move x=>rw[<-he x (by simp)];exact h
 case assign x=>rw[<-he x (by simp)];exact h
 case makeFunc f first caps =>
  rw[<-jq (l:=first) (fun x hx=>he x (by simp[hx])),<-jq (l:=caps) (fun x hx=>he x (by simp[hx]))];exact h
 case pick c x y=>rw[<-he c (by simp),<-he x (by simp),<-he y (by simp)];exact h
 case alloc=>exact h
 case box t x=>rw[<-he x (by simp)];exact h
 case build t ps=>rw[<-uN he];exact h
 case buildSlice t n ps=>rw[<-uN he];exact h
 case load t x=>rw[<-he x (by simp)];exact h
 case store t x y=>rw[<-he x (by simp),<-he y (by simp)];exact h
 case nilCheck x=>rw[<-he x (by simp)];exact h
 case binOp op t x y yt=>rw[<-he x (by simp),<-he y (by simp)];exact h
 case unOp op t x=>rw[<-he x (by simp)];exact h
 case convert s t x=>rw[<-he x (by simp)];exact h
 case makeInterface t x=>rw[<-he x (by simp)];exact h
 case makeSlice t x y=>rw[<-he x (by simp),<-he y (by simp)];exact h
 case slice t x lo hi mx =>
  rw[<-he x (by simp),<-vd (o:=lo) (fun y hy=>he y (by simp only[Array.mem_append];exact .inl (.inl (.inr hy)))),
   <-vd (o:=hi) (fun y hy=>he y (by simp only[Array.mem_append];exact .inl (.inr hy))),<-vd (o:=mx) (fun y hy=>he y (by simp only[Array.mem_append];exact .inr hy))]
  exact h
 case fieldAddr t x f=>rw[<-he x (by simp)];exact h
 case field t x f=>rw[<-he x (by simp)];exact h
 case indexAddr t x i=>rw[<-he x (by simp),<-he i (by simp)];exact h
 case index t x i=>rw[<-he x (by simp),<-he i (by simp)];exact h
 case extract x i=>rw[<-he x (by simp)];exact h
 case typeAssert x xt t ok=>rw[<-he x (by simp)];exact h
 case makeMap=>exact h
 case lookup t m k ok=>rw[<-he m (by simp),<-he k (by simp)];exact h
 case mapUpdate t m k v=>rw[<-he m (by simp),<-he k (by simp),<-he v (by simp)];exact h
 case insert t m k v=>rw[<-he m (by simp),<-he k (by simp),<-he v (by simp)];exact h
 case mapEntry t m k=>rw[<-he m (by simp),<-he k (by simp)];exact h
 case entryStore t m k v=>rw[<-he m (by simp),<-he k (by simp),<-he v (by simp)];exact h
 case range t m=>rw[<-he m (by simp)];exact h
 case next i str=>rw[<-he i (by simp)];exact h
 case entry i=>rw[<-he i (by simp)];exact h
 case panic x=>rw[<-he x (by simp)];exact h
 case call c =>
  obtain⟨callee,args,ats⟩:=c;cases callee with
  |invoke r m=>exact h.elim
  |value f =>
   simp only[Call.operands]at he;simp only at h⊢;rw[<-jq (l:=args) (fun x hx=>he x (by simp[hx])),<-he f (by simp)];exact h
  |builtin b =>
   simp only[Call.operands]at he;simp only at h⊢;rw[<-jq (l:=args) (fun x hx=>he x (by simp[hx]))];exact h
def YK(o:Oper):Bool:=
 match o.op with
 | .call c=>match c.callee with | .builtin .len | .builtin .cap | .builtin .min | .builtin .max=>false|_=>true
 | .panic _ | .next .. => true
 |_=>false
def yh(pl:Pol)(ops:Array Oper)(X:List Nat):Nat->List Nat
 | 0=>[]
 |n+1 =>
  let T:=yh pl ops X n
  match ops[n]? with
  |some o=>if ((YK o&&!X.contains n)||memW pl o||T.any fun i=>((qL ops n).testBit i)||(match (ops[i]?).bind (·.dst) with|some d=>(yu ops o).contains d|none=>false)) then T++[n] else T
  |none=>T
def qq(ops:Array Oper)(i:Nat):Option Tmp:=(ops[i]?).bind (·.dst)
def qS(ops:Array Oper)(i:Nat)(t:Tmp):Bool:=match ops[i]? with|some o=>(yu ops o).contains t|none=>false
def ve(ops:Array Oper)(i:Nat):Bool:=match ops[i]? with|some o=>memR o|none=>false
def vY(ops:Array Oper)(F:List Nat)(j:Nat):Bool:=F.any fun i=>ve ops i&&!(qL ops j).testBit i
def z1(pl:Pol)(ops:Array Oper)(X:List Nat):List Nat:=(qg ops.size).filter fun i=>!(yh pl ops X ops.size).contains i
def vZ(pl:Pol)(ops:Array Oper)(X:List Nat):Bool:=
 let T:=yh pl ops X ops.size
 let F:=z1 pl ops X
 zh ops&&(ops.toList.all fun o=>o.guard.isNone) &&
 (T.all fun j=>decide (j<ops.size)&&T.all fun i=>!decide (i<j)||(qL ops j).testBit i) &&
 (F.all fun i=>(match ops[i]? with|some o=>!memW pl o|none=>false)&&(match qq ops i with|some d=>(qg ops.size).all fun j=>(i == j||qq ops j != some d)&&(decide (i<j)||!qS ops j d)&&(!decide (i<j)||!qS ops j d||(qL ops j).testBit i)|none=>false)) &&
 (T.all fun j=>match qq ops j with|some d=>F.all fun i=>!qS ops i d|none=>true)
def awpQ(P:Program)(pl:Pol):List (Bool×Oper)->(St->Prop)->(AV->St->Prop)->St->Prop
 | [],Q,_,st=>Q st
 | (q,o) :: l,Q,Qp,st=>qk P pl false o.dst o.op st.ev st.mu (fun v m=>(q=true->m=st.mu)/\awpQ P pl l Q Qp (st.put o.dst v m)) (fun v m=>∀ tm,Qp v ⟨tm,m⟩)
def pick(ops:Array Oper)(l:List Nat):List Oper:=l.filterMap fun i=>ops[i]?
def jr(st:St)(d:Tmp)(mu:Mu):AV->Mu->Prop:=fun v m=>v=st.tm d/\m=mu
def noK:AV->Mu->Prop:=fun _ _=>False
def anyO(P:Program)(pl:Pol)(o:Oper)(st:St):Prop:=∀ mu,qk P pl true o.dst o.op st.ev mu (match o.dst with|some d=>jr st d mu|none=>noK) noK
def anyY(P:Program)(pl:Pol)(ops:Array Oper):List Nat->St->Prop
 | [],_=>True
 |i :: Y,st=>(match ops[i]? with|some o=>anyO P pl o st|none=>True)/\anyY P pl ops Y st
theorem YL{P:Program}{pl:Pol}{ops:Array Oper}{st:St}:∀{Y:List Nat},anyY P pl ops Y st->∀{i:Nat} {o:Oper} {d:Tmp},i∈Y->ops[i]?=some o->o.dst=some d->∀ mu,DS P pl o st.ev mu (st.tm d) mu
 | [],_,i,_,_,hi,_,_=>absurd hi zz
 |j :: Y,h,i,o,d,hi,ho,hd=>fun mu=>by
  obtain⟨h1,h2⟩:=h;rcases qz.1 hi with rfl|hi
  .rw [ho]at h1
   have h1:anyO P pl o st:=h1;have h1:=h1 mu;have e:(match o.dst with|some d=>jr st d mu|none=>noK)=jr st d mu:=by rw[hd]
   rw[e]at h1;exact h1
  .exact YL h2 hi ho hd mu
def anyQ(P:Program)(pl:Pol)(ops:Array Oper)(Y:List Nat)(K:St->Prop):St->Prop:=fun st=>anyY P pl ops Y st/\K st
def butY(F Y:List Nat):List Nat:=F.filter fun i=>!Y.contains i
def YN(P:Program)(pl:Pol)(ops:Array Oper)(Q:St->Prop)(Qp:AV->St->Prop)(st:St):Prop:=
 ∃ X Y,vZ pl ops X=true/\awpS P pl true ops (pick ops (z1 pl ops X)) (anyQ P pl ops Y fun st'=>awpQ P pl ((yh pl ops X ops.size).filterMap fun i=>(ops[i]?).map fun o=>(vY ops (butY (z1 pl ops X) Y) i,o)) Q Qp st') (fun _ _=>False) st
def YO(P:Program)(pl:Pol)(ops:Array Oper)(Q:St->Prop)(Qp:AV->St->Prop)(st:St):Prop:=YJ P pl ops Q Qp st\/YN P pl ops Q Qp st
theorem U6{ops:Array Oper}{i:Nat}{l:List Nat}{o:Oper}(h:ops[i]?=some o):pick ops (i :: l)=o :: pick ops l:=by
 simp[pick,h]
theorem YP{P:Program}{pl:Pol}{ops:Array Oper}{R:St->Prop}{Rp:AV->St->Prop}:∀(Fl:List Nat) (st:St),Fl.Pairwise (·<·) ->
  (∀ i,i∈Fl->∃ o d,ops[i]?=some o/\o.guard=none/\memW pl o=false/\o.dst=some d/\∀ j,j∈Fl->(j<=i->qS ops j d=false)/\(i≠j->qq ops j≠some d)) ->
  awpS P pl true ops (pick ops Fl) R Rp st ->
  ∃ stF,R stF/\stF.mu=st.mu/\(∀ t,(∀ i,i∈Fl->qq ops i≠some t)->stF.tm t=st.tm t)/\∀ i o d,i∈Fl->ops[i]?=some o->o.dst=some d->DS P pl o stF.ev st.mu (stF.tm d) st.mu
 | [],st,_,_,h=>⟨st,h,rfl,fun _ _=>rfl,fun i o d hi=>by simp at hi⟩
 |i :: Fl,st,hp,hf,h=>by
  obtain⟨o,d,ho,hg,hw,hd,hc⟩:=hf i (by simp);rw[Zz]at hp;rw[U6 ho]at h;obtain⟨b,hb,h1,_⟩:=h;have hbt:b=true:=by
   unfold qX at hb;rw[hg]at hb;simpa using hb.symm
  subst hbt;obtain⟨v,m,hds,hk⟩:=qk.det (h1 rfl);obtain rfl:=(hds.mem hw).1;obtain⟨stF,hR,hmu,hfr,hst⟩:=YP Fl (st.put o.dst v st.mu) hp.2 (fun j hj=>by
   obtain⟨o',d',g1,g2,g3,g4,g5⟩:=hf j (by simp[hj]);exact⟨o',d',g1,g2,g3,g4,fun k hk=>g5 k (by simp[hk])⟩) hk
  have hdi:qq ops i=some d:=by simp[qq,ho,hd]
  have hvd:stF.tm d=v:=by
   rw[hfr d (fun j hj=>(hc j (by simp[hj])).2 (fun e=>by have:=hp.1 j hj;omega))];simp[St.put,hd]
  refine⟨stF,hR,hmu,fun t ht=>?_,?_⟩
  .rw [hfr t (fun j hj=>ht j (by simp[hj]))]
   exact zb (fun e=>ht i (by simp) (by rw[hdi,<-hd,e]))
  .intro j o' d' hj ho' hd'
   rcases qz.1 hj with rfl|hj
   .rw [ho]at ho';cases ho'
    rw[hd]at hd';cases hd';rw[hvd];refine hds.congr fun x hx=>?_
    cases x with
    |tmp t =>
     have hread:qS ops j t=true:=by
      simp only[qS,ho,List.contains_iff_mem,yu,vW,qy,List.mem_filterMap];exact .inl ⟨.tmp t,by simpa using hx,rfl⟩
     have hn:∀ k,k∈j :: Fl->qq ops k≠some t:=by
      intro k hk e;obtain⟨o2,d2,q1,q2,q3,q4,q5⟩:=hf k hk;have e2:qq ops k=some d2:=by simp[qq,q1,q4]
      rw[e2]at e;cases e;have hle:j<=k:=by
       rcases qz.1 hk with rfl|hk
       .exact qu _
       .exact Nat.le_of_lt (hp.1 k hk)
      rw[(q5 j (by simp)).1 hle]at hread;exact absurd hread (by simp)
     show st.tm t=stF.tm t;rw[hfr t (fun k hk=>hn k (by simp[hk]))];exact(zb (fun e=>hn j (by simp) (by rw[hdi,<-hd,e]))).symm
    |const v=>rfl
    |global g=>rfl
    |func f=>rfl
   .exact hst j o' d' hj ho' hd'
def qN(ops:Array Oper)(F:List Nat)(st:St)(S:List Nat):St:=⟨fun t=>if (F.any fun i=>!S.contains i&&qq ops i == some t)=true then .any else st.tm t,st.mu⟩
theorem uQ{ops:Array Oper}{F:List Nat}{st:St}{S:List Nat}{t:Tmp}(h:∀ i,i∈F->qq ops i=some t->i∈S):(qN ops F st S).tm t=st.tm t:=by
 unfold qN;simp only;rw[if_neg];intro h2;rw[List.any_eq_true]at h2;obtain⟨i,hi,hc⟩:=h2;simp only[qe,Bool.not_eq_true',beq_iff_eq]at hc;have:=h i hi hc.2;have h3:S.contains i=true:=by simpa using this
 rw[h3]at hc;exact absurd hc.1 (by simp)
theorem YQ{ops:Array Oper}{F:List Nat}{st:St}{S:List Nat}{d:Option Tmp}{v:AV}{m:Mu}{k:Nat}(hd:qq ops k=d)(hF:∀ i,i∈F->i≠k->∀ x,qq ops i=some x->d≠some x):(qN ops F st S).put d v m=qN ops F (st.put d v m) (S++[k]):=by
 have e:((qN ops F st S).put d v m).tm=(qN ops F (st.put d v m) (S++[k])).tm:=by
  funext t;by_cases ht:d=some t
  .subst ht
   have h1:(qN ops F (st.put (some t) v m) (S++[k])).tm t=(st.put (some t) v m).tm t:=uQ fun i hi e=>by
    by_cases hik:i=k
    .simp [hik]
    .exact absurd rfl (by
      have:=hF i hi hik t e;exact this)
   rw[h1];simp[St.put]
  .rw [zb ht]
   unfold qN;simp only;rw[zb ht];have:(F.any fun i=>!(S++[k]).contains i&&qq ops i == some t)=(F.any fun i=>!S.contains i&&qq ops i == some t):=by
    congr 1;funext i;by_cases hik:i=k
    .subst hik
     have:(qq ops i == some t)=false:=by rw[hd];simpa using ht
     simp[this]
    .have:(S++[k]).contains i=S.contains i:=by
      simp[List.contains_iff_mem,hik]
     rw[this]
   rw[this]
 have e2:((qN ops F st S).put d v m).mu=(qN ops F (st.put d v m) (S++[k])).mu:=rfl;cases hq:(qN ops F st S).put d v m;cases hq':qN ops F (st.put d v m) (S++[k]);rw[hq,hq']at e e2;simp only at e e2;rw[e,e2]
structure U7 (pl:Pol) (ops:Array Oper) (F T:List Nat):Prop where
 edges:zh ops=true
 guards:∀(i:Nat) (o:Oper),ops[i]?=some o->o.guard=none
 tlt:∀ j,j∈T->j<ops.size
 tord:∀ i j,i∈T->j∈T->i<j->(qL ops j).testBit i=true
 fw:∀(i:Nat),i∈F->∃(o:Oper) (d:Tmp),ops[i]?=some o/\memW pl o=false/\o.dst=some d
 fd:∀ i d j,i∈F->qq ops i=some d->j<ops.size->(i≠j->qq ops j≠some d)/\(j<=i->qS ops j d=false)/\(i<j->qS ops j d=true->(qL ops j).testBit i=true)
 ft:∀ j d i,j∈T->qq ops j=some d->i∈F->qS ops i d=false
 all:∀ i,i<ops.size->i∈F\/i∈T
 disj:∀ i,i∈F->i ∉ T
 fsort:F.Pairwise (·<·)
 tsort:T.Pairwise (·<·)
theorem YR(pl:Pol)(ops:Array Oper)(X:List Nat):∀ n,(yh pl ops X n).Pairwise (·<·)/\∀ i,i∈yh pl ops X n->i<n
 | 0=>⟨List.Pairwise.nil,by simp[yh]⟩
 |n+1=>by
  obtain⟨h1,h2⟩:=YR pl ops X n;unfold yh;simp only;split
  .split
   .refine ⟨?_,?_⟩
    .rw [List.pairwise_append]
     exact⟨h1,by simp,fun a ha b hb=>by simp at hb;subst hb;exact h2 a ha⟩
    .intro i hi
     rcases qy.1 hi with hi|hi
     .have:=h2 i hi;omega
     .simp at hi;omega
   .exact ⟨h1,fun i hi=>by have:=h2 i hi;omega⟩
  .exact ⟨h1,fun i hi=>by have:=h2 i hi;omega⟩
theorem U8{pl:Pol}{ops:Array Oper}{X:List Nat}(h:vZ pl ops X=true):U7 pl ops (z1 pl ops X) (yh pl ops X ops.size):=by
 unfold vZ at h;simp only[qe]at h;obtain⟨⟨⟨⟨h1,h2⟩,h3⟩,h4⟩,h5⟩:=h;obtain⟨ts,tl⟩:=YR pl ops X ops.size;generalize hT:yh pl ops X ops.size=T at *
 have hF:∀ i,i∈z1 pl ops X↔i<ops.size/\i ∉ T:=by
  intro i;unfold z1;rw[hT,yA];simp
 generalize hFF:z1 pl ops X=F at *
 simp only[qt]at h2 h3 h4 h5;refine⟨h1,?_,tl,?_,?_,?_,?_,?_,?_,?_,ts⟩
 .intro i o ho
  have:=h2 o (by have:=Array.mem_of_getElem? ho;simpa using this);simpa using this
 .intro i j hi hj hij
  have:=h3 j hj;simp only[qe,qt]at this;have:=this.2 i hi;simpa[hij] using this
 .intro i hi
  have:=h4 i hi;rw[qe]at this;obtain⟨g1,g2⟩:=this;cases ho:ops[i]? with
  |none=>rw[ho]at g1;exact absurd g1 (by simp)
  |some o =>
   rw[ho]at g1;cases hd:qq ops i with
   |none=>rw[hd]at g2;exact absurd g2 (by simp)
   |some d=>exact⟨o,d,rfl,by simpa using g1,by simpa[qq,ho] using hd⟩
 .intro i d j hi hd hj
  have:=h4 i hi;rw[qe]at this;have g2:=this.2;rw[hd]at g2;simp only[qt,yD]at g2;have:=g2 j hj;simp only[qe,yc,beq_iff_eq,bne_iff_ne,ne_eq,decide_eq_true_eq,Bool.not_eq_true',decide_eq_false_iff_not]at this;obtain⟨⟨a1,a2⟩,a3⟩:=this;refine⟨fun hne=>a1.resolve_left hne,fun hji=>a2.resolve_left (by omega),fun hij hr=>?_⟩;rcases a3 with (a3|a3)|a3
  .exact absurd hij a3
  .rw [hr]at a3;exact absurd a3 (by simp)
  .exact a3
 .intro j d i hj hd hi
  have:=h5 j hj;rw[hd]at this;simp only[qt]at this;simpa using this i hi
 .intro i hi
  by_cases h:i∈T
  .exact .inr h
  .exact .inl ((hF i).2 ⟨hi,h⟩)
 .intro i hi
  exact((hF i).1 hi).2
 .rw [<-hFF]
  unfold z1;exact List.Pairwise.filter _ (by rw[List.range_eq_range'];exact List.pairwise_lt_range')
theorem U9{P:Program}{pl:Pol}{ops:Array Oper}{ro:Ro}{G0:Gh}{mu0:Mu}{w0:World}{n:Nat}(s0:Sim G0 mu0 w0.heap)(hdst:(ops.toList.all fun o=>dOk n o.dst)=true)
  {Q:St->Prop} {Qp:AV->St->Prop} {QQ:Exit->Act->World->Prop} (hQ:∀ st a w G,Q st->Rel ro G0 mu0 w0 n G st a w->QQ .normal a w)
  (hQp:∀ v st a w G u,Qp v st->Rel ro G0 mu0 w0 n G st a w->VRel G w.heap v u->QQ (.panic [{ v:=u,recovered:=false }]) a w) {st:St} {a:Act} {w:World} {G:Gh} (r:Rel ro G0 mu0 w0 n G st a w)
  (h:YN P pl ops Q Qp st) (mixed:Bool) (t:Nat):wpOpsIn (WF ro) 0 P ops QQ (Region.schedule mixed ops t) a w:=by
 obtain⟨X,Y,hok,h⟩:=h;have K:=U8 hok;obtain⟨h1,h2⟩:=Qd K.edges mixed t;obtain⟨h3,h4⟩:=Topo.closed K.edges _ _ rfl h1;have h3:=fun k hk=>(h3 k hk).1
 generalize Region.schedule mixed ops t=L at *
 generalize z1 pl ops X=F at *
 generalize yh pl ops X ops.size=T at *
 have hall:∀ i,i<ops.size->i∈L:=by
  intro i hi;refine y7 fun hn=>?_
  have hl1:(i :: L).length<=(qg ops.size).length:=yQ (yB.2 ⟨hn,h4⟩) (fun k hk=>by
   rcases qz.1 hk with rfl|hk
   .simpa using hi
   .simpa using (h3 k hk))
  simp at hl1;omega
 have fsz:∀ i,i∈F->i<ops.size:=fun i hi=>by
  obtain⟨o,d,ho,_⟩:=K.fw i hi;exact(qR.1 ho).1
 obtain⟨stF,⟨hY,hq⟩,hmuF,hfr,hst⟩:=YP F st K.fsort (fun i hi=>by
  obtain⟨o,d,g1,g2,g3⟩:=K.fw i hi;have hd:qq ops i=some d:=by simp[qq,g1,g3]
  exact⟨o,d,g1,K.guards i o g1,g2,g3,fun j hj=>⟨(K.fd i d j hi hd (fsz j hj)).2.1,(K.fd i d j hi hd (fsz j hj)).1⟩⟩) h
 have key:∀(post pre:List Nat) (a:Act) (w:World) (G:Gh) (stT:St) (lT:List Nat),L=pre++post->lT.Pairwise (·<·)->(∀ x,x∈lT↔x∈T/\x ∉ pre) ->
   awpQ P pl (lT.filterMap fun i=>(ops[i]?).map fun o=>(vY ops (butY F Y) i,o)) Q Qp stT->(∀ t,(∀ j,j∈T->qq ops j≠some t)->stT.tm t=stF.tm t) ->
   (∀ i,i∈F->i ∉ Y->i ∉ pre->ve ops i=true->stT.mu=st.mu)->Rel ro G0 mu0 w0 n G (qN ops F stT pre) a w->wpOpsIn (WF ro) 0 P ops QQ post a w:=by
  intro post;induction post with
  |nil =>
   intro pre a w G stT lT hL hsort hmem hw htm hmu rr;rw[y5]at hL;subst hL;have:lT=[]:=by
    cases lT with
    |nil=>rfl
    |cons x l =>
     have:=(hmem x).1 (by simp);exact absurd (hall x (K.tlt x this.1)) this.2
   subst this;simp only[wpOpsIn];refine hQ stT a w G hw ?_;have:qN ops F stT L=stT:=by
    have e1:(qN ops F stT L).tm=stT.tm:=by
     funext t;exact uQ fun i hi _=>hall i (fsz i hi)
    cases hs:qN ops F stT L;have e2:(qN ops F stT L).mu=stT.mu:=rfl;rw[hs]at e1 e2;cases stT;simp only at e1 e2;rw[e1,e2]
   rw[this]at rr;exact rr
  |cons k post ih =>
   intro pre a w G stT lT hL hsort hmem hw htm hmu rr;have hk:k<ops.size:=h3 k (by rw[hL];simp);have hnd:(pre++k :: post).Nodup:=by rw[<-hL];exact h4
   have hkp:k ∉ pre:=fun hh=>by
    rw[jz]at hnd;exact hnd.2.2 k hh k (by simp) rfl
   have ho:ops[k]?=some ops[k]:=by simp[hk]
   generalize hok':ops[k]=o at ho;have hg:=K.guards k o ho;have hdk:dOk n o.dst=true:=qt.1 hdst o (by have:=Array.mem_of_getElem? ho;simpa using this);have bef:∀ i,(qL ops k).testBit i=true->i∈pre:=fun i hi=>h1.bef K.edges hi pre post hL
   have hL':L=(pre++[k])++post:=by rw[hL];simp
   have hwant:Region.wanted o (yielded ops a.tmps)=true:=by unfold Region.wanted;rw[hg]
   simp only[wpOpsIn,ho,hwant,if_true];have hrd:∀ x,x∈o.op.operands->∀ t,x = .tmp t->qS ops k t=true:=by
    intro x hx t e;subst e;simp only[qS,ho,List.contains_iff_mem,yu,vW,qy,List.mem_filterMap];exact .inl ⟨.tmp t,by simpa using hx,rfl⟩
   have tmk:∀ t,qS ops k t=true->(qN ops F stT pre).tm t=stT.tm t:=by
    intro t ht;refine uQ fun i hi e=>?_
    have hf:=K.fd i t k hi e hk;by_cases hik:i<k
    .exact bef i (hf.2.2 hik ht)
    .rw [hf.2.1 (by omega)]at ht;exact absurd ht (by simp)
   have hdo:qq ops k=o.dst:=by simp[qq,ho]
   rcases K.all k hk with hkF|hkT
   .obtain ⟨o',d,g1,g2,g3⟩:=K.fw k hkF
    rw[ho]at g1;cases g1;have hds:=hst k o d hkF ho g3;have hcg:∀ m,DS P pl o stF.ev m (stF.tm d) m->DS P pl o (qN ops F stT pre).ev m (stF.tm d) m:=fun m hds=>hds.congr fun x hx=>by
     cases x with
     |tmp t =>
      have hr:=hrd _ hx t rfl;show stF.tm t=(qN ops F stT pre).tm t;rw[tmk t hr,htm t (fun j hj e=>by rw[K.ft j t k hj e hkF]at hr;exact absurd hr (by simp))]
     |const v=>rfl
     |global g=>rfl
     |func f=>rfl
    have hds1:=hcg _ hds;have hds2:DS P pl o (qN ops F stT pre).ev (qN ops F stT pre).mu (stF.tm d) (qN ops F stT pre).mu:=by
     show DS P pl o (qN ops F stT pre).ev stT.mu (stF.tm d) stT.mu;cases hm:memR o with
     |true =>
      by_cases hy:k∈Y
      .exact hcg _ (YL hY hy ho g3 _)
      .rw [hmu k hkF hy hkp (by simp[ve,ho,hm])];exact hds1
     |false=>exact(hds1.mem g2).2 hm _
    refine j9 rr.stp.sim rr.ev hds2 ?_ ?_
    .rintro v' mu' G' w' u ⟨rfl,rfl⟩ hstp hv
     have e:=YQ (ops:=ops) (F:=F) (st:=stT) (S:=pre) (d:=o.dst) (v:=stF.tm d) (m:=stT.mu) (k:=k) hdo (fun i hi hik x hx e=>by
      exact(K.fd i x k hi hx hk).1 hik (by rw[hdo,e]))
     have e3:stT.put o.dst (stF.tm d) stT.mu=stT:=by
      have hdT:stT.tm d=stF.tm d:=htm d (fun j hj e=>by
       have hjk:k≠j:=fun e=>K.disj k hkF (e ▸ hj)
       exact(K.fd k d j hkF (by rw[hdo,g3]) (K.tlt j hj)).1 hjk e)
      have e1:(stT.put o.dst (stF.tm d) stT.mu).tm=stT.tm:=by
       funext t;by_cases ht:o.dst=some t
       .rw [g3]at ht;cases ht
        rw[<-hdT];simp[St.put,g3]
       .exact zb ht
      cases hs:stT.put o.dst (stF.tm d) stT.mu;have e2:(stT.put o.dst (stF.tm d) stT.mu).mu=stT.mu:=rfl;rw[hs]at e1 e2;cases stT;simp only at e1 e2;rw[e1,e2]
     rw[e3]at e;refine ih (pre++[k]) _ _ G' stT lT hL' hsort (fun x=>by
      rw[hmem x];simp only[qy,qV,not_or];exact⟨fun hh=>⟨hh.1,hh.2,fun e=>K.disj k hkF (e ▸ hh.1)⟩,fun hh=>⟨hh.1,hh.2.1⟩⟩) hw htm (fun i hi hiy hip=>hmu i hi hiy (fun hh=>hip (by simp[hh]))) ?_
     rw[<-e];exact rr.put s0 hstp hv hdk
    .intro _ _ _ _ _ hh;exact hh.elim
   .have hkl:k∈lT:=(hmem k).2 ⟨hkT,hkp⟩
    cases lT with
    |nil=>simp at hkl
    |cons j l =>
    rw[Zz]at hsort;have hjT:=(hmem j).1 (by simp);have hjk:j=k:=by
     rcases qz.1 hkl with e|hkl
     .exact e.symm
     .exact absurd (bef j (K.tord j k hjT.1 hkT (hsort.1 k hkl))) hjT.2
    subst hjk;simp only[List.filterMap_cons,ho,qw,awpQ]at hw;have hw2:=hw.congr (ev':=(qN ops F stT pre).ev) (fun x hx=>by
     cases x with
     |tmp t=>exact(tmk t (hrd _ hx t rfl)).symm
     |const v=>rfl
     |global g=>rfl
     |func f=>rfl)
    refine j9 (mu:=(qN ops F stT pre).mu) rr.stp.sim rr.ev hw2 ?_ ?_
    .rintro v m G' w' u ⟨hkeep,hw'⟩ hstp hv
     have e:=YQ (ops:=ops) (F:=F) (st:=stT) (S:=pre) (d:=o.dst) (v:=v) (m:=m) (k:=j) hdo (fun i hi hik x hx e=>by
      exact(K.fd i x j hi hx hk).1 hik (by rw[hdo,e]))
     refine ih (pre++[j]) _ _ G' (stT.put o.dst v m) l hL' hsort.2 (fun x=>?_) hw' (fun t ht=>?_) (fun i hi hiy hip hr=>?_) ?_
     .simp only[qy,qV,not_or]
      constructor
      .intro hx
       have:=(hmem x).1 (by simp[hx]);exact⟨this.1,this.2,fun e=>by have:=hsort.1 x hx;omega⟩
      .rintro ⟨hx1,hx2,hx3⟩
       exact(qz.1 ((hmem x).2 ⟨hx1,hx2⟩)).resolve_left hx3
     .rw [zb (fun e=>ht j hkT (by rw[hdo,e])),htm t ht]
     .show m=st.mu
      have hip':i ∉ pre:=fun hh=>hip (by simp[hh])
      rw[hkeep ?_]
      .exact hmu i hi hiy hip' hr
      .unfold vY
       rw[List.any_eq_true];refine⟨i,yA.2 ⟨hi,by simpa using hiy⟩,?_⟩;rw[hr,Bool.true_and,Bool.not_eq_true',<-Bool.not_eq_true];exact fun hb=>hip' (bef i hb)
     .rw [<-e]
      exact rr.put s0 hstp hv hdk
    .intro v m G' w' u hp hstp hv
     refine hQp v ⟨(qN ops F stT pre).tm,m⟩ a w' G' u (hp _) ?_ hv;exact rr.put (d:=none) s0 hstp (.any undef) rfl
 refine key L [] a w G stF T (by simp) K.tsort (by simp) hq (fun _ _=>rfl) (fun _ _ _ _ _=>hmuF) ?_;have hm:∀ t,(qN ops F stF []).tm t = .any\/(qN ops F stF []).tm t=st.tm t:=by
  intro t;by_cases hc:∃ i,i∈F/\qq ops i=some t
  .left
   obtain⟨i,hi,e⟩:=hc;unfold qN;simp only;rw[if_pos];rw[List.any_eq_true];exact⟨i,hi,by simp[e]⟩
  .right
   rw[uQ (fun i hi e=>absurd ⟨i,hi,e⟩ hc)];exact hfr t fun i hi e=>hc ⟨i,hi,e⟩
 refine⟨fun t=>?_,?_,r.size,?_,r.kp⟩
 .rcases hm t with e|e
  .rw [e];exact .any _
  .rw [e];exact r.tm t
 .show _
  have:(qN ops F stF []).mu=st.mu:=hmuF;rw[this];exact r.df
 .have:(qN ops F stF []).mu=st.mu:=hmuF
  rw[this];exact r.stp
theorem Wa{P:Program}{pl:Pol}{ops:Array Oper}{ro:Ro}{G0:Gh}{mu0:Mu}{w0:World}{n:Nat}(s0:Sim G0 mu0 w0.heap)(hdst:(ops.toList.all fun o=>dOk n o.dst)=true)
  {Q:St->Prop} {Qp:AV->St->Prop} {QQ:Exit->Act->World->Prop} (hQ:∀ st a w G,Q st->Rel ro G0 mu0 w0 n G st a w->QQ .normal a w)
  (hQp:∀ v st a w G u,Qp v st->Rel ro G0 mu0 w0 n G st a w->VRel G w.heap v u->QQ (.panic [{ v:=u,recovered:=false }]) a w) {st:St} {a:Act} {w:World} {G:Gh} (r:Rel ro G0 mu0 w0 n G st a w)
  (h:YO P pl ops Q Qp st) (mixed:Bool) (t:Nat):wpOpsIn (WF ro) 0 P ops QQ (Region.schedule mixed ops t) a w:=by
 rcases h with h|h
 .exact U5 s0 hdst hQ hQp r h mixed t
 .exact U9 s0 hdst hQ hQp r h mixed t
end Go.Ev
namespace Go.Ev
open Go Go.RowKit
def jJ(o:Oper):Bool:=match o.op with | .alloc _=>true|_=>false
def v5(pl:Pol)(o:Oper):Nat:=if jJ o then 2 else if memW pl o||YK o then 1 else 0
def qF(pl:Pol)(ops:Array Oper)(i:Nat):Nat:=match ops[i]? with|some o=>v5 pl o|none=>0
def pend(pl:Pol)(ops:Array Oper)(pre:List Nat)(j:Nat):List Nat:=pre.filter fun p=>qF pl ops p == 0&&(ve ops p&&!(qL ops j).testBit p)
def uR(pl:Pol)(ops:Array Oper):List Nat->List Nat->Bool
 |_,[]=>true
 |pre,j :: O=>(!pre.contains j&&((qg ops.size).all fun i=>match qq ops i with|some d=>!qS ops j d||pre.contains i|none=>true)) &&
   ((qF pl ops j == 2||pre.all fun i=>qF pl ops i == 0||(qL ops j).testBit i)&&uR pl ops (pre++[j]) O)
def v6(pl:Pol)(ops:Array Oper)(O:List Nat):Bool:=
 (zh ops&&(ops.toList.all fun o=>!jJ o||o.guard.isNone))&&((O.all fun i=>decide (i<ops.size))&&((qg ops.size).all fun i=>O.contains i)) &&
 (((qg ops.size).all fun i=>match qq ops i with
  |some d=>(qg ops.size).all fun j=>(i == j||qq ops j != some d)&&(!qS ops j d||(qL ops j).testBit i)
  |none=>qF pl ops i == 1)&&uR pl ops [] O)
structure yW (pl:Pol) (ops:Array Oper) (O:List Nat):Prop where
 edges:zh ops=true
 guards:∀(i:Nat) (o:Oper),ops[i]?=some o->jJ o=true->o.guard=none
 lt:∀ i,i∈O->i<ops.size
 all:∀ i,i<ops.size->i∈O
 du:∀ i j d,i<ops.size->j<ops.size->qq ops i=some d->(i≠j->qq ops j≠some d)/\(qS ops j d=true->(qL ops j).testBit i=true)
 dn:∀ i,i<ops.size->qq ops i=none->qF pl ops i=1
 ord:∀(PO lO:List Nat) (j:Nat),O=PO++j :: lO->j ∉ PO/\(∀ i d,i<ops.size->qq ops i=some d->qS ops j d=true->i∈PO)/\(qF pl ops j≠2->∀ i,i∈PO->qF pl ops i≠0->(qL ops j).testBit i=true)
theorem YT{pl:Pol}{ops:Array Oper}:∀(O pre:List Nat),uR pl ops pre O=true->∀(PO lO:List Nat) (j:Nat),O=PO++j :: lO ->
  j ∉ pre++PO/\(∀ i d,i<ops.size->qq ops i=some d->qS ops j d=true->i∈pre++PO)/\(qF pl ops j≠2->∀ i,i∈pre++PO->qF pl ops i≠0->(qL ops j).testBit i=true)
 | [],pre,h,PO,lO,j,e=>by cases PO<;>simp at e
 |k :: O,pre,h,PO,lO,j,e=>by
  simp only[uR,qe]at h;obtain⟨⟨h1,h2⟩,h3,h4⟩:=h;cases PO with
  |nil =>
   simp only[jY,yF]at e;obtain⟨rfl,rfl⟩:=e;rw[y5];refine⟨by simpa using h1,fun i d hi hd hr=>?_,fun hk i hi hki=>?_⟩
   .rw [qt]at h2
    have:=h2 i (yD.2 hi);rw[hd]at this;simpa[hr] using this
   .rw [yc]at h3
    rcases h3 with h3|h3
    .exact absurd (by simpa using h3) hk
    .rw [qt]at h3
     have:=h3 i hi;rw[yc]at this;rcases this with h|h
     .exact absurd (by simpa using h) hki
     .exact h
  |cons p PO =>
   simp only[z9,yF]at e;obtain⟨rfl,e⟩:=e;have:=YT O (pre++[k]) h4 PO lO j e;simpa using this
theorem Wb{pl:Pol}{ops:Array Oper}{O:List Nat}(h:v6 pl ops O=true):yW pl ops O:=by
 unfold v6 at h;simp only[qe]at h;obtain⟨⟨⟨h1,h2⟩,h3,h4⟩,h5,h6⟩:=h;simp only[qt,yD]at h2 h3 h4 h5;refine⟨h1,fun i o ho ha=>?_,fun i hi=>by simpa using h3 i hi,fun i hi=>by simpa using h4 i hi,fun i j d hi hj hd=>?_,fun i hi hd=>?_,fun PO lO j e=>?_⟩
 .have:=h2 o (by have:=Array.mem_of_getElem? ho;simpa using this)
  rw[ha]at this;simpa using this
 .have:=h5 i hi
  rw[hd]at this;simp only[qt,yD,qe,yc,beq_iff_eq,bne_iff_ne,ne_eq,Bool.not_eq_true']at this;obtain⟨a1,a2⟩:=this j hj;exact⟨fun hne=>a1.resolve_left hne,fun hr=>by
   rcases a2 with a2|a2
   .rw [hr]at a2;cases a2
   .exact a2⟩
 .have:=h5 i hi
  rw[hd]at this;simpa using this
 .have:=YT O [] h6 PO lO j e
  simpa using this
def jK(P:Program)(pl:Pol)(o:Oper)(st:St):Prop:=qk P pl true o.dst o.op st.ev st.mu (match o.dst with|some d=>jr st d st.mu|none=>noK) noK
def yv(P:Program)(pl:Pol)(ops:Array Oper):List Nat->St->Prop
 | [],_=>True
 |p :: l,st=>(match ops[p]? with|some o=>OptK (qX ops st o) fun b=>Br b (jK P pl o st) True|none=>True)/\yv P pl ops l st
theorem Qo{P:Program}{pl:Pol}{ops:Array Oper}{st:St}:∀{l:List Nat},yv P pl ops l st->∀{i:Nat} {o:Oper} {d:Tmp},i∈l->ops[i]?=some o->o.dst=some d->qX ops st o=some true->DS P pl o st.ev st.mu (st.tm d) st.mu
 | [],_,i,_,_,hi,_,_,_=>absurd hi zz
 |j :: l,h,i,o,d,hi,ho,hd,hb=>by
  obtain⟨h1,h2⟩:=h;rcases qz.1 hi with rfl|hi
  .rw [ho]at h1
   obtain⟨b,hb',h1,_⟩:=h1;rw[hb]at hb';have h1:jK P pl o st:=h1 (by cases hb';rfl);unfold jK at h1;have e:(match o.dst with|some d=>jr st d st.mu|none=>noK)=jr st d st.mu:=by rw[hd]
   rw[e]at h1;exact h1
  .exact Qo h2 hi ho hd hb
def plan(pl:Pol)(ops:Array Oper):List Nat->List Nat->List (Nat×Nat×List Nat)
 |_,[]=>[]
 |pre,j :: O=>(j,qF pl ops j,if qF pl ops j=0 then [] else pend pl ops pre j) :: plan pl ops (pre++[j]) O
def yX(P:Program)(ops:Array Oper):List (Nat×Nat×List Nat)->Prop
 | []=>True
 | (j,k,_) :: T=>(match k,ops[j]? with|2,some o=>(match o.op with | .alloc e=>OptK (qn P e) fun z=>z.cells.all AV.one=true|_=>False)|_,_=>True)/\yX P ops T
def awpT(P:Program)(pl:Pol)(ops:Array Oper)(Q:St->Prop)(Qp:AV->St->Prop):List (Nat×Nat×List Nat)->St->Prop
 | [],st=>Q st
 | (j,k,r) :: T,st=>match ops[j]? with
  |none=>False
  |some o=>OptK (qX ops st o) fun b=>Br b (qk P pl (k != 1) o.dst o.op st.ev st.mu (fun v m=>yv P pl ops r (st.put o.dst v m)/\awpT P pl ops Q Qp T (st.put o.dst v m)) (fun v m=>k=1/\∀ tm,Qp v ⟨tm,m⟩)) (awpT P pl ops Q Qp T (st.put o.dst (.sc undef) st.mu))
def SegA(P:Program)(pl:Pol)(ops:Array Oper)(Q:St->Prop)(Qp:AV->St->Prop)(st:St):Prop:=
 ∃ O,v6 pl ops O=true/\yX P ops (plan pl ops [] O)/\awpT P pl ops Q Qp (plan pl ops [] O) st
theorem Rel.reveal{ro:Ro}{G0:Gh}{mu0:Mu}{w0:World}{n:Nat}{G:Gh}{st:St}{a:Act}{w:World}(r:Rel ro G0 mu0 w0 n G st a w){d:Tmp}{b:Nat}{e:TypeId}{zv:Value}(h1:(ofV zv).cells.all AV.one=true)
  (ht:a.tmps.getD d undef = .pointer (some ⟨b,0,none⟩)) (hb:w.heap[b]?=some (.cells zv.cells e)) (hbase:w0.heap.size<=b) (hl:¬Live G st.mu b) (hi:¬G.imm b) :
  Rel ro G0 mu0 w0 n ⟨G.imm,G.blk++[(b,zv.cells.size)]⟩ (st.put (some d) (.ptr st.mu.length 0) (st.mu++[.arr (ofV zv).cells])) a w:=by
 have s:=r.stp.sim;have hlen:=s.len;have hle:G.le ⟨G.imm,G.blk++[(b,zv.cells.size)]⟩:=⟨fun b h=>h,fun i x h=>by
  have:i<G.blk.length:=(qc.1 h).1;show (G.blk++[_])[i]?=_;rw[qh this];exact h⟩
 have he:=Ext.refl G w.heap;have old:∀{i:Nat} {c':Cell} {blk tot:Nat},i<st.mu.length->(G.blk++[(b,zv.cells.size)])[i]?=some (blk,tot)->G.blk[i]?=some (blk,tot):=fun {i c' blk tot} hi hk=>by
  rcases qO hk with ⟨_,h⟩|⟨h,_⟩
  .exact h
  .omega
 have new:∀{i blk tot:Nat},i=st.mu.length->(G.blk++[(b,zv.cells.size)])[i]?=some (blk,tot)->(blk,tot)=(b,zv.cells.size):=fun {i blk tot} hi hk=>by
  rcases qO hk with ⟨h,_⟩|⟨_,h⟩
  .omega
  .exact h
 have hlive:∀ x,Live ⟨G.imm,G.blk++[(b,zv.cells.size)]⟩ (st.mu++[.arr (ofV zv).cells]) x->Live G st.mu x\/x=b:=fun x ⟨i,c',t',hc,hd,hk⟩=>by
  rcases qO hc with ⟨hi,hc'⟩|⟨hi,hc'⟩
  .exact .inl ⟨i,c',t',hc',hd,old (c':=c') hi hk⟩
  .exact .inr (Prod.mk.inj (new hi hk)).1
 have hcell:yp G w.heap zv.cells.size (.cells zv.cells e) (.arr (ofV zv).cells):=by
  have hv:VRel G w.heap (ofV zv) zv:=VRel.ofV zv;obtain⟨hsz,hcells,_⟩:=hv.cells (fun c hc=>by simpa using qt.1 h1 c hc);exact⟨zv.cells,e,rfl,rfl,by omega,fun j y hj=>⟨by simpa using qt.1 h1 y (qC hj),hcells j y hj⟩⟩
 have hsim:Sim ⟨G.imm,G.blk++[(b,zv.cells.size)]⟩ (st.mu++[.arr (ofV zv).cells]) w.heap:=by
  refine⟨by simp[hlen],s.imm,?_,?_,?_,s.tab⟩
  .intro i c' blk tot' hc hd hk
   rcases qO hc with ⟨hi,hc'⟩|⟨hi,hc'⟩
   .obtain ⟨o',q1,q2⟩:=s.obj i c' blk tot' hc' hd (old (c':=c') hi hk)
    exact⟨o',q1,q2.mono hle he⟩
   .obtain ⟨rfl,rfl⟩:=Prod.mk.inj (new hi hk)
    subst hc';exact⟨_,hb,hcell.mono hle he⟩
  .intro i c' blk tot' hc hd hk himm
   rcases qO hc with ⟨hi,hc'⟩|⟨hi',hc'⟩
   .exact s.live i c' blk tot' hc' hd (old (c':=c') hi hk) himm
   .obtain ⟨rfl,rfl⟩:=Prod.mk.inj (new hi' hk)
    exact hi himm
  .intro i j ci cj x ti tj hi' hj' hdi hdj hbi hbj
   rcases qO hi' with ⟨hi1,hi2⟩|⟨hi1,hi2⟩<;>rcases qO hj' with ⟨hj1,hj2⟩|⟨hj1,hj2⟩
   .exact s.inj i j ci cj x ti tj hi2 hj2 hdi hdj (old (c':=ci) hi1 hbi) (old (c':=cj) hj1 hbj)
   .have a:=old (c':=ci) hi1 hbi
    have c:=new hj1 hbj;obtain⟨rfl,_⟩:=Prod.mk.inj c;exact absurd ⟨i,ci,ti,hi2,hdi,a⟩ hl
   .have a:=old (c':=cj) hj1 hbj
    have c:=new hi1 hbi;obtain⟨rfl,_⟩:=Prod.mk.inj c;exact absurd ⟨j,cj,tj,hj2,hdj,a⟩ hl
   .omega
 refine⟨fun t=>?_,fun h=>?_,r.size,⟨r.stp.le.trans hle,hsim,r.stp.keep,r.stp.size,fun x hx=>?_,r.stp.inew,r.stp.tape,r.stp.os,r.stp.output,r.stp.drawn⟩,fun p hp=>(r.kp p hp).mono hle he⟩
 .by_cases e:t=d
  .subst e
   have:(st.put (some t) (.ptr st.mu.length 0) (st.mu++[.arr (ofV zv).cells])).tm t = .ptr st.mu.length 0:=by simp[St.put]
   rw[this,ht];refine .ptr _ _ _ zv.cells.size ?_;show (G.blk++[_])[st.mu.length]?=_;rw[<-hlen];simp
  .rw [zb (fun h=>e (by cases h;rfl))]
   exact(r.tm t).mono hle he
 .obtain ⟨Ds,q1,q2,q3⟩:=r.df h
  refine⟨Ds,q1,q2,fun D hD=>⟨(q3 D hD).1,(q3 D hD).2.obj,fun hx=>?_,(q3 D hD).2.nimm⟩⟩;rcases hlive D hx with hx|rfl
  .exact (q3 D hD).2.nlive hx
  .have:=(q3 D hD).2.obj
   rw[hb]at this;cases this
 .rcases hlive x hx with hx|rfl
  .exact r.stp.live x hx
  .exact .inr hbase
def behind(pl:Pol)(ops:Array Oper)(PO lO pre:List Nat)(t:Tmp):Prop:=(∃ i,i∈PO/\i ∉ pre/\qq ops i=some t)\/∃ i,i∈lO/\qF pl ops i=2/\qq ops i=some t
open Classical in
noncomputable def zw(pl:Pol)(ops:Array Oper)(PO lO pre:List Nat)(st:St):St:=⟨fun t=>if behind pl ops PO lO pre t then .any else st.tm t,st.mu⟩
theorem yi{pl:Pol}{ops:Array Oper}{PO lO pre:List Nat}{st:St}{t:Tmp}(h:¬behind pl ops PO lO pre t):(zw pl ops PO lO pre st).tm t=st.tm t:=by
 unfold zw;simp only;rw[if_neg h]
theorem vf{pl:Pol}{ops:Array Oper}{PO lO pre:List Nat}{st:St}{t:Tmp}(h:behind pl ops PO lO pre t):(zw pl ops PO lO pre st).tm t = .any:=by
 unfold zw;simp only;rw[if_pos h]
structure AlF (P:Program) (ops:Array Oper) (G:Gh) (mu:Mu) (base:Nat) (a:Act) (w:World) (i b:Nat):Prop where
 x:∃(o:Oper) (e:TypeId) (d:Tmp) (zv:Value),ops[i]?=some o/\o.op = .alloc e/\o.dst=some d/\qn P e=some (ofV zv)/\a.tmps.getD d undef = .pointer (some ⟨b,0,none⟩)/\w.heap[b]?=some (.cells zv.cells e)
 base:base<=b
 nl:¬Live G mu b
 ni:¬G.imm b
theorem AlF.lt{P:Program}{ops:Array Oper}{G:Gh}{mu:Mu}{base:Nat}{a:Act}{w:World}{i b:Nat}(h:AlF P ops G mu base a w i b):b<w.heap.size:=by
 obtain⟨o,e,d,zv,_,_,_,_,_,hb⟩:=h.x;exact(qR.1 hb).1
theorem AlF.step{P:Program}{ops:Array Oper}{G G':Gh}{mu mu':Mu}{base:Nat}{a a':Act}{w w':World}{i b:Nat}(h:AlF P ops G mu base a w i b)(t:Stp G mu w G' mu' w')(ht:∀ d,qq ops i=some d->a'.tmps.getD d undef=a.tmps.getD d undef):AlF P ops G' mu' base a' w' i b:=by
 have hlt:=h.lt;obtain⟨o,e,d,zv,ho,hop,hd,hz,hp,hb⟩:=h.x;refine⟨⟨o,e,d,zv,ho,hop,hd,hz,?_,?_⟩,h.base,fun hl=>?_,fun hi=>?_⟩
 .rw [ht d (by simp[qq,ho,hd])];exact hp
 .rw [t.keep b hlt h.nl];exact hb
 .rcases t.live b hl with hl|hl
  .exact h.nl hl
  .omega
 .rcases t.inew b hi with hi|hi|hi
  .exact h.ni hi
  .exact h.nl hi
  .omega
theorem Rel.weak{ro:Ro}{G0:Gh}{mu0:Mu}{w0:World}{n:Nat}{G:Gh}{st st':St}{a:Act}{w:World}(r:Rel ro G0 mu0 w0 n G st a w)(hm:st'.mu=st.mu)(ht:∀ t,st'.tm t = .any\/st'.tm t=st.tm t):Rel ro G0 mu0 w0 n G st' a w:=by
 refine⟨fun t=>?_,fun h=>by rw[hm];exact r.df h,r.size,by rw[hm];exact r.stp,r.kp⟩;rcases ht t with e|e
 .rw [e];exact .any _
 .rw [e];exact r.tm t
def DG(P:Program)(pl:Pol)(ops:Array Oper)(o:Oper)(st:St)(d:Tmp)(m:Mu):Prop:=∃ b,qX ops st o=some b/\(b=true->DS P pl o st.ev m (st.tm d) m)/\(b=false->st.tm d = .sc undef)
theorem DG.re{P:Program}{pl:Pol}{ops:Array Oper}{o:Oper}{st:St}{d:Tmp}{m m':Mu}(h:DG P pl ops o st d m)(hk:memW pl o=false)(hr:memR o=true->qX ops st o=some true->DS P pl o st.ev m' (st.tm d) m'):DG P pl ops o st d m':=by
 obtain⟨b,hb,h1,h2⟩:=h;refine⟨b,hb,fun e=>?_,h2⟩;subst e;cases hm:memR o with
 |true=>exact hr hm hb
 |false=>exact((h1 rfl).mem hk).2 hm m'
theorem uS{ops:Array Oper}{st st':St}{o:Oper}(h:∀ t,(yu ops o).contains t=true->st'.tm t=st.tm t):qX ops st' o=qX ops st o:=by
 unfold qX;cases hg:o.guard with
 |none=>rfl
 |some q =>
  obtain⟨j,want⟩:=q;simp only;cases hd:(ops[j]?).bind (·.dst) with
  |none=>rfl
  |some d =>
   simp only;rw[h d (by simp[yu,hg,hd])]
theorem Wc{ops:Array Oper}{st:St}{o:Oper}(h:o.guard=none):qX ops st o=some true:=by
 unfold qX;rw[h]
structure SegI (P:Program) (pl:Pol) (ops:Array Oper) (O:List Nat) (ro:Ro) (G0:Gh) (mu0:Mu) (w0:World) (n:Nat) (Q:St->Prop) (Qp:AV->St->Prop) (pre:List Nat) (a:Act) (w:World) (PO lO:List Nat) (st:St) (G:Gh) (B:Nat->Nat):Prop where
 split:O=PO++lO
 awp:awpT P pl ops Q Qp (plan pl ops PO lO) st
 s:∀ i,i∈PO->qF pl ops i≠0->i∈pre
 d:∀ i,i∈pre->qF pl ops i≠2->i∈PO
 p:∀ i o d,i∈PO->i ∉ pre->ops[i]?=some o->o.dst=some d->DG P pl ops o st d st.mu
 al:∀ i,i∈lO->i∈pre->AlF P ops G st.mu w0.heap.size a w i (B i)
 inj:∀ i j,i∈lO->j∈lO->i∈pre->j∈pre->i≠j->B i≠B j
 rel:Rel ro G0 mu0 w0 n G (zw pl ops PO lO pre st) a w
theorem uT{ops:Array Oper}{k:Nat}{o:Oper}(ho:ops[k]?=some o){t:Tmp}(hx:Operand.tmp t∈o.op.operands):qS ops k t=true:=by
 simp only[qS,ho,List.contains_iff_mem,yu,vW,qy,List.mem_filterMap];exact .inl ⟨.tmp t,by simpa using hx,rfl⟩
theorem yW.disj{pl:Pol}{ops:Array Oper}{O PO lO:List Nat}(K:yW pl ops O)(h:O=PO++lO){i:Nat}(hi:i∈lO):i ∉ PO:=by
 obtain⟨s,t,rfl⟩:=List.append_of_mem hi;have:=(K.ord (PO++s) t i (by rw[h];simp)).1;exact fun hh=>this (zB _ hh)
theorem yW.rd{pl:Pol}{ops:Array Oper}{O PO lO:List Nat}(K:yW pl ops O)(h:O=PO++lO){i e:Nat}{d:Tmp}(hi:i∈PO)(he:e∈lO)(hd:qq ops e=some d):qS ops i d=false:=by
 cases hr:qS ops i d with
 |false=>rfl
 |true =>
  obtain⟨s,t,rfl⟩:=List.append_of_mem hi;have:=(K.ord s (t++lO) i (by rw[h];simp)).2.1 e d (K.lt e (by rw[h];simp[he])) hd hr;exact absurd (zB _ this) (K.disj h he)
theorem Qq{pl:Pol}{ops:Array Oper}{i:Nat}{o:Oper}(ho:ops[i]?=some o)(h:qF pl ops i=0):memW pl o=false:=by
 unfold qF at h;rw[ho]at h;simp only[v5]at h;split at h
 .cases h
 .split at h
  .cases h
  .rename_i h2
   simp only[yc,not_or]at h2;simpa using h2.1
theorem Wd{pl:Pol}{ops:Array Oper}{i:Nat}{o:Oper}(ho:ops[i]?=some o)(h:qF pl ops i=2):∃ e,o.op = .alloc e:=by
 unfold qF at h;rw[ho]at h;simp only[v5]at h;split at h
 .rename_i h2
  unfold jJ at h2;split at h2
  .exact ⟨_,by assumption⟩
  .cases h2
 .split at h<;>cases h
theorem YY(pl:Pol)(ops:Array Oper)(i:Nat):qF pl ops i=0\/qF pl ops i=1\/qF pl ops i=2:=by
 unfold qF;split
 .unfold v5
  split
  .exact .inr (.inr rfl)
  .split
   .exact .inr (.inl rfl)
   .exact .inl rfl
 .exact .inl rfl
section
variable {P:Program} {pl:Pol} {ops:Array Oper} {O:List Nat} {ro:Ro} {G0:Gh} {mu0:Mu} {w0:World} {n:Nat} {Q:St->Prop} {Qp:AV->St->Prop} {pre:List Nat} {a:Act} {w:World}
theorem SegI.keepDS(K:yW pl ops O){PO lO:List Nat}{e:Nat}(hs:O=PO++e :: lO){st:St}{i:Nat}{o oe:Oper}{d:Tmp}(hi:i∈PO)(ho:ops[i]?=some o)(hoe:ops[e]?=some oe)(hd:o.dst=some d){m m':Mu}{v:AV}(h:DS P pl o st.ev m (st.tm d) m) :
  DS P pl o (st.put oe.dst v m').ev m ((st.put oe.dst v m').tm d) m:=by
 have hel:e∈e :: lO:=yz ..;have hie:i≠e:=fun h=>K.disj hs hel (h ▸ hi)
 have hlt:i<ops.size:=K.lt i (by rw[hs];simp[hi]);have hlte:e<ops.size:=K.lt e (by rw[hs];simp);have hdi:qq ops i=some d:=by simp[qq,ho,hd]
 have hde:qq ops e=oe.dst:=by simp[qq,hoe]
 have e1:(st.put oe.dst v m').tm d=st.tm d:=zb (fun h=>(K.du i e d hlt hlte hdi).1 hie (by rw[hde];exact h));rw[e1];refine h.congr fun x hx=>?_
 cases x with
 |tmp t =>
  show st.tm t=(st.put oe.dst v m').tm t;refine(zb fun h=>?_).symm;have h1:=K.rd hs hi hel (by rw[hde];exact h);rw[uT ho hx]at h1;cases h1
 |const v=>rfl
 |global g=>rfl
 |func f=>rfl
theorem SegI.keepDG(K:yW pl ops O){PO lO:List Nat}{e:Nat}(hs:O=PO++e :: lO){st:St}{i:Nat}{o oe:Oper}{d:Tmp}(hi:i∈PO)(ho:ops[i]?=some o)(hoe:ops[e]?=some oe)(hd:o.dst=some d){m m':Mu}{v:AV}(h:DG P pl ops o st d m) :
  DG P pl ops o (st.put oe.dst v m') d m:=by
 obtain⟨b,hb,h1,h2⟩:=h;have hel:e∈e :: lO:=yz ..;have hie:i≠e:=fun h=>K.disj hs hel (h ▸ hi)
 have hlt:i<ops.size:=K.lt i (by rw[hs];simp[hi]);have hlte:e<ops.size:=K.lt e (by rw[hs];simp);have hdi:qq ops i=some d:=by simp[qq,ho,hd]
 have hde:qq ops e=oe.dst:=by simp[qq,hoe]
 have e1:(st.put oe.dst v m').tm d=st.tm d:=zb (fun h=>(K.du i e d hlt hlte hdi).1 hie (by rw[hde];exact h));refine⟨b,?_,fun e=>SegI.keepDS K hs hi ho hoe hd (h1 e),fun e=>by rw[e1];exact h2 e⟩;rw[uS fun t ht=>?_]
 .exact hb
 .refine zb fun h=>?_
  have h1:=K.rd hs hi hel (by rw[hde];exact h);simp only[qS,ho]at h1;rw[ht]at h1;cases h1
theorem SegI.advP(K:yW pl ops O){PO lO:List Nat}{e:Nat}{st:St}{G:Gh}{B:Nat->Nat}(h:SegI P pl ops O ro G0 mu0 w0 n Q Qp pre a w PO (e :: lO) st G B)(hk:qF pl ops e=0) :
  ∃ st',SegI P pl ops O ro G0 mu0 w0 n Q Qp pre a w (PO++[e]) lO st' G B:=by
 have hel:e∈e :: lO:=yz ..;have hePO:=K.disj h.split hel;have hep:e ∉ pre:=fun h'=>hePO (h.d e h' (by omega))
 have hlte:e<ops.size:=K.lt e (by rw[h.split];simp);have ho:ops[e]?=some ops[e]:=by simp[hlte]
 generalize ops[e]=o at ho;have hw:=h.awp;simp only[plan,hk,awpT,ho]at hw;obtain⟨b,hb,hw1,hw2⟩:=hw;have hw:∃ v,(b=true->DS P pl o st.ev st.mu v st.mu)/\(b=false->v = .sc undef)/\awpT P pl ops Q Qp (plan pl ops (PO++[e]) lO) (st.put o.dst v st.mu):=by
  cases b with
  |false=>exact⟨_,fun h=>Bool.noConfusion h,fun _=>rfl,hw2 rfl⟩
  |true =>
   obtain⟨v,m,hds,hk'⟩:=qk.det (o:=o) (h:=hw1 rfl);obtain rfl:=(hds.mem (Qq ho hk)).1;exact⟨v,fun _=>hds,fun h=>Bool.noConfusion h,hk'.2⟩
 obtain⟨v,hds,hun,hk'⟩:=hw;have hde:qq ops e=o.dst:=by simp[qq,ho]
 cases hd:o.dst with
 |none=>have:=K.dn e hlte (by rw[hde,hd]);omega
 |some d =>
  rw[hd]at hde;have hsp:O=(PO++[e])++lO:=by rw[h.split];simp
  refine⟨st.put o.dst v st.mu,hsp,hk',fun i hi hki=>?_,fun i hi hki=>?_,fun i o' d' hi hip ho' hd'=>?_,fun i hi hip=>h.al i (zf _ hi) hip,fun i j hi hj=>h.inj i j (zf _ hi) (zf _ hj),?_⟩
  .rcases qy.1 hi with hi|hi
   .exact h.s i hi hki
   .rw [qV]at hi;subst hi;exact absurd hk hki
  .exact zB _ (h.d i hi hki)
  .show DG P pl ops o' (st.put o.dst v st.mu) d' st.mu
   rcases qy.1 hi with hi|hi
   .exact SegI.keepDG K h.split hi ho' ho hd' (h.p i o' d' hi hip ho' hd')
   .rw [qV]at hi;subst hi
    rw[ho]at ho';cases ho';rw[hd]at hd';cases hd';have e1:(st.put o.dst v st.mu).tm d=v:=by simp[St.put,hd]
    have hne:∀ t,qS ops i t=true->(st.put o.dst v st.mu).tm t=st.tm t:=fun t ht=>by
     refine zb fun h'=>?_
     have htd:t=d:=by rw[hd]at h';cases h';rfl
     subst htd;exact hePO ((K.ord PO lO i h.split).2.1 i t hlte hde ht)
    refine⟨b,by rw[uS fun t ht=>hne t (by simp only[qS,ho];exact ht)];exact hb,fun e=>?_,fun e=>by rw[e1];exact hun e⟩;rw[e1];refine(hds e).congr fun x hx=>?_
    cases x with
    |tmp t =>
     show st.tm t=(st.put o.dst v st.mu).tm t;exact(hne t (uT ho hx)).symm
    |const v=>rfl
    |global g=>rfl
    |func f=>rfl
  .refine h.rel.weak rfl fun t=>?_
   by_cases hb:behind pl ops (PO++[e]) lO pre t
   .exact .inl (vf hb)
   .right
    rw[yi hb];have htd:o.dst≠some t:=fun h'=>hb (.inl ⟨e,by simp,hep,by rw[hde];rw[hd]at h';exact h'⟩)
    rw[zb htd,yi];rintro (⟨i,h1,h2,h3⟩|⟨i,h1,h2,h3⟩)
    .exact hb (.inl ⟨i,zB _ h1,h2,h3⟩)
    .rcases qz.1 h1 with rfl|h1
     .omega
     .exact hb (.inr ⟨i,h1,h2,h3⟩)
theorem SegI.advA(K:yW pl ops O)(hbef:∀ i k,(qL ops k).testBit i=true->k∈pre->i∈pre){PO lO:List Nat}{e:Nat}{st:St}{G:Gh}{B:Nat->Nat}(h:SegI P pl ops O ro G0 mu0 w0 n Q Qp pre a w PO (e :: lO) st G B)(hk:qF pl ops e=2)(hep:e∈pre) :
  ∃ st' G',SegI P pl ops O ro G0 mu0 w0 n Q Qp pre a w (PO++[e]) lO st' G' B:=by
 have hel:e∈e :: lO:=yz ..;have hePO:=K.disj h.split hel;have hlte:e<ops.size:=K.lt e (by rw[h.split];simp);have hal:=h.al e hel hep;obtain⟨o,ty,d,zv,ho,hop,hd,hz,hp,hb⟩:=hal.x;have hde:qq ops e=some d:=by simp[qq,ho,hd]
 have hw:=h.awp;simp only[plan,hk,awpT,ho]at hw;rw[Wc (K.guards e o ho (by simp[jJ,hop]))]at hw;obtain⟨b,hbb,hw,_⟩:=hw;have hw:=hw (by cases hbb;rfl);simp only[hop]at hw;simp only[qk]at hw;obtain⟨z,hz',h1,hrr,hk'⟩:=hw;have:z=ofV zv:=by
  have:qn P ty=some z:=hz';rw[hz]at this;cases this;rfl
 subst this;have hsp:O=(PO++[e])++lO:=by rw[h.split];simp
 have hrev:=Rel.reveal (st:=zw pl ops PO (e :: lO) pre st) h.rel h1 hp hb hal.base hal.nl hal.ni;refine⟨st.put o.dst (.ptr st.mu.length 0) (st.mu++[.arr (ofV zv).cells]),⟨G.imm,G.blk++[(B e,zv.cells.size)]⟩,hsp,hk',fun i hi hki=>?_,fun i hi hki=>?_,fun i o' d' hi hip ho' hd'=>?_,fun i hi hip=>?_,fun i j hi hj=>h.inj i j (zf _ hi) (zf _ hj),?_⟩
 .rcases qy.1 hi with hi|hi
  .exact h.s i hi hki
  .rw [qV]at hi;subst hi;exact hep
 .exact zB _ (h.d i hi hki)
 .have hi:i∈PO:=by
   rcases qy.1 hi with hi|hi
   .exact hi
   .rw [qV]at hi;subst hi;exact absurd hep hip
  have hki:qF pl ops i=0:=by
   by_cases hh:qF pl ops i=0
   .exact hh
   .exact absurd (h.s i hi hh) hip
  refine(SegI.keepDG K h.split hi ho' ho hd' (h.p i o' d' hi hip ho' hd')).re (Qq ho' hki) fun hm hb=>?_
  refine Qo hrr (i:=i) ?_ ho' hd' hb;rw[if_neg (by omega)];refine yA.2 ⟨hi,?_⟩;have hmask:(qL ops e).testBit i=false:=by
   cases hq:(qL ops e).testBit i with
   |false=>rfl
   |true=>exact absurd (hbef i e hq hep) hip
  simp[hki,ve,ho',hm,hmask]
 .have hne:i≠e:=fun hh=>by
   subst hh;exact K.disj hsp hi (by simp)
  have ho2:=h.al i (zf _ hi) hip;refine⟨ho2.x,ho2.base,fun hl=>?_,ho2.ni⟩;obtain⟨j,c,t,hc,hdd,hbk⟩:=hl;have hlen:=h.rel.stp.sim.len;have hlen:G.blk.length=st.mu.length:=hlen;rcases qO hc with ⟨q1,q2⟩|⟨q1,q2⟩
  .rcases qO hbk with ⟨_,q3⟩|⟨q3,_⟩
   .exact ho2.nl ⟨j,c,t,q2,hdd,q3⟩
   .omega
  .rcases qO hbk with ⟨q3,_⟩|⟨_,q3⟩
   .omega
   .exact h.inj i e (zf _ hi) hel hip hep hne (Prod.mk.inj q3).1
 .refine hrev.weak rfl fun t=>?_
  by_cases hb:behind pl ops (PO++[e]) lO pre t
  .exact .inl (vf hb)
  .right
   rw[yi hb,hd];by_cases htd:t=d
   .subst htd;simp[St.put];rfl
   .rw [zb (fun h'=>htd (by cases h';rfl)),zb (fun h'=>htd (by cases h';rfl)),yi]
    rintro (⟨i,h1,h2,h3⟩|⟨i,h1,h2,h3⟩)
    .exact hb (.inl ⟨i,zB _ h1,h2,h3⟩)
    .rcases qz.1 h1 with rfl|h1
     .rw [hde]at h3;cases h3;exact htd rfl
     .exact hb (.inr ⟨i,h1,h2,h3⟩)
theorem SegI.advs(K:yW pl ops O)(hbef:∀ i k,(qL ops k).testBit i=true->k∈pre->i∈pre){B:Nat->Nat}:∀(es PO lO:List Nat) (st:St) (G:Gh),SegI P pl ops O ro G0 mu0 w0 n Q Qp pre a w PO (es++lO) st G B->(∀ i,i∈es->qF pl ops i≠1/\(qF pl ops i=2->i∈pre)) ->
  ∃ st' G',SegI P pl ops O ro G0 mu0 w0 n Q Qp pre a w (PO++es) lO st' G' B
 | [],PO,lO,st,G,h,_=>⟨st,G,by simpa using h⟩
 |e :: es,PO,lO,st,G,h,hc=>by
  obtain⟨c1,c2⟩:=hc e (yz ..);rcases YY pl ops e with hk|hk|hk
  .obtain ⟨st1,h1⟩:=SegI.advP K h hk
   obtain⟨st2,G2,h2⟩:=SegI.advs K hbef es (PO++[e]) lO st1 G h1 fun i hi=>hc i (zf _ hi)
   exact⟨st2,G2,by simpa using h2⟩
  .exact absurd hk c1
  .obtain ⟨st1,G1,h1⟩:=SegI.advA K hbef h hk (c2 hk)
   obtain⟨st2,G2,h2⟩:=SegI.advs K hbef es (PO++[e]) lO st1 G1 h1 fun i hi=>hc i (zf _ hi)
   exact⟨st2,G2,by simpa using h2⟩
end
theorem Stp.allocNone{G:Gh}{mu:Mu}{w:World}(s:Sim G mu w.heap)(o:Obj):Stp G mu w G mu (w.alloc o):=by
 have he:=wH s o;refine⟨.refl G,⟨s.len,fun b hb=>wC (s.imm b hb) he.size,?_,s.live,s.inj,s.tab.mono (fun _ h=>h) he.keep⟩,fun b hb _=>jB w o b hb,he.size,fun b h => .inl h,fun b h => .inl h,rfl,rfl,rfl,qu _⟩;intro i c blk tot hc hd hk;obtain⟨o',h1,h2⟩:=s.obj i c blk tot hc hd hk;exact⟨o',by rw[jB w o blk (qR.1 h1).1];exact h1,h2.mono (.refl G) he⟩
theorem We{P:Program}{ro:Ro}{o:Oper}{e:TypeId}(hop:o.op = .alloc e){z:AV}(hz:qn P e=some z){a:Act}{w:World}{next:Act->World->Prop}{Q:Exit->Act->World->Prop}
  (h:∀ zv,z=ofV zv->next (a.put o.dst (.pointer (some ⟨w.heap.size,0,none⟩))) (w.alloc (.cells zv.cells e))):o.wpIn (WF ro) 0 P a w next Q:=by
 obtain⟨dst,op,ty,pos,after,guard⟩:=o;simp only at hop h;subst hop;refine⟨fun _ _=>trivial,?_⟩;rw[show (WF ro).round=ro.rd from rfl,Oper.semAt_eq _ _ _ (fun c e=>by cases e)];obtain⟨zv,hrun,hzv⟩:=jC hz w;refine Yi ?_;have hn:(newVar e zv).run P w = .ok ⟨w.heap.size,0,none⟩ (w.alloc (.cells zv.cells e)):=rfl;simp only[execOp,Instr.alloc,ql,hrun,qm,hn,qG,Oper.upon];exact h zv hzv
theorem Wf{P:Program}{pl:Pol}{ops:Array Oper}{ro:Ro}{G0:Gh}{mu0:Mu}{w0:World}{n:Nat}(s0:Sim G0 mu0 w0.heap)(hdst:(ops.toList.all fun o=>dOk n o.dst)=true)
  {Q:St->Prop} {Qp:AV->St->Prop} {QQ:Exit->Act->World->Prop} (hQ:∀ st a w G,Q st->Rel ro G0 mu0 w0 n G st a w->QQ .normal a w)
  (hQp:∀ v st a w G u,Qp v st->Rel ro G0 mu0 w0 n G st a w->VRel G w.heap v u->QQ (.panic [{ v:=u,recovered:=false }]) a w) {st:St} {a:Act} {w:World} {G:Gh} (r:Rel ro G0 mu0 w0 n G st a w)
  (h:SegA P pl ops Q Qp st) (mixed:Bool) (t:Nat):wpOpsIn (WF ro) 0 P ops QQ (Region.schedule mixed ops t) a w:=by
 obtain⟨O,hok,hnew,h⟩:=h;have K:=Wb hok;obtain⟨h1,h2⟩:=Qd K.edges mixed t;obtain⟨h3,h4⟩:=Topo.closed K.edges _ _ rfl h1;have h3:=fun k hk=>(h3 k hk).1
 generalize Region.schedule mixed ops t=L at *
 have hall:∀ i,i<ops.size->i∈L:=by
  intro i hi;refine y7 fun hn=>?_
  have hl1:(i :: L).length<=(qg ops.size).length:=yQ (yB.2 ⟨hn,h4⟩) (fun k hk=>by
   rcases qz.1 hk with rfl|hk
   .simpa using hi
   .simpa using (h3 k hk))
  simp at hl1;omega
 have hzero:∀(i:Nat) (o:Oper) (e:TypeId),ops[i]?=some o->o.op = .alloc e->∃ z,qn P e=some z:=by
  have gen:∀(O pre:List Nat),yX P ops (plan pl ops pre O)->∀ i,i∈O->∀(o:Oper) (e:TypeId),ops[i]?=some o->o.op = .alloc e->∃ z,qn P e=some z:=by
   intro O;induction O with
   |nil=>intro pre _ i hi;exact absurd hi zz
   |cons j O ih =>
    intro pre hn i hi o e ho hop;simp only[plan,yX]at hn;rcases qz.1 hi with rfl|hi
    .have hk:qF pl ops i=2:=by
      unfold qF;rw[ho];simp[v5,jJ,hop]
     have hn:=hn.1;rw[hk,ho]at hn;simp only[hop]at hn;obtain⟨z,hz,_⟩:=hn;exact⟨z,hz⟩
    .exact ih _ hn.2 i hi o e ho hop
  exact fun i o e ho hop=>gen O [] hnew i (K.all i (qR.1 ho).1) o e ho hop
 have key:∀(post pre:List Nat) (a:Act) (w:World) (G:Gh) (PO lO:List Nat) (stT:St) (B:Nat->Nat),L=pre++post->SegI P pl ops O ro G0 mu0 w0 n Q Qp pre a w PO lO stT G B->wpOpsIn (WF ro) 0 P ops QQ post a w:=by
  intro post;induction post with
  |nil =>
   intro pre a w G PO lO stT B hL I;rw[y5]at hL;subst hL;have hin:∀ i,i<ops.size->i∈L:=hall;obtain⟨st2,G2,I2⟩:=SegI.advs K (fun i k hb hk=>h3 k hk |> fun _=>by
    have:=h1.bef K.edges hb;obtain⟨s,t,e⟩:=List.append_of_mem hk;have:=this s t e;rw[e];exact zB _ this) lO PO [] stT G (by simpa using I) (fun i hi=>by
    have hlt:=K.lt i (by rw[I.split];simp[hi]);refine⟨fun hk=>K.disj I.split hi (I.d i (hin i hlt) (by omega)),fun _=>hin i hlt⟩)
   simp only[wpOpsIn];have hw:=I2.awp;simp only[plan,awpT]at hw;refine hQ st2 a w G2 hw (I2.rel.weak rfl fun t => .inr ?_);refine(yi ?_).symm;rintro (⟨i,q1,q2,q3⟩|⟨i,q1,_⟩)
   .exact q2 (hin i (K.lt i (by rw[I2.split];simp;simpa using q1)))
   .exact absurd q1 zz
  |cons k post ih =>
   intro pre a w G PO lO stT B hL I;have hk:k<ops.size:=h3 k (by rw[hL];simp);have hnd:(pre++k :: post).Nodup:=by rw[<-hL];exact h4
   have hkp:k ∉ pre:=fun hh=>by
    rw[jz]at hnd;exact hnd.2.2 k hh k (by simp) rfl
   have ho:ops[k]?=some ops[k]:=by simp[hk]
   generalize hok':ops[k]=o at ho;have hdk:dOk n o.dst=true:=qt.1 hdst o (by have:=Array.mem_of_getElem? ho;simpa using this);have bef:∀ i,(qL ops k).testBit i=true->i∈pre:=fun i hi=>h1.bef K.edges hi pre post hL
   have hbef:∀ i j,(qL ops j).testBit i=true->j∈pre->i∈pre:=fun i j hb hj=>by
    obtain⟨s,t,e⟩:=List.append_of_mem hj;have:=h1.bef K.edges hb s (t++k :: post) (by rw[hL,e];simp);rw[e];exact zB _ this
   have hL':L=(pre++[k])++post:=by rw[hL];simp
   have hdo:qq ops k=o.dst:=by simp[qq,ho]
   have hput:∀(i:Nat) (d:Tmp),i<ops.size->i≠k->qq ops i=some d->∀ u,(a.put o.dst u).tmps.getD d undef=a.tmps.getD d undef:=fun i d hi hik hd u=>by
    cases hod:o.dst with
    |none=>rfl
    |some x =>
     have hne:x≠d:=fun e=>(K.du i k d hi hk hd).1 hik (by rw[hdo,hod,e])
     simp only[Act.put,qi];rw[vB hne]
   have adv:∀(es lO':List Nat),lO=es++lO'->(∀ i,i∈es->qF pl ops i≠0->(qL ops k).testBit i=true)->∃ st' G',SegI P pl ops O ro G0 mu0 w0 n Q Qp pre a w (PO++es) lO' st' G' B:=fun es lO' e hm=>by
    subst e;refine SegI.advs K hbef es PO lO' stT G I fun i hi=>⟨fun hki=>?_,fun hki=>bef i (hm i hi (by omega))⟩
    have:=I.d i (bef i (hm i hi (by omega))) (by omega);exact K.disj I.split (zB _ hi) this
   have tmk:∀(PO lO:List Nat) (G:Gh) (st:St),SegI P pl ops O ro G0 mu0 w0 n Q Qp pre a w PO lO st G B->(∀ i d,i<ops.size->qq ops i=some d->qS ops k d=true->i∈PO)->∀ t,qS ops k t=true->(zw pl ops PO lO pre st).tm t=st.tm t:=by
    intro PO lO G st I hrd t ht;refine yi ?_;rintro (⟨i,q1,q2,q3⟩|⟨i,q1,q2,q3⟩)
    .exact q2 (bef i ((K.du i k t (K.lt i (by rw[I.split];simp[q1])) hk q3).2 ht))
    .exact K.disj I.split q1 (hrd i t (K.lt i (by rw[I.split];simp[q1])) q3 ht)
   rcases YY pl ops k with hkd|hkd|hkd
   ·
    have:∃ PO lO st G,k∈PO/\SegI P pl ops O ro G0 mu0 w0 n Q Qp pre a w PO lO st G B:=by
     by_cases hkP:k∈PO
     .exact ⟨PO,lO,stT,G,hkP,I⟩
     .have hkl:k∈lO:=by
       have:=K.all k hk;rw[I.split]at this;exact(qy.1 this).resolve_left hkP
      obtain⟨es,lO',rfl⟩:=List.append_of_mem hkl;have hord:=(K.ord (PO++es) lO' k (by rw[I.split];simp)).2.2 (by omega);obtain⟨st',G',I'⟩:=adv (es++[k]) lO' (by simp) fun i hi hki=>by
       rcases qy.1 hi with hi|hi
       .exact hord i (List.mem_append_right _ hi) hki
       .rw [qV]at hi;subst hi;exact absurd hkd hki
      exact⟨_,_,st',G',by simp,I'⟩
    clear I adv;obtain⟨PO,lO,st,G,hkP,I⟩:=this;cases hd:o.dst with
    |none=>have:=K.dn k hk (by rw[hdo,hd]);omega
    |some d =>
    have hrd:∀ i d,i<ops.size->qq ops i=some d->qS ops k d=true->i∈PO:=fun i d hi hdi hr=>by
     obtain⟨s,t,hs⟩:=List.append_of_mem hkP;have:=(K.ord s (t++lO) k (by rw[I.split,hs];simp)).2.1 i d hi hdi hr;rw[hs];exact zB _ this
    obtain⟨b,hb,hT,hF⟩:=I.p k o d hkP hkp ho hd;have hb2:qX ops (zw pl ops PO lO pre st) o=some b:=by
     rw[uS fun t ht=>tmk PO lO G st I hrd t (by simp only[qS,ho];exact ht)];exact hb
    have hwant:=uL I.rel hb2;have goK:∀(G':Gh) (w':World) (u:Value),Stp G (zw pl ops PO lO pre st).mu w G' (zw pl ops PO lO pre st).mu w'->VRel G' w'.heap (st.tm d) u->wpOpsIn (WF ro) 0 P ops QQ post (a.put o.dst u) w':=by
     intro G' w' u hstp hv;refine ih (pre++[k]) _ _ G' PO lO st B hL' ?_;have hr2:=I.rel.put s0 hstp hv hdk;refine⟨I.split,I.awp,fun i hi hki=>zB _ (I.s i hi hki),fun i hi hki=>?_,fun i o' d' hi hip=>I.p i o' d' hi (fun hh=>hip (zB _ hh)),fun i hi hip=>?_,fun i j hi hj hip hjp=>?_,?_⟩
     .rcases qy.1 hi with hi|hi
      .exact I.d i hi hki
      .rw [qV]at hi;subst hi;exact hkP
     .have hik:i≠k:=fun e=>K.disj I.split hi (e ▸ hkP)
      have hip':i∈pre:=by
       rcases qy.1 hip with h|h
       .exact h
       .rw [qV]at h;exact absurd h hik
      exact(I.al i hi hip').step hstp fun d' hd'=>hput i d' (K.lt i (by rw[I.split];simp[hi])) hik hd' u
     .have hik:∀ i,i∈lO->i∈pre++[k]->i∈pre:=fun i hi hip=>by
       rcases qy.1 hip with h|h
       .exact h
       .rw [qV]at h
        subst h;exact absurd hkP (K.disj I.split hi)
      exact I.inj i j hi hj (hik i hi hip) (hik j hj hjp)
     .refine hr2.weak rfl fun t=>?_
      by_cases hb:behind pl ops PO lO (pre++[k]) t
      .exact .inl (vf hb)
      .right
       rw[yi hb];by_cases htd:o.dst=some t
       .rw [hd]at htd;cases htd
        simp[St.put,hd]
       .rw [zb htd,yi]
        rintro (⟨i,q1,q2,q3⟩|q)
        .refine hb (.inl ⟨i,q1,fun hh=>?_,q3⟩)
         rcases qy.1 hh with hh|hh
         .exact q2 hh
         .rw [qV]at hh;subst hh;exact htd (by rw[<-hdo];exact q3)
        .exact hb (.inr q)
    simp only[wpOpsIn,ho,hwant];cases b with
    |false =>
     rw[if_neg (by simp)];exact⟨fun _ _=>trivial,goK G w undef (Stp.refl I.rel.stp.sim) (by rw[hF rfl];exact .sc _ rfl)⟩
    |true =>
    have hds:=hT rfl;rw[if_pos rfl];have hds2:DS P pl o (zw pl ops PO lO pre st).ev (zw pl ops PO lO pre st).mu (st.tm d) (zw pl ops PO lO pre st).mu:=hds.congr fun x hx=>by
     cases x with
     |tmp t =>
      show st.tm t=(zw pl ops PO lO pre st).tm t;exact(tmk PO lO G st I hrd t (uT ho hx)).symm
     |const v=>rfl
     |global g=>rfl
     |func f=>rfl
    refine j9 I.rel.stp.sim I.rel.ev hds2 ?_ ?_
    .rintro v' mu' G' w' u ⟨rfl,rfl⟩ hstp hv
     exact goK G' w' u hstp hv
    .intro _ _ _ _ _ hh;exact hh.elim
   ·
    have hkP:k ∉ PO:=fun hh=>hkp (I.s k hh (by omega))
    have hkl:k∈lO:=by
     have:=K.all k hk;rw[I.split]at this;exact(qy.1 this).resolve_left hkP
    obtain⟨es,lO',rfl⟩:=List.append_of_mem hkl;have hord0:=K.ord (PO++es) lO' k (by rw[I.split];simp);obtain⟨st,G,I⟩:=adv es (k :: lO') rfl fun i hi hki=>hord0.2.2 (by omega) i (List.mem_append_right _ hi) hki
    clear adv;generalize hPO:PO++es=PO' at *
    have hw:=I.awp;simp only[plan,hkd,awpT,ho]at hw;obtain⟨b,hb,hw,hwF⟩:=hw;have hb2:qX ops (zw pl ops PO' (k :: lO') pre st) o=some b:=by
     rw[uS fun t ht=>tmk PO' (k :: lO') G st I hord0.2.1 t (by simp only[qS,ho];exact ht)];exact hb
    have hwant:=uL I.rel hb2;have goK:∀(v:AV) (m:Mu) (G':Gh) (w':World) (u:Value),awpT P pl ops Q Qp (plan pl ops (PO'++[k]) lO') (st.put o.dst v m)->(∀ i o' d',i∈PO'->i ∉ pre->qF pl ops i=0->ops[i]?=some o'->o'.dst=some d'->DG P pl ops o' (st.put o.dst v m) d' m) ->
      Stp G st.mu w G' m w'->VRel G' w'.heap v u->wpOpsIn (WF ro) 0 P ops QQ post (a.put o.dst u) w':=by
     intro v m G' w' u hw' hpp hstp hv;refine ih (pre++[k]) _ _ G' (PO'++[k]) lO' (st.put o.dst v m) B hL' ?_;have hr2:=I.rel.put s0 hstp hv hdk;have hsp:O=(PO'++[k])++lO':=by rw[I.split];simp
     refine⟨hsp,hw',fun i hi hki=>?_,fun i hi hki=>?_,fun i o' d' hi hip ho' hd'=>?_,fun i hi hip=>?_,fun i j hi hj hip hjp=>?_,?_⟩
     .rcases qy.1 hi with hi|hi
      .exact zB _ (I.s i hi hki)
      .exact List.mem_append_right _ hi
     .rcases qy.1 hi with hi|hi
      .exact zB _ (I.d i hi hki)
      .exact List.mem_append_right _ hi
     .have hip':i ∉ pre:=fun hh=>hip (zB _ hh)
      have hi':i∈PO':=by
       rcases qy.1 hi with hi|hi
       .exact hi
       .exact absurd (List.mem_append_right _ hi) hip
      have hki:qF pl ops i=0:=by
       by_cases hh:qF pl ops i=0
       .exact hh
       .exact absurd (I.s i hi' hh) hip'
      exact hpp i o' d' hi' hip' hki ho' hd'
     .have hik:i≠k:=fun e=>by
       subst e;exact K.disj hsp hi (by simp)
      have hip':i∈pre:=by
       rcases qy.1 hip with h|h
       .exact h
       .rw [qV]at h;exact absurd h hik
      exact(I.al i (zf _ hi) hip').step hstp fun d' hd'=>hput i d' (K.lt i (by rw[I.split];simp[hi])) hik hd' u
     .have hik:∀ i,i∈lO'->i∈pre++[k]->i∈pre:=fun i hi hip=>by
       rcases qy.1 hip with h|h
       .exact h
       .rw [qV]at h
        subst h;exact absurd (show i∈PO'++[i] by simp) (K.disj hsp hi)
      exact I.inj i j (zf _ hi) (zf _ hj) (hik i hi hip) (hik j hj hjp)
     .refine hr2.weak rfl fun t=>?_
      by_cases hb:behind pl ops (PO'++[k]) lO' (pre++[k]) t
      .exact .inl (vf hb)
      .right
       rw[yi hb];by_cases htd:o.dst=some t
       .simp [St.put,htd]
       .rw [zb htd,zb htd,yi]
        rintro (⟨i,q1,q2,q3⟩|⟨i,q1,q2,q3⟩)
        .refine hb (.inl ⟨i,zB _ q1,fun hh=>?_,q3⟩)
         rcases qy.1 hh with hh|hh
         .exact q2 hh
         .rw [qV]at hh;subst hh;exact htd (by rw[<-hdo];exact q3)
        .rcases qz.1 q1 with rfl|q1
         .omega
         .exact hb (.inr ⟨i,q1,q2,q3⟩)
    simp only[wpOpsIn,ho,hwant];cases b with
    |false =>
     rw[if_neg (by simp)];exact⟨fun _ _=>trivial,goK (.sc undef) st.mu G w undef (hwF rfl) (fun i o' d' hi hip hki ho' hd'=>SegI.keepDG K I.split hi ho' ho hd' (I.p i o' d' hi hip ho' hd')) (Stp.refl I.rel.stp.sim) (.sc _ rfl)⟩
    |true =>
    rw[if_pos rfl];have hw:qk P pl false o.dst o.op st.ev st.mu (fun v m=>yv P pl ops (if 1=0 then [] else pend pl ops PO' k) (st.put o.dst v m)/\awpT P pl ops Q Qp (plan pl ops (PO'++[k]) lO') (st.put o.dst v m)) (fun v m=>True/\∀ tm,Qp v ⟨tm,m⟩):=hw rfl;have hw2:=hw.congr (ev':=(zw pl ops PO' (k :: lO') pre st).ev) (fun x hx=>by
     cases x with
     |tmp t=>exact(tmk PO' (k :: lO') G st I hord0.2.1 t (uT ho hx)).symm
     |const v=>rfl
     |global g=>rfl
     |func f=>rfl)
    have hkl':k∈k :: lO':=yz ..;refine j9 (mu:=(zw pl ops PO' (k :: lO') pre st).mu) I.rel.stp.sim I.rel.ev hw2 ?_ ?_
    .rintro v m G' w' u ⟨hrr,hw'⟩ hstp hv
     rw[if_neg (by decide)]at hrr;refine goK v m G' w' u hw' (fun i o' d' hi hip hki ho' hd'=>?_) hstp hv;refine(SegI.keepDG K I.split hi ho' ho hd' (I.p i o' d' hi hip ho' hd')).re (Qq ho' hki) fun hm hb=>?_
     refine Qo hrr (i:=i) (yA.2 ⟨hi,?_⟩) ho' hd' hb;have hmask:(qL ops k).testBit i=false:=by
      cases hq:(qL ops k).testBit i with
      |false=>rfl
      |true=>exact absurd (bef i hq) hip
     simp[hki,ve,ho',hm,hmask]
    .rintro v m G' w' u ⟨_,hp⟩ hstp hv
     refine hQp v ⟨(zw pl ops PO' (k :: lO') pre st).tm,m⟩ a w' G' u (hp _) ?_ hv;exact I.rel.put (d:=none) s0 hstp (.any undef) rfl
   ·
    have hkP:k ∉ PO:=fun hh=>hkp (I.s k hh (by omega))
    have hkl:k∈lO:=by
     have:=K.all k hk;rw[I.split]at this;exact(qy.1 this).resolve_left hkP
    obtain⟨ty,hop⟩:=Wd ho hkd;obtain⟨z,hz⟩:=hzero k o ty ho hop;cases hd:o.dst with
    |none=>have:=K.dn k hk (by rw[hdo,hd]);omega
    |some d =>
    have hwant:Region.wanted o (yielded ops a.tmps)=true:=by unfold Region.wanted;rw[K.guards k o ho (by simp[jJ,hop])]
    simp only[wpOpsIn,ho,hwant,if_true];refine We hop hz fun zv hzv=>?_
    subst hzv;have hstp:=Stp.allocNone I.rel.stp.sim (.cells zv.cells ty);have hr2:=I.rel.put (v := .any) (u := .pointer (some ⟨w.heap.size,0,none⟩)) (d:=o.dst) s0 hstp (.any _) hdk;refine ih (pre++[k]) _ _ G PO lO stT (fun i=>if i=k then w.heap.size else B i) hL' ?_;refine⟨I.split,I.awp,fun i hi hki=>zB _ (I.s i hi hki),fun i hi hki=>?_,fun i o' d' hi hip=>I.p i o' d' hi (fun hh=>hip (zB _ hh)),fun i hi hip=>?_,fun i j hi hj hip hjp hij=>?_,?_⟩
    .rcases qy.1 hi with hi|hi
     .exact I.d i hi hki
     .rw [qV]at hi;subst hi;exact absurd hkd hki
    .by_cases hik:i=k
     .subst hik
      rw[if_pos rfl];refine⟨⟨o,ty,d,zv,ho,hop,hd,hz,?_,uw w _⟩,I.rel.stp.size,fun hl=>?_,fun hi=>?_⟩
      .rw [hd]
       have hdn:d<n:=by rw[hd]at hdk;simpa[dOk] using hdk
       have:d<a.tmps.size:=by rw[I.rel.size];exact hdn
       simp[Act.put,qi,this]
      .have:=I.rel.stp.sim.livesize hl;omega
      .have:=I.rel.stp.sim.imm _ hi;omega
     .rw [if_neg hik]
      have hip':i∈pre:=by
       rcases qy.1 hip with h|h
       .exact h
       .rw [qV]at h;exact absurd h hik
      exact(I.al i hi hip').step hstp fun d' hd'=>hput i d' (K.lt i (by rw[I.split];simp[hi])) hik hd' _
    .have hpre:∀ i,i∈pre++[k]->i≠k->i∈pre:=fun i hip hik=>by
      rcases qy.1 hip with h|h
      .exact h
      .rw [qV]at h;exact absurd h hik
     by_cases hik:i=k
     .rw [if_pos hik,if_neg (fun e=>hij (hik.trans e.symm))]
      have hjk:j≠k:=fun e=>hij (hik.trans e.symm)
      have:=(I.al j hj (hpre j hjp hjk)).lt;omega
     .rw [if_neg hik]
      by_cases hjk:j=k
      .rw [if_pos hjk]
       have:=(I.al i hi (hpre i hip hik)).lt;omega
      .rw [if_neg hjk]
       exact I.inj i j hi hj (hpre i hip hik) (hpre j hjp hjk) hij
    .refine hr2.weak rfl fun t=>?_
     by_cases hb:behind pl ops PO lO (pre++[k]) t
     .exact .inl (vf hb)
     .right
      rw[yi hb];have htd:o.dst≠some t:=fun e=>hb (.inr ⟨k,hkl,hkd,by rw[hdo];exact e⟩)
      rw[zb htd,yi];rintro (⟨i,q1,q2,q3⟩|q)
      .refine hb (.inl ⟨i,q1,fun hh=>?_,q3⟩)
       rcases qy.1 hh with hh|hh
       .exact q2 hh
       .rw [qV]at hh;subst hh;exact htd (by rw[<-hdo];exact q3)
      .exact hb (.inr q)
 refine key L [] a w G [] O st (fun _=>0) (by simp) ⟨rfl,h,fun i hi=>absurd hi zz,fun i hi=>absurd hi zz,fun i o d hi=>absurd hi zz,fun i _ hi=>absurd hi zz,fun i j _ _ hi=>absurd hi zz,?_⟩;refine r.weak rfl fun t=>?_
 by_cases hb:behind pl ops [] O [] t
 .exact .inl (vf hb)
 .exact .inr (yi hb)
def uU(P:Program)(pl:Pol)(ops:Array Oper)(Q:St->Prop)(Qp:AV->St->Prop)(st:St):Prop:=YO P pl ops Q Qp st\/SegA P pl ops Q Qp st
theorem Wg{P:Program}{pl:Pol}{ops:Array Oper}{ro:Ro}{G0:Gh}{mu0:Mu}{w0:World}{n:Nat}(s0:Sim G0 mu0 w0.heap)(hdst:(ops.toList.all fun o=>dOk n o.dst)=true)
  {Q:St->Prop} {Qp:AV->St->Prop} {QQ:Exit->Act->World->Prop} (hQ:∀ st a w G,Q st->Rel ro G0 mu0 w0 n G st a w->QQ .normal a w)
  (hQp:∀ v st a w G u,Qp v st->Rel ro G0 mu0 w0 n G st a w->VRel G w.heap v u->QQ (.panic [{ v:=u,recovered:=false }]) a w) {st:St} {a:Act} {w:World} {G:Gh} (r:Rel ro G0 mu0 w0 n G st a w)
  (h:uU P pl ops Q Qp st) (mixed:Bool) (t:Nat):wpOpsIn (WF ro) 0 P ops QQ (Region.schedule mixed ops t) a w:=by
 rcases h with h|h
 .exact Wa s0 hdst hQ hQp r h mixed t
 .exact Wf s0 hdst hQ hQp r h mixed t
end Go.Ev
