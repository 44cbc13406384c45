/-
  Own library, part 8: an abstract reading of values and a calculus over it; contracts of functions; plain lemmas.
-/
import Lean
import Derived.Test.YtkglmpmlfjogkaaGreatDoorMg
set_option linter.unusedVariables false
set_option linter.unusedSimpArgs false
set_option maxRecDepth 100000
open Go.Proofs.Tryz renaming prog->qd
open Go.IntKind renaming i64->qj
open List renaming getElem?_append_left->qp,range->qq,mem_map->qs,getElem_mem->qu,getElem?_eq_getElem->qv,all_eq_true->qy,mem_append->qT,getElem?_append_right->qV,drop_eq_getElem_cons->zj,map_append->zm,take_length->zw,getD_eq_getElem?_getD->zz,mem_range->zI,drop_length->zL,take_of_length_le->zU,getElem?_drop->yA,mem_of_mem_take->jV,getElem_of_mem->uF
open Nat renaming le_refl->qr
open Bool renaming and_eq_true->qx
namespace Go.Proofs.YtkglmpmlfjogkaaGreatDoor
open Go Go.Ev Go.Proofs Tryz
namespace FR
open P1 E1 E3 E7 E9 EB
def ixT(m:Md)(t:Nat):Nat:=if t<m.states.length then t else m.loop.toNat+(t-m.loop.toNat) % (m.states.length-m.loop.toNat)
theorem Xl(x:Mo)(h1:x.m.loop.toNat<x.m.states.length):∀ t,it x t 0=ixT x.m t
 | 0=>by unfold ixT;rw[if_pos (by omega)];rfl
 |t+1=>by
  rw[uw,Xl x h1 t];unfold Mo.nx ixT;generalize x.m.states.length=k at *
  generalize x.m.loop.toNat=l at *
  by_cases a:t<k
  .rw [if_pos a]
   by_cases b:t+1<k
   .rw [if_pos b,if_pos b]
   .rw [if_neg b,if_neg b,show t+1-l=k-l by omega,Nat.mod_self];rfl
  .rw [if_neg a,if_neg (show ¬t+1<k by omega),show t+1-l=(t-l)+1 by omega]
   have h2:=Nat.mod_lt (t-l) (show 0<k-l by omega);rw[<-Nat.mod_add_mod (t-l) (k-l) 1];by_cases b:l+(t-l) % (k-l)+1<k
   .rw [if_pos b,Nat.mod_eq_of_lt (a:=(t-l) % (k-l)+1) (by omega)];omega
   .rw [if_neg b,show (t-l) % (k-l)+1=k-l by omega,Nat.mod_self];rfl
theorem mh{m:Md}(h1:m.loop.toNat<m.states.length){t:Nat}(h:m.loop.toNat<=t):ixT m t=m.loop.toNat+(t-m.loop.toNat) % (m.states.length-m.loop.toNat):=by
 unfold ixT;split
 .rw [Nat.mod_eq_of_lt (by omega)];omega
 .rfl
theorem mi{m:Md}(h1:m.loop.toNat<m.states.length)(t:Nat):ixT m t<m.states.length:=by
 unfold ixT;split
 .assumption
 .have:=Nat.mod_lt (t-m.loop.toNat) (show 0<m.states.length-m.loop.toNat by omega)
  omega
theorem mj{m:Md}(h1:m.loop.toNat<m.states.length){t:Nat}(h:m.loop.toNat<=t)(c:Nat):ixT m (t+c*(m.states.length-m.loop.toNat))=ixT m t:=by
 rw[mh h1 (by omega),mh h1 h,show t+c*(m.states.length-m.loop.toNat)-m.loop.toNat=(t-m.loop.toNat)+c*(m.states.length-m.loop.toNat) by omega,Nat.add_mul_mod_self_right]
def stT(m:Md)(t:Nat):List Rl:=m.states.getD (ixT m t) []
def horT(a b:Md):Nat:=max a.loop.toNat b.loop.toNat+(a.states.length-a.loop.toNat)*(b.states.length-b.loop.toNat)
theorem qj0{a b:Md}(ha:a.loop.toNat<a.states.length)(hb:b.loop.toNat<b.states.length)(h:∀ t,t<horT a b->stT a t=stT b t)(t:Nat):stT a t=stT b t:=by
 by_cases ht:t<horT a b
 .exact h t ht
 have hM1:=Nat.le_max_left a.loop.toNat b.loop.toNat;have hM2:=Nat.le_max_right a.loop.toNat b.loop.toNat;have hP:0<(a.states.length-a.loop.toNat)*(b.states.length-b.loop.toNat):=Nat.mul_pos (by omega) (by omega);unfold horT at ht h;generalize hM:max a.loop.toNat b.loop.toNat=M at *
 have hd:=Nat.div_add_mod (t-M) ((a.states.length-a.loop.toNat)*(b.states.length-b.loop.toNat));have hl:=Nat.mod_lt (t-M) hP;generalize (t-M) / ((a.states.length-a.loop.toNat)*(b.states.length-b.loop.toNat))=c at *
 generalize (t-M) % ((a.states.length-a.loop.toNat)*(b.states.length-b.loop.toNat))=r at *
 have et:t=M+r+(a.states.length-a.loop.toNat)*(b.states.length-b.loop.toNat)*c:=by omega
 have e1:ixT a t=ixT a (M+r):=by
  rw[et,Nat.mul_assoc,Nat.mul_comm (a.states.length-a.loop.toNat)];exact mj ha (by omega) _
 have e2:ixT b t=ixT b (M+r):=by
  rw[et,Nat.mul_comm (a.states.length-a.loop.toNat),Nat.mul_assoc,Nat.mul_comm (b.states.length-b.loop.toNat)];exact mj hb (by omega) _
 have:=h (M+r) (by omega);unfold stT at this⊢;rw[e1,e2];exact this
theorem qj1{ts:TS}{a b:Md}(ha:a.loop.toNat<a.states.length)(hb:b.loop.toNat<b.states.length)(hat:a.sc.atoms=b.sc.atoms)(h:∀ t,stT a t=stT b t):Bis ⟨ts,a⟩ ⟨ts,b⟩ 0 0:=⟨rfl,hat,fun k=>by
 rw[Xl ⟨ts,a⟩ ha,Xl ⟨ts,b⟩ hb];exact h k⟩
theorem ml{ts:TS}{a b:Md}(hat:a.sc.atoms=b.sc.atoms)(φ:Nat->Nat)(N:Nat)(hb:OkX ⟨ts,b⟩ N)(h0:φ 0=0)(hN:0<N)(hφ:∀ t,t<N->φ (Mo.nx ⟨ts,b⟩ t)=Mo.nx ⟨ts,a⟩ (φ t))(hs:∀ t,t<N->a.states.getD (φ t) []=b.states.getD t []):Bis ⟨ts,a⟩ ⟨ts,b⟩ 0 0:=by
 have key:∀ k,φ (it ⟨ts,b⟩ k 0)=it ⟨ts,a⟩ k 0:=fun k=>by
  induction k with
  |zero=>exact h0
  |succ k ih=>rw[uw,uw,hφ _ (Qn hb hN k),ih]
 exact⟨rfl,hat,fun k=>by rw[<-key k];exact hs _ (Qn hb hN k)⟩
def jR(m:Md):Md:=⟨⟨m.sc.atoms,(m.states.length+1:Nat)⟩,m.states++[m.states.getD m.loop.toNat []],m.loop+1⟩
def jE(m:Md):Md:=⟨⟨m.sc.atoms,(m.states.length+(m.states.length-m.loop.toNat):Nat)⟩,m.states++m.states.drop m.loop.toNat,(m.states.length:Nat)⟩
theorem mn(a:List Int)(n n':Int)(k:Int):∀(l:List Int) (t:Int),vG ⟨a,n⟩ k l t=vG ⟨a,n'⟩ k l t
 | [],t=>rfl
 |x :: l,t=>by
  unfold vG;rw[mn a n n' k l];rfl
theorem qj2(sc:Sc)(n:Int)(l:List Int)(r:Rl):vW ⟨sc.atoms,n⟩ l r=vW sc l r:=by
 obtain⟨a,n'⟩:=sc;unfold vW;congr 1;funext t;exact mn a n n' _ _ _
theorem Xm{sp:Sp}{m:Md}(v:MVal sp m)(S:List (List Rl))(L:Int)(n:Int)(hn:(S.length:Int)=n)(hS:∀ s,s∈S->s∈m.states)(h0:S[0]?=m.states[0]?)(h1:1<=S.length)(h4:S.length<=4)(hL0:0<=L)(hL:L<S.length):MVal sp ⟨⟨m.sc.atoms,n⟩,S,L⟩:=by
 have hs:=v.sc;have key:∀(s:Nat) (h:s<S.length),∃(t:Nat) (h':t<m.states.length),S[s]=m.states[t]:=fun s h=>by
  obtain⟨t,ht,e⟩:=uF (hS _ (qu h));exact⟨t,ht,e.symm⟩
 have hlen:∀(s:Nat) (h:s<S.length),S[s].length=sp.fields.length:=fun s h=>by
  obtain⟨t,ht,e⟩:=key s h;rw[e];exact v.len t ht
 refine { sc:=?_,ns:=hn,l0:=hL0,l1:=by show L<n;omega,fld:=v.fld,len:=hlen,cell:=?_ }
 .simp only[jC,qx,decide_eq_true_eq,qy]at hs⊢
  obtain⟨⟨⟨⟨⟨a1,a2⟩,a3⟩,a4⟩,a5⟩,a6⟩:=hs;exact⟨⟨⟨⟨⟨a1,a2⟩,by omega⟩,by omega⟩,a5⟩,a6⟩
 .intro s i hs' hi
  obtain⟨t,ht,e⟩:=key s hs';have hc:=v.cell t i ht hi;unfold ZH at hc⊢;have hil:i<S[s].length:=by rw[hlen s hs'];exact hi
  have e':S[s][i]'hil=m.states[t][i]'(by rw[v.len];exact hi):=by simp only[e]
  show (S[s][i]'hil).ar=_/\yW (sumI m.sc.atoms) (S[s][i]'hil)=true/\vW ⟨m.sc.atoms,n⟩ sp.fields[i].sorts (S[s][i]'hil)=true/\(_->(S[0]?.bind (·[i]?))=some (S[s][i]'hil));rw[e',h0,qj2];exact hc
structure Q0 (m m':Md):Prop where
 at_:m'.sc.atoms=m.sc.atoms
 sc:(m'.states.length:Int)=m'.sc.steps
 n1:1<=m'.states.length
 le:m'.states.length<=m.states.length
 sub:∀ s,s∈m'.states->s∈m.states
 hd:m'.states[0]?=m.states[0]?
 l0:0<=m'.loop
 l1:m'.loop<m'.states.length
 tr:∀ t,stT m' t=stT m t
theorem Q0.val{sp:Sp}{m m':Md}(h:Q0 m m')(v:MVal sp m)(h4:m.states.length<=4):MVal sp m':=by
 have:=Xm v m'.states m'.loop m'.sc.steps h.sc h.sub h.hd h.n1 (by have:=h.le;omega) h.l0 h.l1;rw[<-h.at_]at this;exact this
theorem Q0.small{sp:Sp}{m m':Md}(h:Q0 m m')(v:Qx sp m):Qx sp m':=by
 refine⟨v.ns,v.nf,by have:=h.le;have:=v.nt;omega,by rw[h.at_];exact v.na,fun i hi=>?_,v.fs⟩;obtain⟨t,ht,e⟩:=uF (h.sub _ (qu hi));have hv:=v.st t ht;rw[e]at hv;exact hv
theorem qj3{ts:TS}{m:Md}(h0:0<=m.loop)(h1:m.loop.toNat<m.states.length):Bis ⟨ts,m⟩ ⟨ts,jR m⟩ 0 0:=by
 have hl:(jR m).states.length=m.states.length+1:=by simp[jR]
 have hlp:(jR m).loop.toNat=m.loop.toNat+1:=by show (m.loop+1).toNat=_;omega
 have hnx:∀ t,Mo.nx ⟨ts,jR m⟩ t=if t<m.states.length then t+1 else m.loop.toNat+1:=fun t=>by
  unfold Mo.nx;rw[hl,hlp];by_cases h:t<m.states.length
  .rw [if_pos (by omega),if_pos h]
  .rw [if_neg (by omega),if_neg h]
 have hnm:∀ t,Mo.nx ⟨ts,m⟩ t=if t+1<m.states.length then t+1 else m.loop.toNat:=fun t=>rfl
 refine ml rfl (fun t=>if t<m.states.length then t else m.loop.toNat) (m.states.length+1) ⟨hl,fun t ht=>?_⟩ ?_ (by omega) (fun t ht=>?_) fun t ht=>?_
 .rw [hnx];split<;>omega
 .show (if 0<m.states.length then 0 else _)=0
  rw[if_pos (by omega)]
 .show (if _<m.states.length then _ else _)=_
  rw[hnx,hnm];by_cases h:t<m.states.length
  .rw [if_pos h,if_pos h]
  .rw [if_neg h,if_neg h]
 .simp only[jR,zz]
  by_cases h:t<m.states.length
  .rw [if_pos h,qp h]
  .rw [if_neg h,show t=m.states.length by omega,qV (qr _),Nat.sub_self];rfl
theorem qj4{ts:TS}{m:Md}(h0:0<=m.loop)(h1:m.loop.toNat<m.states.length):Bis ⟨ts,m⟩ ⟨ts,jE m⟩ 0 0:=by
 have hl:(jE m).states.length=m.states.length+(m.states.length-m.loop.toNat):=by simp[jE]
 have hlp:(jE m).loop.toNat=m.states.length:=by show ((m.states.length:Nat):Int).toNat=_;omega
 have hnx:∀ t,Mo.nx ⟨ts,jE m⟩ t=if t+1<m.states.length+(m.states.length-m.loop.toNat) then t+1 else m.states.length:=fun t=>by
  unfold Mo.nx;rw[hl,hlp]
 have hnm:∀ t,Mo.nx ⟨ts,m⟩ t=if t+1<m.states.length then t+1 else m.loop.toNat:=fun t=>rfl
 refine ml rfl (fun t=>if t<m.states.length then t else m.loop.toNat+(t-m.states.length)) (m.states.length+(m.states.length-m.loop.toNat)) ⟨hl,fun t ht=>?_⟩ ?_ (by omega) (fun t ht=>?_) fun t ht=>?_
 .rw [hnx];split<;>omega
 .show (if 0<m.states.length then 0 else _)=0
  rw[if_pos (by omega)]
 .show (if _<m.states.length then _ else _)=_
  rw[hnx,hnm];by_cases h:t<m.states.length
  .rw [if_pos h,if_pos (show t+1<m.states.length+(m.states.length-m.loop.toNat) by omega)]
   by_cases h2:t+1<m.states.length
   .rw [if_pos h2,if_pos h2]
   .rw [if_neg h2,if_neg h2];omega
  .rw [if_neg h]
   by_cases h2:t+1<m.states.length+(m.states.length-m.loop.toNat)
   .rw [if_pos h2,if_neg (by omega),if_pos (by omega)];omega
   .rw [if_neg h2,if_neg (by omega),if_neg (by omega)];omega
 .simp only[jE,zz]
  by_cases h:t<m.states.length
  .rw [if_pos h,qp h]
  .rw [if_neg h,qV (by omega),yA]
end FR
namespace FS
open E3 E4 EO EQ EY F1 F4 FR
def VF(P:Program)(fv:AV){α:Type}(enc:α->AV)(ok:α->α->Prop)(p:α->α->Bool):Prop:=
 HF fv/\∃ fid caps,fv = .fn (.func fid) [] caps/\∀ x y,ok x y->∃ args',WKs ([enc x,enc y]++caps) args'/\qi P fid args' (aB (p x y))
theorem VF.call{P:Program}{fv:AV}{α:Type}{enc:α->AV}{ok:α->α->Prop}{p:α->α->Bool}(h:VF P fv enc ok p){x y:α}(hx:ok x y){det:Bool}{mu:Mu}{K Kp:AV->Mu->Prop}(k:K (aB (p x y)) mu):qb P det mu fv [enc x,enc y] K Kp:=by
 obtain⟨_,fid,caps,rfl,h⟩:=h;obtain⟨args',h1,h2⟩:=h x y hx;exact .inl ⟨_,.inl ⟨fid,[],caps,args',rfl,h2,.inl (by simpa using h1)⟩,k⟩
def uc{α:Type}(p:α->α->Bool):List α->List α->Bool
 |x :: xs,y :: ys=>p x y&&uc p xs ys
 | [],[]=>true
 |_,_=>false
theorem mq{α:Type}(p:α->α->Bool):∀(xs ys:List α),xs.length≠ys.length->uc p xs ys=false
 | [],[],h=>absurd rfl h
 | [],_ :: _,_=>rfl
 |_ :: _,[],_=>rfl
 |x :: xs,y :: ys,h=>by
  rw[uc,mq p xs ys (by simpa using h),Bool.and_false]
theorem qj5{α:Type}(p:α->α->Bool)(xs ys:List α)(k:Nat)(h1:k<xs.length)(h2:k<ys.length):uc p (xs.drop k) (ys.drop k)=(p xs[k] ys[k]&&uc p (xs.drop (k+1)) (ys.drop (k+1))):=by
 rw[zj h1,zj h2,uc]
theorem qj6(xs ys:List Rl)(fv:AV)(p:Rl->Rl->Bool)(hf:VF qd fv eRel (fun x y=>x∈xs/\y∈ys) p)(hl:xs.length<=1000000000) :
  qi qd 194 [lRel xs,lRel ys,fv] (aB (uc p xs ys)):=by
 refine qSQ call194 func194 rfl {} ?_;simp[go_sem];by_cases hne:xs.length=ys.length
 rotate_left
 .simp [go_sem,hne,mq p xs ys hne]
  exact .hf _ (HF.sc _)
 simp[go_sem,hne];refine ql.up xs.length (fun k st=>st.tm 1=lRel ys/\st.tm 2=fv/\st.tm 15=lRel xs/\st.tm 16=aI xs.length/\st.tm 17=aI k/\uc p (xs.drop k) (ys.drop k)=uc p xs ys) ?_ ?_
 .simp [go_sem,hne]
 rintro k st hk ⟨e1,e2,e15,e16,e17,hi⟩;by_cases hlt:k<xs.length
 .have hlt2:k<ys.length:=by omega
  rw[qj5 p xs ys k hlt hlt2]at hi;simp[go_sem,e1,e2,e15,e16,e17,hlt,hlt2];refine VF.call (enc:=eRel) hf ⟨qu hlt,qu hlt2⟩ ?_;cases hp:p xs[k] ys[k] with
  |true =>
   rw[hp,Bool.true_and]at hi;simp[go_sem,e1,e2,e15,e16,e17,hlt,hlt2];exact⟨qg (by omega) (by omega),hi⟩
  |false =>
   rw[hp,Bool.false_and]at hi;simp[go_sem,e1,e2,e15,e16,e17,hlt,hlt2];rw[<-hi];exact .hf _ (HF.sc _)
 .have hge:k=xs.length:=by omega
  subst hge;rw[zL,hne,zL]at hi;simp[go_sem,e1,e2,e15,e16,e17];rw[<-hi];exact .hf _ (HF.sc _)
theorem mr{α:Type} [DecidableEq α]:∀(xs ys:List α),uc (fun x y=>decide (x=y)) xs ys=decide (xs=ys)
 | [],[]=>rfl
 | [],_ :: _=>rfl
 |_ :: _,[]=>rfl
 |x :: xs,y :: ys=>by
  rw[uc,mr xs ys,Bool.eq_iff_iff];simp
theorem mv(f:FuncId):HF (.fn (.func f) [] []):=HF.fn (fun c hc=>by simp at hc) (fun c hc=>by simp at hc)
theorem U1(xs ys:List Rl)(hl:xs.length<=1000000000)(ht:∀ r,r∈xs->r.ts.length<=1000000000):qi qd 154 [lRel xs,lRel ys] (aB (decide (xs=ys))):=by
 refine qSQ call154 func154 rfl {} ?_;simp[go_sem];refine qb.pure (qj6 xs ys _ (fun x y=>decide (x=y)) ⟨mv _,_,_,rfl,fun x y hxy=>⟨[eRel x,eRel y],by simpa using WKs.cons (.hf (qM x)) (.cons (.hf (qM y)) .nil),J7 x y (by have:=ht x hxy.1;omega)⟩⟩ hl) (.cons (.hf (wF _)) (.cons (.hf (wF _)) (.cons (.hf (mv _)) .nil))) ?_;rw[mr];simp[go_sem];exact .hf _ (HF.sc _)
theorem uE(xs:List (List Rl)):zh 1 (xs.map cSt):=fun r hr=>by
 obtain⟨n,_,rfl⟩:=qs.1 hr;exact⟨rfl,rfl⟩
structure MdT (m:Md):Prop where
 l0:0<=m.loop
 l1:m.loop.toNat<m.states.length
 n:m.states.length<=1000
 na:m.sc.atoms.length<=1000
 nf:∀ s,s∈m.states->s.length<=1000
 nt:∀ s,s∈m.states->∀ r,r∈s->r.ts.length<=1000000
theorem mw(m:Md)(g:MdT m)(t:Nat)(ht:t<=10000000):qi qd 155 [eMd m,aI t] (aI (ixT m t:Nat)):=by
 obtain⟨l,hl⟩:=Int.eq_ofNat_of_zero_le g.l0;have hn:=g.n;have h1:=g.l1;have hlt:l<m.states.length:=by rw[hl]at h1;simpa using h1
 have hlN:m.loop.toNat=l:=by rw[hl];simp
 unfold ixT;rw[hlN];refine qSQ call155 func155 rfl {} ?_;by_cases h:t<m.states.length
 .rw [if_pos h]
  have h':¬m.states.length<=t:=by omega
  simp[go_sem,h,h'];exact .hf _ (HF.sc _)
 .rw [if_neg h]
  have w1:qj.wrap ((t:Int)-l)=(t:Int)-l:=qg (by omega) (by omega);have w2:qj.wrap ((m.states.length:Int)-l)=(m.states.length:Int)-l:=qg (by omega) (by omega);have nz:¬(m.states.length:Int)-l=0:=by omega
  have hmod:((t:Int)-l).tmod ((m.states.length:Int)-l)=((t-l) % (m.states.length-l):Nat):=by
   rw[show (t:Int)-l=((t-l:Nat):Int) by omega,show (m.states.length:Int)-l=((m.states.length-l:Nat):Int) by omega];rfl
  have hb:=Nat.mod_lt (t-l) (show 0<m.states.length-l by omega);have w3:qj.wrap ((l:Int)+((t-l:Nat):Int) % ((m.states.length-l:Nat):Int))=(l:Int)+((t-l:Nat):Int) % ((m.states.length-l:Nat):Int):=by
   have em:((t-l:Nat):Int) % ((m.states.length-l:Nat):Int)=(((t-l) % (m.states.length-l):Nat):Int):=rfl;rw[em];exact qg (by omega) (by omega)
  have h':m.states.length<=t:=by omega
  simp[go_sem,h,h'];refine qe.intro (by kernel_rfl) ?_;simp[go_sem,hl,w1,w2,nz,hmod,w3];exact .hf _ (HF.sc _)
theorem Xn{α:Type}{l:List α}{i:Nat}(h:i<l.length)(d:α):l.getD i d=l[i]:=by rw[zz,qv h];rfl
theorem same1(a b:Md)(ga:MdT a)(gb:MdT b)(t:Nat)(ht:t<=10000000):qi qd 153 [aI t,.ip (cMd a),.ip (cMd b)] (aB (decide (stT a t=stT b t))):=by
 have ia:=mw a ga t ht;have ib:=mw b gb t ht;have la:=mi ga.l1 t;have lb:=mi gb.l1 t;have hs:=U1 a.states[ixT a t] b.states[ixT b t] (by have:=ga.nf _ (qu la);omega) (fun r hr=>by have:=ga.nt _ (qu la) r hr;omega);unfold stT;rw[Xn la,Xn lb];refine qSQ call153 func153 rfl {} ?_;simp[go_sem];refine qe.intro (by kernel_rfl) ?_;simp[go_sem];refine qb.pure ia (.cons (.hf (yx a)) (.cons (.hf (HF.sc _)) .nil)) ?_;simp[go_sem,la];refine qb.pure ib (.cons (.hf (yx b)) (.cons (.hf (HF.sc _)) .nil)) ?_;simp[go_sem,lb];refine qb.pure hs (.cons (.hf (wF _)) (.cons (.hf (wF _)) .nil)) ?_;simp[go_sem];exact .hf _ (HF.sc _)
def trB(a b:Md):Bool:=decide (a.sc.atoms=b.sc.atoms)&&(qq (horT a b)).all fun t=>decide (stT a t=stT b t)
theorem qj7{a b:Md}(ga:MdT a)(gb:MdT b):horT a b<=2000000:=by
 have h1:=ga.n;have h2:=gb.n;have h3:=ga.l1;have h4:=gb.l1;unfold horT;have h5:(a.states.length-a.loop.toNat)*(b.states.length-b.loop.toNat)<=1000*1000:=Nat.mul_le_mul (by omega) (by omega);have:max a.loop.toNat b.loop.toNat<=1000:=Nat.max_le.2 ⟨by omega,by omega⟩;omega
theorem qj8(a b:Md)(ga:MdT a)(gb:MdT b):qi qd 86 [eMd a,eMd b] (aB (trB a b)):=by
 obtain⟨la,hla⟩:=Int.eq_ofNat_of_zero_le ga.l0;obtain⟨lb,hlb⟩:=Int.eq_ofNat_of_zero_le gb.l0;have hna:=ga.n;have hnb:=gb.n;have h1a:=ga.l1;have h1b:=gb.l1;have hH:=qj7 ga gb;generalize hR:trB a b=R;unfold trB at hR;refine qSQ call86 func86 rfl {} ?_;simp[go_sem];refine qb.pure (UR a.sc.atoms b.sc.atoms (by have:=ga.na;omega)) (.cons (.hf (zM _)) (.cons (.hf (zM _)) .nil)) ?_;by_cases h0:a.sc.atoms=b.sc.atoms
 rotate_left
 .rw [decide_eq_false h0,Bool.false_and]at hR
  subst hR;simp[go_sem,h0];exact .hf _ (HF.sc _)
 rw[decide_eq_true h0,Bool.true_and]at hR;simp[go_sem,h0];refine qe.intro (by kernel_rfl) ?_;have hlA:la<a.states.length:=by rw[hla]at h1a;simpa using h1a
 have hlB:lb<b.states.length:=by rw[hlb]at h1b;simpa using h1b
 have hH':horT a b=max la lb+(a.states.length-la)*(b.states.length-lb):=by unfold horT;rw[hla,hlb];simp
 have w1:qj.wrap ((a.states.length:Int)-la)=((a.states.length-la:Nat):Int):=by rw[qg (by omega) (by omega)];omega
 have w2:qj.wrap ((b.states.length:Int)-lb)=((b.states.length-lb:Nat):Int):=by rw[qg (by omega) (by omega)];omega
 have w3:qj.wrap (((a.states.length-la:Nat):Int)*((b.states.length-lb:Nat):Int))=(((a.states.length-la)*(b.states.length-lb):Nat):Int):=by
  have:(a.states.length-la)*(b.states.length-lb)<=1000*1000:=Nat.mul_le_mul (by omega) (by omega);rw[<-Int.natCast_mul];exact qg (by omega) (by omega)
 have w4:∀ x y:Nat,x+y=horT a b->qj.wrap ((x:Int)+(y:Int))=((horT a b:Nat):Int):=fun x y e=>by rw[qg (by omega) (by omega)];omega
 have w5:qj.wrap ((if la<lb then (lb:Int) else (la:Int))+((a.states.length-la:Nat):Int)*((b.states.length-lb:Nat):Int))=((horT a b:Nat):Int):=by
  have e:(if la<lb then (lb:Int) else (la:Int))=((max la lb:Nat):Int):=by
   split
   .rw [Nat.max_eq_right (by omega)]
   .rw [Nat.max_eq_left (by omega)]
  rw[e,<-Int.natCast_mul];exact w4 _ _ hH'.symm
 simp[go_sem,hla,hlb,w1,w2,w3,w5];refine ql.up (horT a b) (fun k st=>st.tm 2 = .ip (cMd a)/\st.tm 3 = .ip (cMd b)/\st.tm 5 = .fn (.func 153) [] [.ip (cMd a),.ip (cMd b)]/\st.tm 38=aI (horT a b:Nat)/\st.tm 39=aI k/\∀ j,j<k->stT a j=stT b j) ?_ ?_
 .simp [go_sem]
 rintro k st hk ⟨e2,e3,e5,e38,e39,hi⟩;by_cases hlt:k<horT a b
 .simp [go_sem,e2,e3,e5,e38,e39,hlt]
  refine .inl ⟨_,.inl ⟨_,_,_,[aI k,.ip (cMd a),.ip (cMd b)],rfl,same1 a b ga gb k (by omega),.inl (by simpa using WKs.cons (.hf (HF.sc _)) (.cons (.hf (HF.ip (J8 a))) (.cons (.hf (HF.ip (J8 b))) .nil)))⟩,?_⟩;by_cases hp:stT a k=stT b k
  .simp [go_sem,e2,e3,e5,e38,e39,hlt,hp]
   refine⟨qg (by omega) (by omega),fun j hj=>?_⟩;rcases Nat.lt_succ_iff_lt_or_eq.1 hj with h|rfl
   .exact hi j h
   .exact hp
  .have hf:R=false:=by
    rw[<-hR,List.all_eq_false];exact⟨k,zI.2 hlt,by simp[hp]⟩
   subst hf;simp[go_sem,e2,e3,e5,e38,e39,hlt,hp];exact .hf _ (HF.sc _)
 .have hge:k=horT a b:=by omega
  subst hge;have ht:R=true:=by
   rw[<-hR,qy];exact fun j hj=>decide_eq_true (hi j (zI.1 hj))
  subst ht;simp[go_sem,e2,e3,e5,e38,e39];exact .hf _ (HF.sc _)
def cutT(m:Md)(n l:Nat):Md:=⟨⟨m.sc.atoms,(n:Nat)⟩,m.states.take n,(l:Nat)⟩
theorem my{m:Md}(g:MdT m){n l:Nat}(hn:n<=m.states.length)(hl:l<n):MdT (cutT m n l):=by
 have hlen:(cutT m n l).states.length=n:=by simp[cutT];omega
 have hlp:(cutT m n l).loop.toNat=l:=by show ((l:Nat):Int).toNat=l;simp
 refine⟨by show (0:Int)<=(l:Nat);omega,by rw[hlen,hlp];exact hl,by rw[hlen];have:=g.n;omega,g.na,fun s hs=>g.nf s (jV hs),fun s hs=>g.nt s (jV hs)⟩
theorem qj9{m:Md}(g:MdT m){n l:Nat}(hn:n<=m.states.length)(hl:l<n)(h:trB (cutT m n l) m=true):Q0 m (cutT m n l):=by
 have gc:=my g hn hl;have hlen:(cutT m n l).states.length=n:=by simp[cutT];omega
 simp only[trB,qx,qy,zI,decide_eq_true_eq]at h;refine⟨rfl,by rw[hlen];rfl,by omega,by omega,fun s hs=>jV hs,?_,gc.l0,by rw[hlen];show ((l:Nat):Int)<n;omega,qj0 gc.l1 g.l1 h.2⟩;show (m.states.take n)[0]?=_;rw[List.getElem?_take,if_pos (by omega)]
def VG(m:Md):Md:=⟨⟨m.sc.atoms,(m.states.length:Nat)⟩,m.states,m.loop⟩
structure Sh0 (m m':Md):Prop where
 s:Q0 m (VG m')
 g:MdT m'
theorem OwnF.push{lo:Nat}{mu:Mu}{sz:Nat}{av:AV}{xs:List (List AV)}(h:OwnF lo mu sz av xs)(c:List Cell):OwnF lo (mu++c) sz av xs:=by
 obtain⟨ho,hb,hl⟩:=h;refine⟨?_,hb,by simp;omega⟩;rcases ho with rfl|⟨b,rfl,hc⟩
 .exact .inl rfl
 .have:b<mu.length:=(List.getElem?_eq_some_iff.1 hc).1
  exact .inr ⟨b,rfl,by rw[qp this];exact hc⟩
theorem OwnF.rdR{lo:Nat}{mu:Mu}{av:AV}{xs:List Rl}(h:OwnF lo mu 2 av (xs.map cRel)):Rd mu av (lRel xs):=
 h.1.rd (uq xs).ok fun r hr c hc=>by
  obtain⟨n,_,rfl⟩:=qs.1 hr;exact Zs n c hc
theorem qkA{m:Md}(g:MdT m)(h:1<=m.states.length):Sh0 m m:=⟨⟨rfl,rfl,h,qr _,fun s hs=>hs,rfl,g.l0,by have:=g.l0;have:=g.l1;show m.loop<(m.states.length:Int);omega,fun t=>rfl⟩,g⟩
theorem qkB(l:List Rl)(hl:l.length<=1000)(ht:∀ r,r∈l->r.ts.length<=1000000):qi qd 87 [lRel l] (lRel l):=by
 refine qSQ call87 func87 rfl {} ?_;simp[go_sem,show (l.length:Int)<=4294967296 by omega];refine ql.keep (fun m st=>∃ k av,m=l.length-k/\k<=l.length/\st.tm 3=av/\st.tm 9=lRel l/\st.tm 10=aI l.length/\st.tm 11=aI (k:Nat)/\OwnF 0 st.mu 2 av ((l.take k).map cRel)) l.length ?_ ?_
 .refine ⟨0,_,by omega,by omega,rfl,by simp[go_sem],by simp[go_sem],by simp[go_sem],?_⟩
  simp[go_sem];exact⟨.inr ⟨0,rfl,by simp⟩,(fun b s o l e=>Nat.zero_le _),by simp⟩
 rintro m st ⟨k,av,rfl,hk,e3,e9,e10,e11,ho⟩;by_cases hlt:k<l.length
 .have htk:l.take (k+1)=l.take k++[l[k]]:=by rw[List.take_add_one,qv hlt];rfl
  simp[go_sem,e3,e9,e10,e11,hlt];refine qe.intro (by kernel_rfl) ?_;simp[go_sem,e3,e9,e10,e11,hlt];refine qb.pure (U8 l[k].ts (by have:=ht _ (qu hlt);omega)) (.cons (.hf (zM _)) .nil) ?_;simp[go_sem,e3,e9,e10,e11,hlt];refine qF.ownF (lo:=0) (e:=42) (sz:=2) (bt:=32) (zv := .agg [aI 0,.lst true []]) (xs:=(l.take k).map cRel) (ys:=[cRel l[k]]) (by simp[go_sem]) (by simp[go_sem]) (by simp[go_sem]) rfl rfl (by omega) (by omega) (FS.OwnF.push ho _) (by simp[qG]) (uq _) (uq [l[k]]) (by simp;omega) ?_;intro av' mu' ho' hs';have hcat:(l.take k).map cRel++[cRel l[k]]=(l.take (k+1)).map cRel:=by rw[htk,zm];rfl
  rw[hcat]at ho';simp[go_sem,e3,e9,e10,e11,hlt];refine Keep.loop (l.length-(k+1)) (by omega) ⟨k+1,av',rfl,by omega,by simp[go_sem],by simp[go_sem,e9],by simp[go_sem,e10],?_,ho'⟩;simp[go_sem];exact qg (by omega) (by omega)
 .have hge:k=l.length:=by omega
  subst hge;simp[go_sem,e3,e9,e10,e11];rw[zw]at ho;exact FS.OwnF.rdR ho
theorem ql.mid{P:Program}{pl:Pol}{body:Code}{M Q:qZ->St->Prop}{st:St}(h:ql P pl body M st)(k:∀ e st,M e st->Q e st):ql P pl body Q st:=by
 obtain⟨z,I,n,st',f,hI,hb⟩:=h;have hz:∀ e st,fzQ z M e st->fzQ z Q e st:=fun e st he=>by
  cases z with
  |false=>exact k e st he
  |true =>
   obtain⟨st1,f1,hp,hq⟩:=he;exact⟨st1,f1,hp,k _ _ hq⟩
 refine⟨z,I,n,st',f,hI,fun n st hI=>awp.mono body (hb n st hI) fun e st he=>?_⟩;cases e with
 |normal=>exact he
 |ret=>exact hz _ _ he
 |exit i=>exact hz _ _ he
 |pan v=>exact hz _ _ he
def JT(m:Md)(st:St):Prop:=st.tm 1 = .ptr 0 0/\st.tm 2 = .ptr 1 0/\∃ rest,st.mu = .arr (cMd m) :: .arr [.lst true [],aI 0,.lst true [],aI 0] :: rest
theorem qkC{A mu' r:Mu}{x:Cell}(hl:A.length<mu'.length)(hs:∀ i,i<=A.length->mu'[i]?=(A++x :: r)[i]?):∃ r',mu'=A++x :: r':=⟨mu'.drop (A.length+1),by
 apply List.ext_getElem?;intro i;by_cases hi:i<A.length
 .rw [qp hi,hs i (by omega),qp hi]
 .rw [qV (by omega)]
  by_cases hi2:i=A.length
  .subst hi2
   rw[hs _ (qr _),qV (qr _)];simp
  .obtain ⟨q,hq⟩:∃ q,i-A.length=q+1:=⟨i-A.length-1,by omega⟩
   rw[hq,List.getElem?_cons_succ,yA];congr 1;omega⟩
theorem qkD(m:Md)(g:MdT m)(h1:1<=m.states.length):qQ qd 43 [eMd m] fun e=>∃ m',e = .ret (eMd m')/\Q0 m m':=by
 refine qQ.of_sound ?_;refine qSW call43 func43 rfl { mt:=[1] } ?_;simp[go_sem];refine FS.ql.mid (M:=fun e st=>e = .exit 0/\∃ m',Sh0 m m'/\JT m' st) ?_ ?_
 .refine ql.keep (fun q st=>∃ n:Nat,q=m.states.length-n/\1<=n/\n<=m.states.length/\JT m st/\st.tm 3=aI m.states.length/\st.tm 4=aI n) (m.states.length-1) ?_ ?_
  .exact ⟨1,rfl,qr _,h1,⟨by simp[go_sem],by simp[go_sem],by simp[go_sem]⟩,by simp[go_sem],by simp[go_sem]⟩
  rintro q st ⟨n,rfl,hn1,hn,⟨e1,e2,rest,hm⟩,e3,e4⟩;by_cases hlt:n<m.states.length
  .simp [go_sem,e1,e2,hm,e3,e4,hlt]
   have w1:qj.wrap ((n:Int)-1)=(n:Int)-1:=qg (by omega) (by have:=g.n;omega);simp[go_sem,e1,e2,hm,e3,e4,hlt,w1];refine FS.ql.mid (M:=fun e st=>(e = .exit 0/\∃ m',Sh0 m m'/\JT m' st)\/(e = .exit 2/\JT m st/\st.tm 3=aI m.states.length/\st.tm 4=aI n)) ?_ ?_
   .refine ql.keep (fun q st=>∃ l:Nat,q=l/\l<=n/\JT m st/\st.tm 3=aI m.states.length/\st.tm 4=aI n/\st.tm 5=aI ((l:Int)-1)) n ?_ ?_
    .refine ⟨n,rfl,qr _,⟨by simp[go_sem,e1],by simp[go_sem,e2],by simp[go_sem,hm]⟩,by simp[go_sem,e3],by simp[go_sem,e4],by simp[go_sem]⟩
    rintro l st ⟨_,rfl,hl,⟨e1,e2,rest,hm⟩,e3,e4,e5⟩;by_cases h0:l=0
    .subst h0
     simp[go_sem,e1,e2,hm,e3,e4,e5];exact⟨by simp[go_sem,e1],by simp[go_sem,e2],rest,by simp[go_sem]⟩
    .have hp:(1:Int)<=l:=by omega
     simp[go_sem,e1,e2,hm,e3,e4,e5,hp];refine qe.intro (by kernel_rfl) ?_;simp[go_sem,e1,e2,hm,e3,e4,e5,hp,hn];refine⟨⟨_,_,⟨rfl,rfl⟩,(uE m.states).ok⟩,?_⟩;have gc:=my g hn (show l-1<n by omega);have hT:=qj8 (cutT m n (l-1)) m gc g;have ec:AV.agg [.lst false (List.map rI m.sc.atoms),.sc (.int .i64 n),.lst false (List.take n (List.map cSt m.states)),.sc (.int .i64 ((l:Int)-1))]=eMd (cutT m n (l-1)):=by
      have:(((l-1:Nat)):Int)=(l:Int)-1:=by omega
      simp[cutT,this]
     refine qb.pure hT (.cons (by rw[ec];exact .hf (yx _)) (.cons (.hf (yx m)) .nil)) ?_;cases hB:trB (cutT m n (l-1)) m with
     |true =>
      simp[go_sem,e1,e2,hm,e3,e4,e5,hp,hn];have hcs:=qj9 g hn (show l-1<n by omega) hB;have gst:VG (cutT m n (l-1))=cutT m n (l-1):=by simp[VG,cutT,List.length_take,Nat.min_eq_left hn]
      exact⟨cutT m n (l-1),⟨by rw[gst];exact hcs,gc⟩,by simp[go_sem,e1],by simp[go_sem,e2],_,by simp[go_sem];exact⟨⟨rfl,rfl,by simp[cutT,List.map_take],by simp[cutT];omega⟩,rfl⟩⟩
     |false =>
      have w2:qj.wrap ((l:Int)-1-1)=(l:Int)-1-1:=qg (by omega) (by have:=g.n;omega);simp[go_sem,e1,e2,hm,e3,e4,e5,hp,hn,w2];exact Keep.loop (l-1) (by omega) ⟨l-1,rfl,by omega,⟨by simp[go_sem,e1],by simp[go_sem,e2],_,by simp[go_sem];rfl⟩,by simp[go_sem,e3],by simp[go_sem,e4],by simp[go_sem];omega⟩
   .rintro _ st (⟨rfl,m',hs,hj⟩|⟨rfl,⟨e1,e2,rest,hm⟩,e3,e4⟩)
    .simp [go_sem]
     exact⟨m',hs,hj⟩
    .have w2:qj.wrap ((n:Int)+1)=((n+1:Nat):Int):=by rw[qg (by omega) (by have:=g.n;omega)];omega
     simp[go_sem,e1,e2,hm,e3,e4,w2];exact Keep.loop (m.states.length-(n+1)) (by omega) ⟨n+1,rfl,by omega,by omega,⟨by simp[go_sem,e1],by simp[go_sem,e2],rest,by simp[go_sem]⟩,by simp[go_sem,e3],by simp[go_sem]⟩
  .have hge:n=m.states.length:=by omega
   subst hge;simp[go_sem,e1,e2,hm,e3,e4];exact⟨m,qkA g h1,by simp[go_sem,e1],by simp[go_sem,e2],rest,by simp[go_sem]⟩
 rintro _ st ⟨rfl,m',hs,e1,e2,rest,hm⟩;simp[go_sem,e1,e2,hm];refine qe.intro (by kernel_rfl) ?_;simp[go_sem,e1,e2,hm];refine qb.pure (U8 m'.sc.atoms (by have:=hs.g.na;omega)) (.cons (.hf (zM _)) .nil) ?_;simp[go_sem,e1,e2,hm];have hAL:∀(x:Cell) (r:Mu),(rest++x :: r)[rest.length]?=some x:=fun x r=>by rw[qV (qr _)];simp
 have hAs:∀(x y:Cell) (r:Mu),(rest++x :: r).set rest.length y=rest++y :: r:=fun x y r=>by rw[List.set_append_right _ _ (qr _)];simp
 refine ql.keep (fun q st=>∃(k:Nat) (av:AV) (r2:Mu),q=m'.states.length-k/\k<=m'.states.length/\st.tm 2 = .ptr 1 0/\st.tm 7 = .ptr (rest.length+1+1) 0/\st.tm 51=lSt m'.states/\st.tm 52=aI m'.states.length/\st.tm 53=aI k /\
  st.mu = .arr (cMd m') :: .arr [.lst true [],aI 0,.lst true [],aI 0] :: (rest++(.arr [lI m'.sc.atoms,aI m'.states.length,av,aI m'.loop] :: r2))/\Own st.mu 1 av ((m'.states.take k).map cSt)/\∀ b,qt av=some b->rest.length+2<b) m'.states.length ?_ ?_
 .refine ⟨0,.lst true [],[],by omega,by omega,by simp[go_sem,e2],by simp[go_sem],by simp[go_sem],by simp[go_sem],by simp[go_sem],by simp[go_sem],.inl rfl,by simp[qt]⟩
 rintro q st ⟨k,av,r2,rfl,hk,e2,e7,e51,e52,e53,hm,ho,hb⟩;by_cases hlt:k<m'.states.length
 .simp [go_sem,e2,e7,e51,e52,e53,hm,hlt]
  refine qe.intro (by kernel_rfl) ?_;simp[go_sem,e2,e7,e51,e52,e53,hm,hlt,hAL];refine qb.pure (qkB m'.states[k] (hs.g.nf _ (qu hlt)) (hs.g.nt _ (qu hlt))) (.cons (.hf (wF _)) .nil) ?_;simp[go_sem,e2,e7,e51,e52,e53,hm,hlt,hAL];rw[hm]at ho;refine F4.qF.ownB (e:=77) (sz:=1) (bt:=24) (zv := .lst true []) (xs:=(m'.states.take k).map cSt) (ys:=[cSt m'.states[k]]) (by simp[go_sem]) (by simp[go_sem]) (by simp[go_sem]) rfl rfl (by omega) (by omega) ho (by simp[qG]) (uE _) (uE [m'.states[k]]) (by have:=hs.g.n;simp;omega) ?_;intro av' mu' ho' hs' hb' hl';obtain⟨r3,rfl⟩:=qkC (A := .arr (cMd m') :: .arr [.lst true [],aI 0,.lst true [],aI 0] :: rest) (mu':=mu') (x := .arr [lI m'.sc.atoms,aI m'.states.length,av,aI m'.loop]) (r:=r2) (by simp at hl' ⊢;omega) (fun i hi=>hs' i (by simp at hi⊢;omega) (fun e=>by have:=hb i e;simp at hi;omega));have w1:qj.wrap ((k:Int)+1)=((k+1:Nat):Int):=by rw[qg (by omega) (by have:=hs.g.n;omega)];omega
  have hb2:∀ b,qt av'=some b->rest.length+2<b:=fun b e=>by have:=hb' b e;simp at this;omega
  simp[go_sem,e2,e7,e51,e52,e53,hm,hlt,hAL,hAs,w1,Own.one ho',Own.cells ho'];refine Keep.loop (m'.states.length-(k+1)) (by omega) ⟨k+1,av',r3,rfl,by omega,by simp[go_sem,e2],by simp[go_sem,e7],by simp[go_sem,e51],by simp[go_sem,e52],by simp[go_sem],by simp[go_sem],?_,hb2⟩;have hcat:(m'.states.take k).map cSt++[cSt m'.states[k]]=(m'.states.take (k+1)).map cSt:=by rw[List.take_add_one,qv hlt,zm];rfl
  rw[hcat]at ho';have h2:=Own.set ho' (i:=rest.length+1+1) (.arr [lI m'.sc.atoms,aI m'.states.length,av',aI m'.loop]) (fun e=>by have:=hb2 _ e;omega);simp only[List.cons_append,List.set_cons_succ,hAs]at h2;rw[List.map_take]at h2;simp[go_sem];exact h2
 .have hge:k=m'.states.length:=by omega
  subst hge;rw[zw]at ho;rw[hm]at ho;simp[go_sem,e2,e7,e51,e52,e53,hm,hAL,Own.one ho];refine⟨_,⟨VG m',rfl,hs.s⟩,?_⟩;simp only[qcP];have h2:=Own.set ho (i:=1) (.arr [lI m'.sc.atoms,aI m'.states.length,av,aI m'.loop]) (fun e=>by have:=hb _ e;omega);simp only[List.set_cons_succ,List.set_cons_zero]at h2;have hr:=h2.rd (uE m'.states).ok (fun r hr c hc=>by
   obtain⟨s,_,rfl⟩:=qs.1 hr;simp at hc;subst hc;exact wF _)
  refine .agg _ _ rfl fun i x y hx hy=>?_
  rcases i with _|_|_|_|i
  .simp at hx hy;subst hx;subst hy;exact .hf _ (zM _)
  .simp at hx hy;subst hx;subst hy;exact .hf _ (HF.sc _)
  .simp at hx hy;subst hx;subst hy;exact hr
  .simp at hx hy;subst hx;subst hy;exact .hf _ (HF.sc _)
  .simp at hx
end FS
end Go.Proofs.YtkglmpmlfjogkaaGreatDoor
namespace Go.Ev
def qkE(pl:Pol)(ops:Array Oper):List (Nat×Nat):=let ms:=vy ops.toList [];(qq ops.size).flatMap fun j=>(qq j).filterMap fun i =>
  match ops[i]?,ops[j]? with|some a,some b=>if !ye pl ops a b||(ms.getD j 0).testBit i then none else some (i,j)|_,_=>none
def qkF(ops:Array Oper):List Nat:=(qq ops.size).filter fun i=>match ops[i]? with|some o=>Uj o|none=>false
def qkG(ops:Array Oper)(T:List Nat):List (Nat×Nat):=T.flatMap fun j=>T.filterMap fun i=>if i<j&&!(zC ops j).testBit i then some (i,j) else none
def Jf(pl:Pol)(ops:Array Oper):Nat->List Nat->List Nat
 | 0,pre=>pre
 |f+1,pre =>
  let rest:=(qq ops.size).filter fun i=>!pre.contains i
  let deps (j:Nat):Bool:=(qq ops.size).all fun i=>match q6 ops i with|some d=>!z8 ops j d||pre.contains i|none=>true
  let ord (j:Nat):Bool:=pre.all fun i=>zq pl ops i == 0||(zC ops j).testBit i
  match rest.find? fun j=>zq pl ops j == 0&&(deps j&&ord j) with
  |some j=>Jf pl ops f (pre++[j])
  |none=>match rest.find? fun j=>zq pl ops j == 1&&(deps j&&ord j) with
   |some j=>if (rest.filter fun k=>zq pl ops k == 2&&(zC ops j).testBit k).isEmpty then Jf pl ops f (pre++[j]) else
    match rest.find? fun k=>zq pl ops k == 2&&(zC ops j).testBit k with
    |some k=>Jf pl ops f (pre++[k])
    |none=>pre
   |none=>match rest.find? fun j=>zq pl ops j == 2 with
    |some j=>Jf pl ops f (pre++[j])
    |none=>pre
def autoO(pl:Pol)(ops:Array Oper):List Nat:=Jf pl ops (ops.size+1) []
open Lean Elab Tactic Meta in
elab "showfl" : tactic => do
  let g <-getMainTarget
  let g:=(<-instantiateMVars g).consumeMData
  let args:=g.getAppArgs
  let pl:=args[1]!
  let l:=args[2]!
  let arr <-mkAppM ``List.toArray #[l]
  let nil <-mkAppOptM ``List.nil #[some (mkConst ``Nat)]
  let red (e:Lean.Expr):TacticM Lean.Expr:=withTransparency .all (Lean.Meta.reduce e)
  let ok <-red (<-mkAppM ``Yf #[pl,arr])
  let cl <-red (<-mkAppM ``qkE #[pl,arr])
  logInfo m!"FL okDraw {ok} clashes {cl}"
  let O <-mkAppM ``autoO #[pl,arr]
  let Or <-red O
  let okS <-red (<-mkAppM ``Yi #[pl,arr,Or])
  let pln <-red (<-mkAppM ``plan #[pl,arr,nil,Or])
  logInfo m!"SEG {okS}\n refine DrawGo.seg {Or} {pln} (by kernel_rfl) (by kernel_rfl) (by simp [go_sem]) ?_"
  let calls <-red (<-mkAppM ``qkF #[arr])
  for X in [nil,calls] do
    let fl <-mkAppM ``jv #[pl,arr,X]
    let sz <-mkAppM ``Array.size #[arr]
    let tl <-mkAppM ``jJ #[pl,arr,X,sz]
    let f <-red fl
    let t <-red tl
    let rd <-red (<-mkAppM ``List.filter #[<-mkAppM ``Qb #[arr],fl])
    let okf <-red (<-mkAppM ``Zo #[pl,arr,X])
    let un <-red (<-mkAppM ``qkG #[arr,tl])
    logInfo m!"FL X {X} okFloat {okf}\n  F {f}\n  T {t}\n  reads {rd}\n unordered {un}"
end Go.Ev
namespace Go.Proofs.YtkglmpmlfjogkaaGreatDoor
open Go Go.Ev Go.Proofs Tryz
namespace FT
open Y1 Y9 Y16 P1 P2 YF E3 E9 EB Q4 Q8 F1 FC FD FE FF FG FI FK FR FS F4 EO
theorem mz{P:Program}{mu:Mu}{t t' e sz bt:Nat}{x:AV}{ys:List (List AV)}{zv:AV}{K:AV->Mu->Prop}(hs:qJ P t=some (e,sz,bt))(hs':(qJ P t').isSome=true)(hz:qz P e=some zv)
  (hz1:zv.cells.length=sz) (hz2:zv.cells.all AV.one=true) (hz0:sz≠0) (hb:bt<=16384) (hx:qG mu x=some ys) (wy:zh sz ys) (hl:ys.length<=4294967296) (hn:ys≠[]) (k:K (.sl mu.length sz 0 ys.length) (mu++[.arr ys.flatten])):qF P mu #[t,t'] (.lst true []) x K:=
 .inl ⟨t,t',e,sz,bt,ys,rfl,hs,hs',⟨zv,hz,hz1,hz2⟩,hz0,hb,hx,wy,.inl ⟨[],rfl,fun r hr=>by simp at hr,by simpa using hl,fun e=>absurd e hn,fun _=>by simpa using k⟩⟩
theorem mA{P:Program}{mu:Mu}{t t' e sz bt b len:Nat}{x:AV}{cells:List AV}{ys:List (List AV)}{zv:AV}{K:AV->Mu->Prop}(hs:qJ P t=some (e,sz,bt))(hs':(qJ P t').isSome=true)(hz:qz P e=some zv)
  (hz1:zv.cells.length=sz) (hz2:zv.cells.all AV.one=true) (hz0:sz≠0) (hb:bt<=16384) (hm:mu[b]?=some (.arr cells)) (hcl:cells.length=len*sz) (hx:qG mu x=some ys) (wy:zh sz ys) (hl:len+ys.length<=4294967296) (k:K (.sl mu.length sz 0 (len+ys.length)) (mu.set b .dead++[.arr (cells++ys.flatten)])):qF P mu #[t,t'] (.sl b sz 0 len) x K:=
 .inl ⟨t,t',e,sz,bt,ys,rfl,hs,hs',⟨zv,hz,hz1,hz2⟩,hz0,hb,hx,wy,.inr ⟨b,len,cells,rfl,hm,by omega,hl,by rw[zU (by omega)];exact k⟩⟩
theorem Jg(l:List (List Rl)):(l.map cSt).flatten=l.map lRel:=by
 induction l with
 |nil=>rfl
 |cons a l ih=>rw[List.map_cons,List.flatten_cons,ih];rfl
theorem qkH{sp:Sp}{m:Md}(v:MVal sp m)(s:Qx sp m)(h4:m.states.length<=4):MdT m:=by
 have h0:=v.l0;have h1:=v.l1;have hn:=v.ns;refine⟨h0,by omega,by omega,by have:=s.na;omega,fun x hx=>?_,fun x hx r hr=>?_⟩
 .obtain ⟨i,hi,rfl⟩:=uF hx
  have:=(s.st i hi).1;omega
 .obtain ⟨i,hi,rfl⟩:=uF hx
  obtain⟨j,hj,rfl⟩:=uF hr;have:=(s.st i hi).2 j hj;omega
theorem Xo{ts:TS}{m m':Md}{env:List (ByteArray×Int)}(ok:okTS ts)(F:FitP ts m 0 env)(v:MVal (spOf ts) m')(hat:m'.sc.atoms=m.sc.atoms)(h1:1<=m'.states.length)(h4:m'.states.length<=4):FitP ts m' 0 env:=
 ⟨pY ok v,⟨by show 0<m'.states.length;omega,fun e he=>by have:=F.p.env e he;simp only[Mo.n]at this⊢;rw[hat];exact this⟩,F.el,h4⟩
theorem Xp{ts:TS}{m m':Md}{env:List (ByteArray×Int)}(F:FitP ts m 0 env)(F':FitP ts m' 0 env)(h:Bis ⟨ts,m⟩ ⟨ts,m'⟩ 0 0)(n:Nd):(den ⟨ts,m'⟩ n).F ⟨0,env⟩=(den ⟨ts,m⟩ n).F ⟨0,env⟩:=
 ((py F.ma.toOkX F'.ma.toOkX (szN n) n (qr _) 0 0 env h F.p.st F'.p.st).F).symm
theorem rdSt{mu:Mu}{av:AV}{l:List (List Rl)}(h:Own mu 1 av (l.map cSt)):Rd mu av (lSt l):=h.rd (uE l).ok (fun r hr c hc=>by
 obtain⟨s,_,rfl⟩:=qs.1 hr;simp at hc;subst hc;exact wF _)
theorem rdMd{mu:Mu}{m:Md}{av:AV}(h:Rd mu av (lSt m.states)):Rd mu (.agg [lI m.sc.atoms,aI m.sc.steps,av,aI m.loop]) (eMd m) := .agg _ _ rfl fun i x y hx hy=>by
 rcases i with _|_|_|_|i
 .simp at hx hy;subst hx;subst hy;exact .hf _ (zM _)
 .simp at hx hy;subst hx;subst hy;exact .hf _ (HF.sc _)
 .simp at hx hy;subst hx;subst hy;exact h
 .simp at hx hy;subst hx;subst hy;exact .hf _ (HF.sc _)
 .simp at hx
theorem qkI(ts:TS)(hs:bigS ts)(m:Md)(env:List (ByteArray×Int))(f:Nd):qi qd 10 [eTS ts,eMd m,lPm env,eNd f] (aB true):=by
 have hfit:=nX hs m 0 env;refine qSQ call10 func10 rfl {} ?_;simp[go_sem];refine qb.pure nW .nil ?_;simp[go_sem]
 first|refine qb.pure hfit (.cons (.hf (zl ts)) (.cons (.hf (yx m)) (.cons (.hf (HF.sc _)) (.cons (.hf (yH env)) .nil)))) ?_ | (refine qe.intro (by kernel_rfl) ?_;simp[go_sem];refine qb.pure hfit (.cons (.hf (zl ts)) (.cons (.hf (yx m)) (.cons (.hf (HF.sc _)) (.cons (.hf (yH env)) .nil)))) ?_)
 cases hF:fitB ts m 0 env (wQ ts) with
 |false =>
  simp[go_sem];exact .hf _ (HF.sc _)
 |true =>
  obtain⟨k0,hk0,F⟩:=nY hs hF;obtain rfl:k0=0:=by omega
  simp only[fitB,qx]at hF;have hok:=(WN hF.1 hs).1;have hsm:Qx (spOf ts) m:=YJ.1 hF.2.1;have hv:MVal (spOf ts) m:=Xf hF.2.2.1;clear hF;have h4:=F.st;have gm:=qkH hv hsm h4;have hl1:=gm.l1;have hpos:1<=m.states.length:=by omega
  obtain⟨lp,hlp⟩:=Int.eq_ofNat_of_zero_le hv.l0;have hlpk:lp<m.states.length:=by rw[hlp]at hl1;simpa using hl1
  simp[go_sem];refine qb.pure (nT m F.ma.gsc (by omega) f) (wkS m f) ?_;by_cases c2:wm m f=true
  case neg =>
   rw[Bool.eq_false_iff.2 c2];simp[go_sem];exact .hf _ (HF.sc _)
  rw[c2];simp[go_sem];refine qb.pure (qjD f) (wk1 f) ?_;by_cases c3:kd f.op=102
  case neg =>
   rw[decide_eq_false c3];simp[go_sem];exact .hf _ (HF.sc _)
  rw[decide_eq_true c3];simp[go_sem];have hvf:zT f=true:=by simp only[wm,qx]at c2;exact c2.1
  have og:OkG 100 f:=⟨vI hvf,by have:=we hvf;omega⟩;have e1:=wT F og;refine qb.pure e1 (wkX ts m 0 env f) ?_;simp[go_sem];refine qb.gen (first:=[]) (caps:=[]) (qkD m gm hpos) (.cons (.hf (yx m)) .nil) ?_ (fun r h=>by obtain⟨_,h,_⟩:=h;cases h);rintro _ ⟨m',⟨⟩,hS⟩;have hv':=hS.val hv h4;have hsm':=hS.small hsm;have F':=Xo hok F hv' hS.at_ hS.n1 (by have:=hS.le;omega);have e2:=wT F' og;have hb1:=qj1 (ts:=ts) gm.l1 (show m'.loop.toNat<m'.states.length by have:=hS.l0;have:=hS.l1;omega) hS.at_.symm fun t=>(hS.tr t).symm
  rw[Xp F F' hb1 f]at e2;simp[go_sem];refine qb.pure (pC (spOf ts) m') (.cons (.hf (zl ts)) (.cons (.hf (yx _)) .nil)) ?_;rw[YJ.2 hsm'];simp[go_sem];refine qb.pure (pF (spOf ts) m' hsm') (.cons (.hf (zl ts)) (.cons (.hf (yx _)) .nil)) ?_;rw[pD hv'];simp[go_sem];refine qb.pure e2 (wkX ts m' 0 env f) ?_;generalize hQ:fmV ((den ⟨ts,m⟩ f).F ⟨0,env⟩)=Q at *
  obtain⟨q1,q2⟩:=Q;simp[go_sem];have hne:m.states.map cSt≠[]:=fun e=>by have:=congrArg List.length e;simp at this;rw[this]at hpos;simp at hpos
  refine qe.seg [0,1,2,3,4,6,7,8,5,9,10,11] [(0,0,[]),(1,0,[]),(2,0,[]),(3,0,[]),(4,0,[]),(6,0,[]),(7,0,[]),(8,0,[]),(5,1,[1,7,8]),(9,0,[]),(10,2,[1,4,7,8]),(11,1,[])] (by kernel_rfl) (by kernel_rfl) (by simp[go_sem]) ?_;simp[go_sem,hlp];refine mz (e:=77) (sz:=1) (bt:=24) (zv := .lst true []) (ys:=m.states.map cSt) (by simp[go_sem]) (by simp[go_sem]) (by simp[go_sem]) rfl rfl (by omega) (by omega) (by simp[qG]) (uE _) (by simp;omega) hne ?_;rw[Jg];simp[go_sem,hlp];refine qe.intro (by kernel_rfl) ?_;simp[go_sem,hlp];refine⟨⟨_,_,⟨rfl,rfl⟩,(uE _).ok⟩,?_⟩;have hle:=Nat.le_of_lt hlpk;have htd:List.drop lp (List.take m.states.length (m.states.map cSt))=(m.states.drop lp).map cSt:=by rw[zU (by simp),List.map_drop]
  simp[go_sem,hlp,hle,htd];refine mA (e:=77) (sz:=1) (bt:=24) (zv := .lst true []) (cells:=m.states.map lRel) (ys:=(m.states.drop lp).map cSt) (by simp[go_sem]) (by simp[go_sem]) (by simp[go_sem]) rfl rfl (by omega) (by omega) (by simp) (by simp) (by simp[qG]) (uE _) (by simp;omega) ?_;rw[Jg];simp[go_sem,hlp];have w1:qj.wrap ((lp:Int)+1)=(lp:Int)+1:=qg (by omega) (by omega);refine qe.seg [0,1,2,3,4,6,7,8,5,9,10,11] [(0,0,[]),(1,0,[]),(2,0,[]),(3,0,[]),(4,0,[]),(6,0,[]),(7,0,[]),(8,0,[]),(5,1,[1,7]),(9,0,[]),(10,2,[1,4,7]),(11,1,[])] (by kernel_rfl) (by kernel_rfl) (by simp[go_sem]) ?_;simp[go_sem,hlp,w1];refine mz (e:=77) (sz:=1) (bt:=24) (zv := .lst true []) (ys:=m.states.map cSt) (by simp[go_sem]) (by simp[go_sem]) (by simp[go_sem]) rfl rfl (by omega) (by omega) (by simp[qG]) (uE _) (by simp;omega) hne ?_;rw[Jg];simp[go_sem,hlp,w1];refine qe.intro (by kernel_rfl) ?_;simp[go_sem,hlp,hlpk];refine mA (e:=77) (sz:=1) (bt:=24) (zv := .lst true []) (cells:=m.states.map lRel) (ys:=[cSt m.states[lp]]) (by simp[go_sem]) (by simp[go_sem]) (by simp[go_sem]) rfl rfl (by omega) (by omega) (by simp) (by simp) (by simp[qG]) (uE [m.states[lp]]) (by simp;omega) ?_;simp[go_sem,hlp];by_cases c4:(4:Int)<(m.states.length:Int)+1
  .simp [go_sem,c4]
   exact .hf _ (HF.sc _)
  .have hk3:m.states.length+1<=4:=by omega
   simp[go_sem,c4];have hll:(jR m).states.length=m.states.length+1:=by simp[jR]
   have hgd:m.states.getD m.loop.toNat []=m.states[lp]:=by rw[hlp];exact Xn hlpk []
   have hvl:MVal (spOf ts) (jR m):=Xm hv _ _ _ (by simp) (fun s h=>by
    rcases qT.1 h with h|h
    .exact h
    .rw [List.mem_singleton]at h;subst h;rw[hgd];exact qu hlpk) (by rw[qp (by omega)]) (by simp) (by simp;omega) (by omega) (by rw[hlp];simp;omega)
   have F3:=Xo hok F hvl rfl (by omega) (by omega);have e3:=wT F3 og;rw[Xp F F3 (qj3 hv.l0 gm.l1) f,hQ]at e3;have r3:∀ mu:Mu,mu[6]?=some (.arr (m.states.map lRel++[lRel m.states[lp]]))->Rd mu (.agg [lI m.sc.atoms,aI ((m.states.length:Int)+1),.sl 6 1 0 (m.states.length+1),aI ((lp:Int)+1)]) (eMd (jR m)):=fun mu h=>by
    have ho:Own mu 1 (.sl 6 1 0 (m.states.length+1)) ((jR m).states.map cSt) := .inr ⟨6,by simp[jR],by rw[h,Jg];show _=some (Cell.arr ((m.states++[m.states.getD m.loop.toNat []]).map lRel));rw[hgd,zm];rfl⟩;have:=rdMd (m:=jR m) (FT.rdSt ho);simp only[jR,hlp]at this⊢;exact this
   refine qb.lend e3 ⟨.hf _ (zl _),r3 _ (by simp),.hf _ (HF.sc _),.hf _ (yH _),.hf _ (qI _),trivial⟩ (FL.tup fun c hc=>by simp at hc;rcases hc with rfl|rfl<;>exact FL.sc _) ?_;simp[go_sem];by_cases c5:(4:Int)<(m.states.length:Int)+((m.states.length-lp:Nat):Int)
   .simp [go_sem,c5]
    exact .hf _ (HF.sc _)
   .simp [go_sem,c5]
    have hlt:m.loop.toNat=lp:=by rw[hlp];simp
    have hlg:(jE m).states.length=m.states.length+(m.states.length-lp):=by simp[jE,hlt]
    have hvg:MVal (spOf ts) (jE m):=Xm hv _ _ _ (by simp) (fun s h=>by
     rcases qT.1 h with h|h
     .exact h
     .exact List.mem_of_mem_drop h) (by rw[qp (by omega)]) (by simp;omega) (by simp[hlt];omega) (by omega) (by simp[hlt];omega)
    have F4:=Xo hok F hvg rfl (by omega) (by omega);have e4:=wT F4 og;rw[Xp F F4 (qj4 hv.l0 gm.l1) f,hQ]at e4;have r4:∀ mu:Mu,mu[3]?=some (.arr (m.states.map lRel++List.map lRel (m.states.drop lp)))->Rd mu (.agg [lI m.sc.atoms,aI ((m.states.length:Int)+((m.states.length-lp:Nat):Int)),.sl 3 1 0 (m.states.length+(m.states.length-lp)),aI (m.states.length:Nat)]) (eMd (jE m)):=fun mu h=>by
     have ho:Own mu 1 (.sl 3 1 0 (m.states.length+(m.states.length-lp))) ((jE m).states.map cSt) := .inr ⟨3,by simp[jE,hlt],by rw[h,Jg];simp only[jE,hlt,zm]⟩;have:=rdMd (m:=jE m) (FT.rdSt ho);simp only[jE,hlt,Int.natCast_add]at this⊢;exact this
    refine qb.lend e4 ⟨.hf _ (zl _),r4 _ (by simp),.hf _ (HF.sc _),.hf _ (yH _),.hf _ (qI _),trivial⟩ (FL.tup fun c hc=>by simp at hc;rcases hc with rfl|rfl<;>exact FL.sc _) ?_;simp[go_sem];exact .hf _ (HF.sc _)
end FT
end Go.Proofs.YtkglmpmlfjogkaaGreatDoor
