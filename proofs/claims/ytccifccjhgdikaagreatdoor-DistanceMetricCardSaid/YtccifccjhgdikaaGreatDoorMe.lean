/-
  Own library, part 5: an abstract reading of values and a calculus over it; contracts of functions; plain lemmas.
-/
import Derived.KernelRfl
import Derived.Test.YtccifccjhgdikaaGreatDoorRows
import Derived.LaidMore
import Derived.MakeChecks
import Derived.WalkKit
import Derived.JoinedCond
import Derived.Test.YtccifccjhgdikaaGreatDoorMd
set_option linter.unusedVariables false
set_option linter.unusedSimpArgs false
set_option maxRecDepth 100000
open Go.Proofs.Tryz renaming prog->qa
open List renaming getElem?_eq_getElem->qs
namespace Go.Proofs.YtccifccjhgdikaaGreatDoor
open Go Go.Ev Go.Proofs Tryz
namespace YH
end YH
namespace DT
open Go.EvW Y1 P1 YF
theorem unInt:qa.underlying 3=some (.int .i64):=by kernel_rfl
theorem Vw:qa.underlying 4=some .bool:=by kernel_rfl
theorem Kn:qa.underlying 9=some .string:=by kernel_rfl
theorem Ko:qa.underlying 28=some (.slice 3):=by kernel_rfl
theorem Kq:qa.underlying 22=some (.slice 71):=by kernel_rfl
theorem Kr:qa.underlying 23=some (.slice 73):=by kernel_rfl
theorem Ks:qa.underlying 33=some (.slice 35):=by kernel_rfl
theorem Kt:qa.underlying 142=some (.slice 164):=by kernel_rfl
theorem Ku:qa.underlying 24=some (.slice 144):=by kernel_rfl
theorem Kv:qa.underlying 25=some (.slice 147):=by kernel_rfl
abbrev okI(n:Int):Prop := -9223372036854775808<=n/\n<=9223372036854775807
abbrev okS(s:ByteArray):Prop:=s.size<=140737488351232
instance:Inhabited Nd:=⟨.mk 0 ⟨#[]⟩ 0 [] 0⟩
instance:Inhabited Pd:=⟨⟨⟨#[]⟩,[],default⟩⟩
instance:Inhabited Fld:=⟨⟨⟨#[]⟩,[],false⟩⟩
theorem jX(N:Nat):ShU qa N 3 (fun n:Int=>[aI n]) okI:=
 (ShU.int unInt N).map (fun n=>n) (fun _=>rfl) (fun n h=>by
  simp[Lit.wf,IntKind.min,IntKind.max,IntKind.signed,IntKind.bits]at h;exact h)
theorem Zw(N:Nat):ShU qa N 4 (fun b:Bool=>[aB b]) (fun _=>True):=ShU.bool Vw N
theorem vz(N:Nat):ShU qa N 9 (fun s:ByteArray=>[aS s]) okS:=ShU.string Kn N
theorem Zx(N:Nat):ShU qa N 28 (fun xs:List Int=>[lI xs]) (fun l=>l.length<=140737488351232/\∀ x,x∈l->okI x):=
 ((ShU.slice Ko (jX N) (fun _ _=>by kernel_rfl) (Nat.lt_of_lt_of_eq Nat.zero_lt_one (by kernel_rfl)) (by kernel_rfl)).le (by omega)).map (fun l=>l) (fun _=>rfl) fun _ h=>h
theorem Kw(N:Nat):ShU qa N 73 wa (fun f=>f.sorts.length<=140737488351232/\∀ x,x∈f.sorts->okI x):=
 ((ShU.struct (fs:=[(9,0),(28,1),(4,2)]) (by kernel_rfl) (.cons' (o':=1) (by kernel_rfl) (vz N) (.cons' (o':=2) (by kernel_rfl) (Zx N) (.cons' (o':=3) (by kernel_rfl) (Zw N) (.nil 3)))) (by kernel_rfl)).map
  (fun x=>(⟨x.1,x.2.1,x.2.2.1⟩:Fld)) (fun _=>rfl) (fun x h=>h.2.1)).le (by omega)
theorem Kx(N:Nat):ShU qa N 71 u9 (fun s=>okS s.1):=
 ((ShU.struct (fs:=[(9,0),(4,1)]) (by kernel_rfl) (.cons' (o':=1) (by kernel_rfl) (vz N) (.cons' (o':=2) (by kernel_rfl) (Zw N) (.nil 2))) (by kernel_rfl)).map
  (fun x=>((x.1,x.2.1):ByteArray×Bool)) (fun _=>rfl) (fun x h=>h.1)).le (by omega)
theorem wB:∀ N:Nat,ShU qa N 35 cNd (fun _=>True)
 | 0=>fun n hn=>absurd hn (by omega)
 | N+1 =>
  have ks:ShU qa N 33 (fun l:List Nd=>[.lst false (l.map cNd)]) (fun _=>True):=((ShU.slice Ks (wB N) (fun a _=>(QP a).trans (by kernel_rfl)) (Nat.lt_of_lt_of_eq (show 0<5 by omega) (by kernel_rfl)) (by kernel_rfl)).le (by omega)).map (fun l=>l) (fun _=>rfl) fun _ _=>trivial
  ((ShU.struct (fs:=[(3,0),(9,1),(3,2),(33,3),(3,4)]) (by kernel_rfl)
   (.cons' (o':=1) (by kernel_rfl) (jX N) (.cons' (o':=2) (by kernel_rfl) (vz N) (.cons' (o':=3) (by kernel_rfl) (jX N) (.cons' (o':=4) (by kernel_rfl) ks (.cons' (o':=5) (by kernel_rfl) (jX N) (.nil 5)))))) (by kernel_rfl))).map
   (fun x=>Nd.mk x.1 x.2.1 x.2.2.1 x.2.2.2.1 x.2.2.2.2.1) (fun x=>by rw[we];rfl) fun _ _=>trivial
theorem Ky(N:Nat):ShU qa N 164 cPm (fun p=>okI p.2):=
 ((ShU.struct (fs:=[(9,0),(3,1)]) (by kernel_rfl) (.cons' (o':=1) (by kernel_rfl) (vz N) (.cons' (o':=2) (by kernel_rfl) (jX N) (.nil 2))) (by kernel_rfl)).map
  (fun x=>((x.1,x.2.1):ByteArray×Int)) (fun _=>rfl) (fun x h=>h.2.1)).le (by omega)
theorem Kz(N:Nat):ShU qa N 142 (fun l:List (ByteArray×Int)=>[lPm l]) (fun l=>l.length<=140737488351232):=
 ((ShU.slice Kt (Ky N) (fun _ _=>by kernel_rfl) (Nat.lt_of_lt_of_eq (show 0<2 by omega) (by kernel_rfl)) (by kernel_rfl)).le (by omega)).map (fun l=>l) (fun _=>rfl) fun _ h=>h.1
theorem KA(N:Nat):ShU qa N 144 cPd (fun _=>True):=
 ((ShU.struct (fs:=[(9,0),(142,1),(35,2)]) (by kernel_rfl) (.cons' (o':=1) (by kernel_rfl) (vz N) (.cons' (o':=2) (by kernel_rfl) (Kz N) (.cons' (o':=7) (by kernel_rfl) (wB N) (.nil 7)))) (by kernel_rfl)).map
  (fun x=>(⟨x.1,x.2.1,x.2.2.1⟩:Pd)) (fun x=>by simp[cPd]) fun _ _=>trivial).le (by omega)
theorem KB(N:Nat):ShU qa N 147 cFa (fun _=>True):=
 ((ShU.struct (fs:=[(9,0),(35,1)]) (by kernel_rfl) (.cons' (o':=1) (by kernel_rfl) (vz N) (.cons' (o':=6) (by kernel_rfl) (wB N) (.nil 6))) (by kernel_rfl)).map
  (fun x=>((x.1,x.2.1):ByteArray×Nd)) (fun x=>by simp[cFa]) fun _ _=>trivial).le (by omega)
structure okTA (ts:TS):Prop where
 so:∀ x,x∈ts.sorts->okS x.1
 nso:ts.sorts.length<=140737488351232
 nf:ts.fields.length<=140737488351232
 fl:∀ f,f∈ts.fields->f.sorts.length<=140737488351232/\∀ x,x∈f.sorts->okI x
theorem KC(N:Nat):ShU qa N 27 cTS okTA:=by
 have s1:=(ShU.slice Kq (Kx N) (fun _ _=>by kernel_rfl) (Nat.lt_of_lt_of_eq (show 0<2 by omega) (by kernel_rfl)) (by kernel_rfl)).le (M:=N) (by omega);have s2:=(ShU.slice Kr (Kw N) (fun _ _=>by kernel_rfl) (Nat.lt_of_lt_of_eq (show 0<3 by omega) (by kernel_rfl)) (by kernel_rfl)).le (M:=N) (by omega);have s3:=(ShU.slice Ku (KA N) (fun a h=>(WW a).1.trans (by kernel_rfl)) (Nat.lt_of_lt_of_eq (show 0<7 by omega) (by kernel_rfl)) (by kernel_rfl)).le (M:=N) (by omega);have s4:=(ShU.slice Kv (KB N) (fun a h=>(WX a).1.trans (by kernel_rfl)) (Nat.lt_of_lt_of_eq (show 0<6 by omega) (by kernel_rfl)) (by kernel_rfl)).le (M:=N) (by omega);have st:=ShU.struct (t:=27) (fs:=[(22,0),(23,1),(24,2),(25,3)]) (by kernel_rfl) (.cons' (o':=1) (by kernel_rfl) s1 (.cons' (o':=2) (by kernel_rfl) s2 (.cons' (o':=3) (by kernel_rfl) s3 (.cons' (o':=4) (by kernel_rfl) s4 (.nil 4))))) (by kernel_rfl);exact(st.map (fun x=>(⟨x.1,x.2.1,x.2.2.1,x.2.2.2.1⟩:TS)) (fun _=>rfl) fun x h=>⟨h.1.2,h.1.1,h.2.1.1,h.2.1.2⟩).le (by omega)
theorem unU8:qa.underlying 5=some (.int .u8):=by kernel_rfl
theorem shU8(N:Nat):ShU qa N 5 (fun n:Int=>[.sc (.int .u8 n)]) (fun n=>0<=n/\n<=255):=
 (ShU.int unU8 N).map (fun n=>n) (fun _=>rfl) (fun n h=>by
  simp[Lit.wf,IntKind.min,IntKind.max,IntKind.signed,IntKind.bits]at h;exact h)
end DT
namespace DL
open Go.EvW Go.RowKit Go.ChangeShapes Go.WideShapes
theorem own:ownKnob qa.godebug=none:=by kernel_rfl
theorem laid:laidOutB qa=true:=by kernel_rfl
abbrev tabL : List (String × DataW Unit) := [("math/bits.deBruijn32tab", Rows.laid_math_bits_deBruijn32tab), ("math/bits.deBruijn64tab", Rows.laid_math_bits_deBruijn64tab), ("internal/strconv.uint64pow10", Rows.laid_internal_strconv_uint64pow10)]
def pows:List Int:=[1,10,100,1000,10000,100000,1000000,10000000,100000000,1000000000,10000000000,100000000000,1000000000000,10000000000000,100000000000000,1000000000000000,10000000000000000,100000000000000000,1000000000000000000,10000000000000000000]
theorem gPow : qa.globalNamed "internal/strconv.uint64pow10" = some 0 := by kernel_rfl
theorem tPow:(qa.globals[0]?).map (·.type)=some 370:=by kernel_rfl
theorem uPow:qa.underlying 370=some (.array 20 326):=by kernel_rfl
theorem uU64:qa.underlying 326=some (.int .u64):=by kernel_rfl
theorem KD{W:World}(h:laidMetH qa tabL W):jA (·<W.heap.size) W.heap:=by
  rw[MakeChecks.laidMetH_plain _ _ _ (by kernel_rfl)]at h;obtain⟨ps,hl,_⟩:=h
  obtain ⟨g, t, cs, fuel, p, hg, ht, hv, hd⟩ := Vv hl ("internal/strconv.uint64pow10", Rows.laid_internal_strconv_uint64pow10) (by simp)
  obtain rfl:=Option.some.inj (gPow.symm.trans hg);obtain rfl:=Option.some.inj (tPow.symm.trans ht);have hc:cs.toList=pows.map fun i => .int .u64 i:=Kl uPow uU64 (by kernel_rfl) (by kernel_rfl) (ns:=pows) hd
  obtain⟨e,fr,ho⟩:=Km gPow hv;intro x hx;have hx:x∈[(0,pows.map fun i=>Value.int .u64 i)]:=hx;rw[List.mem_singleton]at hx;subst hx;refine⟨(Array.getElem?_eq_some_iff.1 ho).1,e,fr,?_⟩;show W.heap[0]?=_;rw[ho];have:cs=(pows.map fun i=>Value.int .u64 i).toArray:=by rw[<-hc]
  rw[this]
theorem KE(os:Os)(args:Array Value):laidMetH qa tabL ((World.doorLaid qa 4000 os).forCall (fun _ _=>0) ⟨#[],args,[]⟩).memory:=
 laidMetH_of_parts3 (fuel:=8) (laidMet_of_run' 8 (by kernel_rfl) (by kernel_rfl)) (by kernel_rfl) (by kernel_rfl)
end DL
namespace DM
open Go.EvW E3 DT
instance:Inhabited Rl:=⟨⟨0,[]⟩⟩
instance:Inhabited Sc:=⟨⟨[],0⟩⟩
instance:Inhabited Md:=⟨⟨default,[],0⟩⟩
theorem shRel(N:Nat):ShU qa N 60 cRel (fun _=>True):=
 ((ShU.struct (fs:=[(3,0),(28,1)]) (by kernel_rfl) (.cons' (o':=1) (by kernel_rfl) (jX N) (.cons' (o':=2) (by kernel_rfl) (Zx N) (.nil 2))) (by kernel_rfl)).map
  (fun x=>(⟨x.1,x.2.1⟩:Rl)) (fun _=>rfl) (fun x h=>trivial)).le (by omega)
theorem KF(N:Nat):ShU qa N 30 (fun s:Sc=>[lI s.atoms,aI s.steps]) (fun _=>True):=
 ((ShU.struct (fs:=[(28,0),(3,1)]) (by kernel_rfl) (.cons' (o':=1) (by kernel_rfl) (Zx N) (.cons' (o':=2) (by kernel_rfl) (jX N) (.nil 2))) (by kernel_rfl)).map
  (fun x=>(⟨x.1,x.2.1⟩:Sc)) (fun _=>rfl) (fun x h=>trivial)).le (by omega)
end DM
namespace DN
open Go.EvW P1 Y1 EO DT DM GS W41
theorem KG:qa.underlying 79=some (.slice 4):=by kernel_rfl
theorem unBB:qa.underlying 36=some (.slice 79):=by kernel_rfl
theorem unU8s:qa.underlying 362=some (.slice 5):=by kernel_rfl
theorem unRaw:qa.underlying 32=some (.slice 362):=by kernel_rfl
theorem unTwo:qa.underlying 39=some (.array 2 5):=by kernel_rfl
theorem KH(N:Nat):ShU qa N 79 (fun l:List Bool=>[lB l]) (fun _=>True):=
 ((ShU.slice KG (Zw N) (fun _ _=>by kernel_rfl) (Nat.lt_of_lt_of_eq Nat.zero_lt_one (by kernel_rfl)) (by kernel_rfl)).le (by omega)).map (fun l=>l) (fun _=>rfl) fun _ _=>trivial
theorem shBB(N:Nat):ShU qa N 36 (fun l:List (List Bool)=>[lBB l]) (fun _=>True):=
 ((ShU.slice unBB (KH N) (fun _ _=>by kernel_rfl) (Nat.lt_of_lt_of_eq Nat.zero_lt_one (by kernel_rfl)) (by kernel_rfl)).le (by omega)).map (fun l=>l) (fun _=>rfl) fun _ _=>trivial
theorem shU8s(N:Nat):ShU qa N 362 (fun l:List Int=>[.lst false (l.map fun x=>[u8 x])]) (fun _=>True):=
 ((ShU.slice unU8s (shU8 N) (fun _ _=>by kernel_rfl) (Nat.lt_of_lt_of_eq Nat.zero_lt_one (by kernel_rfl)) (by kernel_rfl)).le (by omega)).map (fun l=>l) (fun _=>rfl) fun _ _=>trivial
theorem shRaw(N:Nat):ShU qa N 32 (fun l:List (List Int)=>[lRaw l]) (fun _=>True):=
 ((ShU.slice unRaw (shU8s N) (fun _ _=>by kernel_rfl) (Nat.lt_of_lt_of_eq Nat.zero_lt_one (by kernel_rfl)) (by kernel_rfl)).le (by omega)).map (fun l=>l) (fun _=>rfl) fun _ _=>trivial
abbrev Zy:=TS×Sc×List (List Int)×Nd×List (List Bool)×Int
abbrev cCs(x:Zy):List AV:=um x.1 x.2.1 x.2.2.1 x.2.2.2.1 x.2.2.2.2.1 x.2.2.2.2.2
theorem KI(N:Nat):ShU qa N 38 cCs (fun x=>okTA x.1/\(0<=x.2.2.2.2.2/\x.2.2.2.2.2<=255)):=
 ((ShU.struct (fs:=[(27,0),(30,4),(32,6),(35,7),(36,12),(5,13)]) (by kernel_rfl)
  (.cons' (o':=4) (by kernel_rfl) (KC N) (.cons' (o':=6) (by kernel_rfl) (KF N) (.cons' (o':=7) (by kernel_rfl) (shRaw N) (.cons' (o':=12) (by kernel_rfl) (wB N) (.cons' (o':=13) (by kernel_rfl) (shBB N) (.cons' (o':=14) (by kernel_rfl) (shU8 N) (.nil 14))))))) (by kernel_rfl)).map
  (fun x=>((x.1,x.2.1,x.2.2.1,x.2.2.2.1,x.2.2.2.2.1,x.2.2.2.2.2.1):Zy)) (fun x=>by simp[cCs,um]) (fun x h=>⟨h.1,h.2.2.2.2.2.1⟩)).le (by omega)
theorem aCase:zE qa 38 (fun x => .agg (cCs x)) (fun x=>okTA x.1/\(0<=x.2.2.2.2.2/\x.2.2.2.2.2<=255)):=zE.struct (by kernel_rfl) KI
theorem aBB:zE qa 36 lBB (fun _=>True):=zE.slice unBB shBB
theorem KJ{P:Program}{t e:TypeId}{α:Type}{c:α->AV}{ok:α->Prop}(ht:P.underlying t=some (.array 2 e))(h1:P.cellsOf e=1)(h2:P.cellsOf t=2)(h:∀ N,ShU P N e (fun a=>[c a]) ok):zE P t (fun x:α×α => .agg [c x.1,c x.2]) (fun x=>ok x.1/\ok x.2):=by
 intro H enc w r b v d ps hok hd hw;obtain⟨n,hn⟩:=hd;obtain⟨xs,m,rfl,hx,hl,hxl,hg⟩:=DataW.trod_array ht hn;have hd:d = .agg (xs.map (·.1)):=by injection hx
 subst hd;have hwl:(DataW.weightsAll P e (xs.map (·.1))).all (·<=reachBytes)=true:=by
  unfold zq at hw;simp only[DataW.weights,ht]at hw;exact hw
 unfold Value.okWide at hok;rw[ht]at hok;obtain⟨cs,rfl,hcs,_⟩:=hok;rw[h2]at hl;simp only[Value.cells]at hl hg;have key:∀ i,i<2->∃ a,ok a/\VRel ⟨(·<w.heap.size),[]⟩ w.heap (c a) (cs.getD i undef):=fun i hi=>by
  have h3:=hg i hi;have hil:i<xs.length:=by omega
  rw[qs hil]at h3;obtain⟨a,ha,hr⟩:=h (m+1) m (by omega) H enc w _ _ h3 (zq.all hwl i _ (by rw[List.getElem?_map,qs hil];rfl));have:=hr.2 0 (c a) rfl;refine⟨a,ha,?_⟩;rw[h1]at this;rw[Nat.mul_one]at this;have e2:((cs.toList.drop i).take 1).getD 0 undef=cs.getD i undef:=by
   rw[List.getD_eq_getElem?_getD,List.getElem?_take,if_pos (by omega),List.getElem?_drop,Array.getD_eq_getD_getElem?];simp
  rw[e2]at this;exact this
 obtain⟨a0,o0,r0⟩:=key 0 (by omega);obtain⟨a1,o1,r1⟩:=key 1 (by omega);refine⟨(a0,a1),⟨o0,o1⟩,.agg _ _ (by simpa using hl) (fun k x hk=>?_)⟩
 match k with
 | 0=>simp at hk;subst hk;exact r0
 | 1=>simp at hk;subst hk;exact r1
 |k+2=>simp at hk
theorem aTwo:zE qa 39 (fun x:Int×Int => .agg [u8 x.1,u8 x.2]) (fun x=>(0<=x.1/\x.1<=255)/\(0<=x.2/\x.2<=255)):=KJ unTwo (by kernel_rfl) (by kernel_rfl) shU8
end DN
end Go.Proofs.YtccifccjhgdikaaGreatDoor
