/-
  Own library, part 9: an abstract reading of values and a calculus over it; contracts of functions; plain lemmas.
-/
import Derived.Test.YtfednihcpihlgaaGreatDoorRows
import Derived.LaidMore
import Derived.MakeChecks
import Derived.WalkKit
import Derived.JoinedCond
import Derived.Test.YtfednihcpihlgaaGreatDoorMh
set_option linter.unusedVariables false
set_option linter.unusedSimpArgs false
set_option maxRecDepth 100000
open Go renaming World->qf,Value->qy
open Go.Proofs.Tryz renaming prog->qc
open List renaming getElem?_eq_some_iff->qi,mem_map->qk,getElem_mem->qq,range->qs,mem_cons->qv,getElem?_eq_getElem->qz,not_mem_nil->qI,getElem?_set_self->qL,mem_append->qM,take_length->qR,length_append->zb,map_append->zh,drop_eq_getElem_cons->zy,append_nil->zF,append_assoc->zJ,length_cons->zK,getElem?_append_right->zN,getD_eq_getElem?_getD->z6,getElem?_set_ne->yE,cons_append->yG,nil_append->vd
open Go.IntKind renaming i64->qp
open Bool renaming and_eq_true->qF
open Nat renaming le_trans->zG
open Int renaming tmod_eq_emod_of_nonneg->uW
namespace Go.Proofs.YtfednihcpihlgaaGreatDoor
open Go Go.Ev Go.Proofs Tryz
namespace I2
open YF P1 EO EP EQ F4 GF G5 GR GS GW HE W41
theorem qs2(ts sc)(F:Fit9 ts sc):qA qc 18 [eTS ts,eSc sc] [] (fun e m=>∃ av,e = .ret av/\Own m 4 av (ts.sA.map (rowD sc))/\(0<ts.sA.length->∃ b,qn av=some b)):=by
 have a0:=F.nf;refine qSW call18 func18 rfl {} ?_;simp[go_sem];refine aA ts.sA.length (fun k U=>U.tm 2 = .ip (cTS ts)/\U.tm 3 = .ip [lI sc.sC,aI sc.sN]/\U.tm 6=aI k/\Own U.mu 4 (U.tm 5) ((ts.sA.take k).map (rowD sc))/\(0<k->∃ b,qn (U.tm 5)=some b)) ?_ ?_
 .exact ⟨zSi,zSi,zSi,.inl zSi,fun h=>absurd h zOm⟩
 rintro k U hk ⟨t,e3,C,I,J⟩;by_cases i:k<ts.sA.length
 .have w1:=zWk k
  have l:=qq i;have o:=mG sc F.g F.p ts.sA[k].sS (F.f1 _ l).1 (F.f1 _ l).2 (F.fs _ l);simp[go_sem,t,C,i];refine cL zKr ?_;simp[go_sem,t,e3,C,i];refine fR o (.zk (zH _) (.zk (zo _) .nil)) ?_;refine .inl (jU.ownB (e:=102) (sz:=4) (bt:=64) (zv := .agg [aI 0,.lst true [],aI 0,.lst true []]) (xs:=(ts.sA.take k).map (rowD sc)) (ys:=[rowD sc ts.sA[k]]) zSi zSi zSi rfl rfl zOm zOm I (by simp[qC,rowD]) (J6 sc _) (J6 sc [_]) zSo ?_);intro a1 j P _ _ _ R;simp[go_sem,C,i,w1];refine aC ⟨zS1 t,zS1 e3,zSi,?_,fun _=>by simp[go_sem];exact R zSp⟩;rw[yz i,zh];simpa[go_sem] using P
 .have T:k=ts.sA.length:=by omega
  subst T;rw[qR]at I;simp[go_sem,t,C];exact⟨I,J⟩
def jR(ts:TS)(sc:Sc)(raw:List (List Int))(k:Nat):List (List AV):=((yf ts sc raw).take k).map cBd++(ts.sA.drop k).map (rowD sc)
theorem qs3(ts sc raw k)(h:k<=ts.sA.length):(jR ts sc raw k).length=ts.sA.length:=by
 simp[jR,Qs];omega
theorem qs4(ts sc raw k):yM 4 (jR ts sc raw k):=fun r g=>by
 rcases qM.1 g with h|h
 .obtain ⟨x,_,rfl⟩:=qk.1 h;rfl
 .obtain ⟨x,_,rfl⟩:=qk.1 h;rfl
theorem qs5(ts sc raw k h):(jR ts sc raw k)[k]?=some (rowD sc ts.sA[k]):=by
 have g:(((yf ts sc raw).take k).map cBd).length=k:=by simp[Qs];omega
 simp_all[jR,zN,Nat.sub_self,List.getElem?_map,List.getElem?_drop,Nat.add_zero,qz]
theorem qs6(ts sc raw k h):(jR ts sc raw k).set k (cBd ((yf ts sc raw)[k]'(by rw[Qs];exact h)))=jR ts sc raw (k+1):=by
 have g:(((yf ts sc raw).take k).map cBd).length=k:=by simp[Qs];omega
 have i:k<(yf ts sc raw).length:=by rw[Qs];exact h
 unfold jR;rw[List.set_append_right _ _ zOm,g,Nat.sub_self,zy h,List.map_cons,List.set_cons_zero,yz i,zh,zJ];rfl
theorem cJ{Q i d d' L x x' st}(o:d≠d')(l:Rd (cutM (fun j=>decide (L<=j)) st.mu 0) (st.tm d) x)(g:Rd (cutM (fun j=>decide (L<=j)) st.mu 0) (st.tm d') x')
  (k:Q (.exit i) ((st.put (some d) x st.mu).put (some d') x' (cutM (fun j=>!decide (L<=j)) st.mu 0))):FzQ Q (.exit i) st:=by
 refine⟨_,⟨fun j=>decide (L<=j),rfl,fun j=>?_⟩,trivial,k⟩;simp only[St.put];split
 .rename_i h;subst h;exact .rd _ _ g
 .split
  .rename_i h;subst h;exact .rd _ _ l
  .exact .same _
theorem pa{sz}:∀{xs},yM sz xs->∀ i h j,j<sz->xs.flatten[i*sz+j]?=xs[i][j]?
 | [],_,i,h,j,l=>absurd h (Nat.not_lt_zero i)
 |r :: xs,w,i,h,j,l=>by
  have g:r.length=sz:=w r zSp;rw[List.flatten_cons];cases i with
  |zero=>grind
  |succ i =>
   rw[zN (by grind),g,show (i+1)*sz+j-sz=i*sz+j by rw[Nat.succ_mul];omega];exact pa (fun r g=>w r (zP1 g)) i (zUs h) j l
theorem Own.same{sz mu mu' av xs}(h:Own mu sz av xs)(g:∀ b,qn av=some b->mu'[b]?=mu[b]?):Own mu' sz av xs:=by
 rcases h with rfl|⟨b,rfl,i⟩
 .exact .inl rfl
 .exact .inr ⟨b,rfl,by rw[g b rfl];exact i⟩
theorem qs7(ts sc)(F:Fit9 ts sc)(raw)(hr:∀ l,l∈raw->∀ x,x∈l->0<=x/\x<=255):qg qc 14 [eTS ts,eSc sc,lRaw raw] (lBd (yf ts sc raw)):=by
 have cg:=F.nf;have b3:=qs2 ts sc F;have an:=Qs ts sc raw;refine qSU call14 func14 rfl ?_;refine fZ b3 ?_ (by grind);rintro r m ⟨t,h,ch,bc⟩;cases h;simp[go_sem];refine aA ts.sA.length (fun k st=>st.tm 2=lRaw raw/\st.tm 7=r/\st.tm 8=aI k/\Own st.mu 4 r (jR ts sc raw k)) ?_ ?_
 .simp_all [go_sem,jR]
 rintro k st hk ⟨e2,e7,e8,ho⟩;have b4:=qs3 ts sc raw k hk;have ag:=qs4 ts sc raw k;by_cases a9:k<ts.sA.length
 .have w1:=zWk k
  have ao:=qs5 ts sc raw k a9;obtain⟨BK,cj,be⟩:∃ BK,(yf ts sc raw)[k]?=some BK/\BK=Ww (raw.getD k []) ⟨⟨ts.sA[k].sS.length,[]⟩,⟨ts.sA[k].sS.length,yJ sc ts.sA[k].sS⟩⟩:=⟨_,qz zOm,Wx ts sc raw k zOm a9⟩;have ai:(jR ts sc raw k).set k (cBd BK)=jR ts sc raw (k+1):=by
   grind [qs6,qi]
  have ck:=qbD sc F.g ts.sA[k].sS (F.f1 _ (qq a9)).2;generalize hW:jR ts sc raw k=W at ho b4 ag ao ai;obtain⟨B,hB⟩:=bc zOm;rcases ho with h|⟨B',h,hc⟩
  .rw [h]at hB;cases hB
  .rw [h]at hB;cases hB
   have bg:W.flatten.length=W.length*4:=by rw[yL ag]
   have bi:=(qi.1 hc).1;have cl:W.flatten[k*4+2]?=some (aI ts.sA[k].sS.length):=by
    have:=pa ag k zOm 2 zOm;rw[this,(qi.1 ao).2];rfl
   have cm:W.flatten[k*4+3]?=some (lI (yJ sc ts.sA[k].sS)):=by
    have:=pa ag k zOm 3 zOm;rw[this,(qi.1 ao).2];rfl
   have b5:=fun x:List AV=>Jp W k x ag
   have cn:=bg;generalize cp:(ts.sA[k].sS.length:Int)=o at *
   generalize cq:yJ sc ts.sA[k].sS=U at *
   generalize bj:raw.getD k []=rw at *
   generalize cr:W.flatten=FL at *
   have bk:(FL.drop (k*4+2)).take 2=[aI o,lI U]:=by
    grind [qi,zy]
   simp[go_sem,e7,e8,h,b4,a9,hc];refine pM (.agg [aI o,lI U]) (by rw[if_pos zOm,bk]) ?_;simp[go_sem];generalize hR:st.mu.length=R at *
   refine fB U.length (fun j=>Keep (fun st2=>st2.tm 2=lRaw raw/\st2.tm 7=r/\st2.tm 8=aI k/\st2.tm 9 = .ptr R 0/\st2.tm 10 = .ptr (R+1) 0/\st2.tm 11 = .ptr (R+2) 0/\st2.tm 12=aI j/\∃ C a0,st2.mu[R]?=some (.arr [aI o,lI U])/\st2.mu[R+1]?=some (.arr [aI o,C])/\st2.mu[R+2]?=some (.arr [aI o,a0]) /\
    Own st2.mu 1 C ((selW (fun x=>decide (1<x)) rw (U.take j) 0).map rI)/\Own st2.mu 1 a0 ((selW (fun x=>decide (0<x)) rw (U.take j) 0).map rI)/\(∀ b,qn C=some b->R+3<=b)/\(∀ b,qn a0=some b->R+3<=b)/\(∀ b,qn C=some b->qn a0≠some b)/\∀ i,i<R->st2.mu[i]?=st.mu[i]?) .mk) ?_ ?_
   .exact aC ⟨zS1 e2,zS1 e7,zS1 e8,zSi,zSi,zSi,zSi,.lst true [],.lst true [],zS1 hR,zS1 hR,zS1 hR,.inl (by simp[selW]),.inl (by simp[selW]),by simp[qn],by simp[qn],by simp[qn],fun i hi=>by simp_all[go_sem,List.getElem?_append_left]⟩
   rintro j st2 hj ⟨f2,f7,f8,f9,f10,f11,f12,C,a0,c9,c10,c11,ol,oh,bl,bh,nb,low⟩;by_cases J:j<U.length
   .skip
    have w2:=zWk j;have aq:=qeT (fun x=>decide (1<x)) rw U j J;have au:=qeT (fun x=>decide (0<x)) rw U j J;by_cases aa:k<raw.length
    .have bm:rw=raw[k]:=by grind
     by_cases ab:j<raw[k].length
     .have cs:=hr _ (qq aa) _ (qq ab)
      have hx:(raw[k][j]).tmod 4=wtR rw j:=by
       simp_all[uW,wtR,if_pos,z6,qz]
      have ct:0<=wtR rw j/\wtR rw j<4:=by grind
      generalize hw:wtR rw j=w at *
      rcases (show w=0\/w=1\/1<w by omega) with bn|a5|aw
      .rw [bn]at hx
       have sl:selW (fun x=>decide (1<x)) rw (U.take (j+1)) 0=selW (fun x=>decide (1<x)) rw (U.take j) 0:=by grind
       have sh:selW (fun x=>decide (0<x)) rw (U.take (j+1)) 0=selW (fun x=>decide (0<x)) rw (U.take j) 0:=by grind
       simp[go_sem,f2,f8,f9,f12,c9,J,w2,aa,ab,hx];simp_all[go_sem,aC]
      .rw [a5]at hx
       have sl:selW (fun x=>decide (1<x)) rw (U.take (j+1)) 0=selW (fun x=>decide (1<x)) rw (U.take j) 0:=by grind
       have sh:selW (fun x=>decide (0<x)) rw (U.take (j+1)) 0=selW (fun x=>decide (0<x)) rw (U.take j) 0++[U[j]]:=by grind
       simp[go_sem,f2,f8,f9,f12,c9,J,aa,ab,hx];refine cL zKr ?_;simp[go_sem,f9,f11,f12,c9,c11,J];refine qw.ownB (e:=3) (sz:=1) (bt:=8) (zv:=aI 0) (xs:=(selW (fun x=>decide (0<x)) rw (U.take j) 0).map rI) (ys:=[rI U[j]]) zSi zSi zSi rfl rfl zOm zOm oh (by simp[qC]) (yw _) (yw [_]) (by grind [wK,decide,List.length_take_le]) ?_;intro P mh T I a1 ax;have d9:mh[R]?=some (.arr [aI o,lI U]):=by grind
       have d10:mh[R+1]?=some (.arr [aI o,C]):=by grind
       have d11:mh[R+2]?=some (.arr [aI o,a0]):=by grind
       have ad:=(qi.1 d11).1;have aj:=(qi.1 c11).1;have a6:Own mh 1 C ((selW (fun x=>decide (1<x)) rw (U.take j) 0).map rI):=Own.same ol fun b hb=>I b (Own.lt ol hb) (nb b hb)
       have ae:=Own.set a6 (i:=R+2) (.arr [aI o,P]) (fun h=>by grind);have a4:=Own.set T (i:=R+2) (.arr [aI o,P]) (fun h=>by grind);have a7:∀ b,qn P=some b->R+3<=b:=fun b h=>by grind
       have af:∀ b,qn C=some b->qn P≠some b:=fun b h h2=>by grind [Own.lt]
       have a2:∀ i,i<R->(mh.set (R+2) (.arr [aI o,P]))[i]?=st.mu[i]?:=fun i hi=>by
        rw[zGl,I i zOm (fun h=>zW1 (bh i h))];exact low i hi
       simp[go_sem,f11,f12,d11,J,w2,Own.one T,Own.cells T];simp_all[go_sem,aC,zh]
      .skip
       have ay:0<w:=zOm;have sl:selW (fun x=>decide (1<x)) rw (U.take (j+1)) 0=selW (fun x=>decide (1<x)) rw (U.take j) 0++[U[j]]:=by simpa[aw] using aq
       have sh:selW (fun x=>decide (0<x)) rw (U.take (j+1)) 0=selW (fun x=>decide (0<x)) rw (U.take j) 0++[U[j]]:=by simpa[ay] using au
       simp[go_sem,f2,f8,f9,f12,c9,J,ay,aw,aa,ab,hx];refine cL zKr ?_;simp[go_sem,f9,f11,f12,c9,c11,J];refine qw.ownB (e:=3) (sz:=1) (bt:=8) (zv:=aI 0) (xs:=(selW (fun x=>decide (0<x)) rw (U.take j) 0).map rI) (ys:=[rI U[j]]) zSi zSi zSi rfl rfl zOm zOm oh (by simp[qC]) (yw _) (yw [_]) (by have:=(wK (fun x=>decide (0<x)) rw (U.take j) 0).length_le;have:=List.length_take_le j U;simp;omega) ?_;intro P mh T I a1 ax;have d9:mh[R]?=some (.arr [aI o,lI U]):=by rw[I R (qi.1 c9).1 (fun h=>zW1 (bh R h))];exact c9
       have d10:mh[R+1]?=some (.arr [aI o,C]):=by rw[I (R+1) (qi.1 c10).1 (fun h=>zW1 (bh _ h))];exact c10
       have d11:mh[R+2]?=some (.arr [aI o,a0]):=by rw[I (R+2) (qi.1 c11).1 (fun h=>zW1 (bh _ h))];exact c11
       have ad:=(qi.1 d11).1;have aj:=(qi.1 c11).1;have a6:Own mh 1 C ((selW (fun x=>decide (1<x)) rw (U.take j) 0).map rI):=Own.same ol fun b hb=>I b (Own.lt ol hb) (nb b hb)
       have ae:=Own.set a6 (i:=R+2) (.arr [aI o,P]) (fun h=>zW1 (bl _ h));have a4:=Own.set T (i:=R+2) (.arr [aI o,P]) (fun h=>zW1 (a1 _ h));have a7:∀ b,qn P=some b->R+3<=b:=fun b h=>zW1 (a1 b h)
       have af:∀ b,qn C=some b->qn P≠some b:=fun b h h2=>zW2 (a1 b h2) (Own.lt ol h)
       have a2:∀ i,i<R->(mh.set (R+2) (.arr [aI o,P]))[i]?=st.mu[i]?:=fun i hi=>by
        rw[zGl,I i zOm (fun h=>zW1 (bh i h))];exact low i hi
       simp[go_sem,f11,d11,ay,aw,Own.one T,Own.cells T];refine cL zKr ?_;have e9:(mh.set (R+2) (.arr [aI o,P]))[R]?=some (.arr [aI o,lI U]):=by rw[zGl];exact d9
       have az:(mh.set (R+2) (.arr [aI o,P]))[R+1]?=some (.arr [aI o,C]):=by rw[zGl];exact d10
       have b0:(mh.set (R+2) (.arr [aI o,P]))[R+2]?=some (.arr [aI o,P]):=qL ad;generalize cu:mh.set (R+2) (.arr [aI o,P])=M2 at *
       simp[go_sem,f9,f10,f12,e9,az,J];refine qw.ownB (e:=3) (sz:=1) (bt:=8) (zv:=aI 0) (xs:=(selW (fun x=>decide (1<x)) rw (U.take j) 0).map rI) (ys:=[rI U[j]]) zSi zSi zSi rfl rfl zOm zOm ae (by simp[qC]) (yw _) (yw [_]) (by have:=(wK (fun x=>decide (1<x)) rw (U.take j) 0).length_le;have:=List.length_take_le j U;simp;omega) ?_;intro al ml b1 ak b2 cv;have g9:ml[R]?=some (.arr [aI o,lI U]):=by rw[ak R (qi.1 e9).1 (fun h=>zW1 (bl R h))];exact e9
       have b6:ml[R+1]?=some (.arr [aI o,C]):=by rw[ak (R+1) (qi.1 az).1 (fun h=>zW1 (bl _ h))];exact az
       have bo:ml[R+2]?=some (.arr [aI o,P]):=by rw[ak (R+2) (qi.1 b0).1 (fun h=>zW1 (bl _ h))];exact b0
       have l10:=(qi.1 b6).1;have cf:=(qi.1 b0).1;have bq:Own ml 1 P ((selW (fun x=>decide (0<x)) rw (U.take j) 0++[U[j]]).map rI):=by
        rw[zh];exact Own.same a4 fun b hb=>ak b (Own.lt a4 hb) (fun h=>af b h hb)
       have br:=Own.set b1 (i:=R+1) (.arr [aI o,al]) (fun h=>zW1 (b2 _ h));have bs:=Own.set bq (i:=R+1) (.arr [aI o,al]) (fun h=>zW1 (a7 _ h));simp[go_sem,f10,f12,b6,J,w2,Own.one b1,Own.cells b1]
       try refine⟨J,aC ?_⟩
       try refine aC ?_
       refine⟨zS1 f2,zS1 f7,zS1 f8,zS1 f9,zS1 f10,zS1 f11,zSi,al,P,by simp[go_sem];exact g9,zS1 l10,by simp[go_sem];exact bo,by rw[sl,zh];simpa[go_sem] using br,by rw[sh];simpa[go_sem] using bs,fun b h=>zW1 (b2 b h),a7,fun b h h2=>zW2 (b2 b h) (Own.lt a4 h2),fun i hi=>?_⟩;simp[go_sem];rw[zGl,ak i zOm (fun h=>zW1 (bl i h))];exact a2 i hi
     .have a5:wtR rw j=1:=by rw[wtR,bm,if_neg ab]
      have sl:selW (fun x=>decide (1<x)) rw (U.take (j+1)) 0=selW (fun x=>decide (1<x)) rw (U.take j) 0:=by simpa[a5] using aq
      have sh:selW (fun x=>decide (0<x)) rw (U.take (j+1)) 0=selW (fun x=>decide (0<x)) rw (U.take j) 0++[U[j]]:=by simpa[a5] using au
      simp[go_sem,f2,f8,f9,f12,c9,J,aa,ab];refine cL zKr ?_;simp[go_sem,f9,f11,f12,c9,c11,J];refine qw.ownB (e:=3) (sz:=1) (bt:=8) (zv:=aI 0) (xs:=(selW (fun x=>decide (0<x)) rw (U.take j) 0).map rI) (ys:=[rI U[j]]) zSi zSi zSi rfl rfl zOm zOm oh (by simp[qC]) (yw _) (yw [_]) (by have:=(wK (fun x=>decide (0<x)) rw (U.take j) 0).length_le;have:=List.length_take_le j U;simp;omega) ?_;intro P mh T I a1 ax;have d9:mh[R]?=some (.arr [aI o,lI U]):=by rw[I R (qi.1 c9).1 (fun h=>zW1 (bh R h))];exact c9
      have d10:mh[R+1]?=some (.arr [aI o,C]):=by rw[I (R+1) (qi.1 c10).1 (fun h=>zW1 (bh _ h))];exact c10
      have d11:mh[R+2]?=some (.arr [aI o,a0]):=by rw[I (R+2) (qi.1 c11).1 (fun h=>zW1 (bh _ h))];exact c11
      have ad:=(qi.1 d11).1;have aj:=(qi.1 c11).1;have a6:Own mh 1 C ((selW (fun x=>decide (1<x)) rw (U.take j) 0).map rI):=Own.same ol fun b hb=>I b (Own.lt ol hb) (nb b hb)
      have ae:=Own.set a6 (i:=R+2) (.arr [aI o,P]) (fun h=>zW1 (bl _ h));have a4:=Own.set T (i:=R+2) (.arr [aI o,P]) (fun h=>zW1 (a1 _ h));have a7:∀ b,qn P=some b->R+3<=b:=fun b h=>zW1 (a1 b h)
      have af:∀ b,qn C=some b->qn P≠some b:=fun b h h2=>zW2 (a1 b h2) (Own.lt ol h)
      have a2:∀ i,i<R->(mh.set (R+2) (.arr [aI o,P]))[i]?=st.mu[i]?:=fun i hi=>by
       rw[zGl,I i zOm (fun h=>zW1 (bh i h))];exact low i hi
      simp[go_sem,f11,f12,d11,J,w2,Own.one T,Own.cells T]
      try refine⟨J,aC ?_⟩
      try refine aC ?_
      refine⟨zS1 f2,zS1 f7,zS1 f8,zS1 f9,zS1 f10,zS1 f11,zSi,C,P,by simp[go_sem];exact d9,by simp[go_sem];exact d10,zS1 ad,by rw[sl];simpa[go_sem] using ae,by rw[sh,zh];simpa[go_sem] using a4,bl,a7,af,by simpa[go_sem] using a2⟩
    .have a5:wtR rw j=1:=by
      have:rw=[]:=by rw[<-bj,z6,List.getElem?_eq_none zOm];rfl
      rw[wtR,this];rfl
     have sl:selW (fun x=>decide (1<x)) rw (U.take (j+1)) 0=selW (fun x=>decide (1<x)) rw (U.take j) 0:=by simpa[a5] using aq
     have sh:selW (fun x=>decide (0<x)) rw (U.take (j+1)) 0=selW (fun x=>decide (0<x)) rw (U.take j) 0++[U[j]]:=by simpa[a5] using au
     simp[go_sem,f2,f8,f9,f12,c9,J,aa];refine cL zKr ?_;simp[go_sem,f9,f11,f12,c9,c11,J];refine qw.ownB (e:=3) (sz:=1) (bt:=8) (zv:=aI 0) (xs:=(selW (fun x=>decide (0<x)) rw (U.take j) 0).map rI) (ys:=[rI U[j]]) zSi zSi zSi rfl rfl zOm zOm oh (by simp[qC]) (yw _) (yw [_]) (by have:=(wK (fun x=>decide (0<x)) rw (U.take j) 0).length_le;have:=List.length_take_le j U;simp;omega) ?_;intro P mh T I a1 ax;have d9:mh[R]?=some (.arr [aI o,lI U]):=by rw[I R (qi.1 c9).1 (fun h=>zW1 (bh R h))];exact c9
     have d10:mh[R+1]?=some (.arr [aI o,C]):=by rw[I (R+1) (qi.1 c10).1 (fun h=>zW1 (bh _ h))];exact c10
     have d11:mh[R+2]?=some (.arr [aI o,a0]):=by rw[I (R+2) (qi.1 c11).1 (fun h=>zW1 (bh _ h))];exact c11
     have ad:=(qi.1 d11).1;have aj:=(qi.1 c11).1;have a6:Own mh 1 C ((selW (fun x=>decide (1<x)) rw (U.take j) 0).map rI):=Own.same ol fun b hb=>I b (Own.lt ol hb) (nb b hb)
     have ae:=Own.set a6 (i:=R+2) (.arr [aI o,P]) (fun h=>zW1 (bl _ h));have a4:=Own.set T (i:=R+2) (.arr [aI o,P]) (fun h=>zW1 (a1 _ h));have a7:∀ b,qn P=some b->R+3<=b:=fun b h=>zW1 (a1 b h)
     have af:∀ b,qn C=some b->qn P≠some b:=fun b h h2=>zW2 (a1 b h2) (Own.lt ol h)
     have a2:∀ i,i<R->(mh.set (R+2) (.arr [aI o,P]))[i]?=st.mu[i]?:=fun i hi=>by
      rw[zGl,I i zOm (fun h=>zW1 (bh i h))];exact low i hi
     simp[go_sem,f11,f12,d11,J,w2,Own.one T,Own.cells T]
     try refine⟨J,aC ?_⟩
     try refine aC ?_
     refine⟨zS1 f2,zS1 f7,zS1 f8,zS1 f9,zS1 f10,zS1 f11,zSi,C,P,by simp[go_sem];exact d9,by simp[go_sem];exact d10,zS1 ad,by rw[sl];simpa[go_sem] using ae,by rw[sh,zh];simpa[go_sem] using a4,bl,a7,af,by simpa[go_sem] using a2⟩
   .skip
    obtain rfl:U.length=j:=zOm;rw[qR]at ol oh;have cw:R+2<st2.mu.length:=(qi.1 c11).1;have bu:(cutM (fun j=>decide (R<=j)) st2.mu 0)[R+1]?=some (.arr [aI o,C]):=by rw[jB,c10];simp
    have bv:(cutM (fun j=>decide (R<=j)) st2.mu 0)[R+2]?=some (.arr [aI o,a0]):=by rw[jB,c11];simp
    have b7:∀ l:List Int,∀ r,r∈l.map rI->∀ c,c∈r->HF c:=fun l r hr c hc=>by
     obtain⟨x,_,rfl⟩:=qk.1 hr;simp at hc;subst hc;exact HF.sc _
    have bw:Rd (cutM (fun j=>decide (R<=j)) st2.mu 0) C (lI (selW (fun x=>decide (1<x)) rw U 0)):=Own.rd (Yz ol fun b hb=>zW1 (bl b hb)) (yw _).ok (b7 _);have ca:Rd (cutM (fun j=>decide (R<=j)) st2.mu 0) a0 (lI (selW (fun x=>decide (0<x)) rw U 0)):=Own.rd (Yz oh fun b hb=>zW1 (bh b hb)) (yw _).ok (b7 _);simp[go_sem,f9,f12,c9];refine cJ (d:=10) (d':=11) (L:=R) (x := .ip [aI o,lI (selW (fun x=>decide (1<x)) rw U 0)]) (x' := .ip [aI o,lI (selW (fun x=>decide (0<x)) rw U 0)]) zDe ?_ ?_ ?_
    .simp [go_sem,f10]
     refine .ptr (R+1) 0 [aI o,C] _ bu zSp fun k u v hu hv=>?_
     match k with
     | 0=>simp at hu hv;subst hu;subst hv;exact .zsc _
     | 1=>simp at hu hv;subst hu;subst hv;exact bw
     |k+2=>simp at hv
    .simp [go_sem,f11]
     refine .ptr (R+2) 0 [aI o,a0] _ bv zSp fun k u v hu hv=>?_
     match k with
     | 0=>simp at hu hv;subst hu;subst hv;exact .zsc _
     | 1=>simp at hu hv;subst hu;subst hv;exact ca
     |k+2=>simp at hv
    have a8:(cutM (fun j=>!decide (R<=j)) st2.mu 0)[B]?=some (.arr FL):=by
     rw[jB,low B bi,hc];simp[show ¬R<=B by omega]
    have b8:B<(cutM (fun j=>!decide (R<=j)) st2.mu 0).length:=(qi.1 a8).1;generalize b9:cutM (fun j=>!decide (R<=j)) st2.mu 0=CM at *
    simp[go_sem,f7,f8,h,a9,a8,b9];refine pM (.ptr B (k*4)) (if_pos zOm) ?_;have a3:=b5 (cBd BK) rfl zOm;rw[ai,jb _ _ _ zSo]at a3;have cb:cBd BK=[aI o,lI (selW (fun x=>decide (1<x)) rw U 0),aI o,lI (selW (fun x=>decide (0<x)) rw U 0)]:=by rw[be];rfl
    rw[cb]at a3;simp only[zJ,yG,vd,zK,List.length_nil]at a3;have bb:(jR ts sc raw (k+1)).length=W.length:=by rw[<-ai,List.length_set]
    simp[go_sem,a8,b9];refine pM (CM.set B (.arr (jR ts sc raw (k+1)).flatten)) (by rw[if_pos zOm,a3]) ?_;simp[go_sem,f2,f7,f8,w1,a9,h];refine aC ⟨zS1 f2,zS1 f7,zSi,.inr ⟨B,?_,?_⟩⟩
    .simp [go_sem,f7,h,bb]
    .simp [go_sem]
     rw[qL b8]
 .have cc:k=ts.sA.length:=by omega
  subst cc;have cd:jR ts sc raw ts.sA.length=(yf ts sc raw).map cBd:=by
   rw[jR,<-an,qR,an,List.drop_length,List.map_nil,zF]
  rw[cd]at ho;simp[go_sem,e7,e8];refine pM (aI (yf ts sc raw).length) (by rcases ho with h|⟨b,h,_⟩<;>rw[h]<;>simp) ?_;simp[go_sem,an,e7,Own.one ho,Own.cells ho];refine Own.rd ho (fun r hr=>?_) fun r hr=>?_
  .obtain ⟨x,_,rfl⟩:=qk.1 hr;rfl
  .obtain ⟨x,_,rfl⟩:=qk.1 hr;exact KD x
end I2
set_option maxHeartbeats 1000000
namespace IJ
open YF P1 E3 EO EQ F4 GB GP GR GS
theorem anyB(ts sc)(F:Fit9 ts sc)(D)(bv:D.length=ts.sA.length)(hd:∀ b,b∈D->Kt b)(o lp)(b6:0<=lp/\lp<=255) :
  qg qc 28 [eTS ts,eSc sc,lBd D,lBB o,.sc (.int .u8 lp)] (eMd (anyM sc (vsT ts) D o (lp % sc.sN))):=by
 have bw:=F.nf;have s1:=F.s1;have s4:=F.s4;generalize hS:sc.sN=S at *
 obtain⟨N,rfl⟩:=Int.eq_ofNat_of_zero_le (show 0<=S by omega);refine qSU call28 func28 rfl ?_;refine cL zKr ?_;have n1:¬(N:Int)<1:=zOm;have n0:¬(N:Int)=0:=zOm;have b7:¬N=0:=zOm;have wl:qp.wrap lp=lp:=zWr;have tm:lp.tmod (N:Int)=lp % (N:Int):=uW b6.1;simp[go_sem,hS,n1,b7,wl,tm];generalize hL:lp % (N:Int)=L at *
 have b8:anyM sc (vsT ts) D o L=⟨sc,(qs N).map (anyS (vsT ts) D o),L⟩:=by rw[anyM,hS];rfl
 rw[b8];generalize hA:anyS (vsT ts) D o=A at *
 refine aA N (fun k U=>U.tm 3=lBB o/\U.tm 5 = .ip (cTS ts)/\U.tm 6 = .ip [lI sc.sC,aI sc.sN]/\U.tm 10 = .ptr 0 0/\U.tm 11 = .ptr 1 0/\U.tm 2=lBd D/\U.tm 12=aI k /\
  ∃ s,U.mu[0]?=some (.arr [.lst true [],aI 0,.lst true [],aI 0])/\U.mu[1]?=some (.arr [lI sc.sC,aI N,s,aI L])/\Own U.mu 1 s (((qs k).map A).map fun r=>[lRel r])/\∀ b,qn s=some b->2<=b) ?_ ?_
 .exact ⟨zSi,zSi,zS1 hS,zSi,zSi,zSi,zSi,.lst true [],zSi,zSi,.inl zSp,by simp[qn]⟩
 rintro k U hk ⟨e2,e4,e5,e8,e9,b9,aa,s,h0,h1,ho,hb⟩;have ab:=(qi.1 h0).1;have ai:=(qi.1 h1).1;by_cases aj:k<N
 .have w1:=zWk k
  have n4:(k:Int)<4:=zOm;have a8:=fun fl:Bool=>qmG fl D (o.getD k []) U.mu zOm hd
  have ca:=X9 D (o.getD k []);have br:=X9 D (o.getD 0 []);have bb:A 0=vG D (o.getD 0 []):=by rw[<-hA,anyS,if_pos rfl]
  have bc:k≠0->A k=fixS (vsT ts) (A 0) (vG D (o.getD k [])) D.length:=fun h=>by rw[bb,<-hA,qmK _ _ _ _ h]
  have ak:k=0->A k=vG D (o.getD k []):=fun h=>by grind
  generalize cb:vG D (o.getD k [])=R at *
  have bs:(A 0).length=D.length:=by grind
  simp[go_sem,hS,e2,e5,aa,aj,n4];by_cases ad:k<o.length
  all_goals simp[go_sem,e2,b9,aa,ad]
  all_goals first
   | (rw[show lB o[k] = .lst false ((o.getD k []).map rB) by rw[z6,qz ad];rfl];refine fZ (a8 false) ?_ (by grind))
   | (have hi:=a8 true;rw[show (o.getD k []).map rB=[] by grind]at hi;refine fZ hi ?_ (by grind))
  all_goals
   rintro r m ⟨t,h,cc,cd,al,cf,be⟩;cases h;simp[go_sem,ad];refine aA D.length (fun j st2=>st2.tm 3=lBB o/\st2.tm 5 = .ip (cTS ts)/\st2.tm 6 = .ip [lI sc.sC,aI N]/\st2.tm 10 = .ptr 0 0/\st2.tm 11 = .ptr 1 0/\st2.tm 2=lBd D/\st2.tm 12=aI k/\st2.tm 14=r/\st2.tm 15=aI j /\
    Own st2.mu 2 r ((if k=0 then R else fixS (vsT ts) (A 0) R j).map cRel)/\∀ i,i<m.length->qn r≠some i->st2.mu[i]?=m[i]?) ?_ ?_
   .simp_all [go_sem,qmH]
   rintro j st2 hj ⟨f2,f4,f5,f8,f9,f10,f11,f13,f14,a0,ae⟩;have J:∀ i,i<U.mu.length->st2.mu[i]?=U.mu[i]?:=fun i hi=>by grind
   have a2:(if k=0 then R else fixS (vsT ts) (A 0) R j).length=D.length:=by grind [qmI]
   have an:k≠0->j<D.length->(if k=0 then R else fixS (vsT ts) (A 0) R (j+1))=if (vsT ts).getD j true=false then (if k=0 then R else fixS (vsT ts) (A 0) R j).set j ((A 0).getD j noR) else (if k=0 then R else fixS (vsT ts) (A 0) R j):=fun h1 h2=>by simp_all[if_neg,qmJ]
   have bg:¬(j<D.length/\k≠0)->(if k=0 then R else fixS (vsT ts) (A 0) R j)=A k:=fun h=>by
    by_cases h0:k=0
    .rw [if_pos h0,ak h0]
    .rw [if_neg h0,bc h0,show j=D.length by omega]
   generalize hW:(if k=0 then R else fixS (vsT ts) (A 0) R j)=W at *
   simp[go_sem,f13,f14];refine pM (aI D.length) (by rcases a0 with h|⟨b,h,_⟩<;>rw[h]<;>simp[a2]) ?_;by_cases a3:j<D.length/\k≠0
   .obtain ⟨C,ao⟩:=a3
    have aq:(vsT ts).getD j true=ts.sA[j].var:=by grind
    have w2:=zWk j;have P:st2.mu[1]?=some (.arr [lI sc.sC,aI N,s,aI L]):=by grind
    simp[go_sem,f4,f11,f14,C,show 0<k by omega,show j<ts.sA.length by omega];cases hv:ts.sA[j].var with
    |true =>
     simp[go_sem,f14,C,w2]
     try refine⟨C,aC ?_⟩
     try refine aC ?_
     refine⟨zS1 f2,zS1 f4,zS1 f5,zS1 f8,zS1 f9,zS1 f10,zS1 f11,zS1 f13,zSi,?_,zVs ae⟩;rw[an ao C,aq,hv,if_neg zSp];simp[go_sem, *]
    |false =>
     obtain⟨b,T⟩:=be zOm;have a1:r = .sl b 2 0 W.length/\st2.mu[b]?=some (.arr (W.map cRel).flatten):=by
      rcases a0 with h|⟨b',h,hc⟩
      .rw [h]at T;cases T
      .rw [h]at T;cases T
       exact⟨by rw[h];simp,hc⟩
     obtain⟨a1,a7⟩:=a1;have bh:=(qi.1 a7).1;have cg:=al b T;have af:(W.map cRel).flatten.length=W.length*2:=by rw[yL (vB W).ok];simp
     have bu:=Own.put (av:=r) (xs:=W.map cRel) (by rw[a1];simp) a7 (vB W).ok (i:=j) (r:=cRel ((A 0).getD j noR)) rfl zSo;have a4:j<(A 0).length:=zOm;have bi:(A 0).getD j noR=(A 0)[j]:=by rw[z6,qz a4];rfl
     have I:(((qs k).map A).map fun r=>[lRel r]).flatten[0]?=some (lRel (A 0)):=by
      obtain⟨k',rfl⟩:∃ k',k=k'+1:=⟨k-1,zOm⟩;rw[List.range_succ_eq_map];simp
     have au:(((qs k).map A).map fun r=>[lRel r]).length=k:=zSp;generalize a5:(((qs k).map A).map fun r=>[lRel r])=rows at *
     have bj:rows[0]?=some [lRel (A 0)]:=by
      rw[<-a5];obtain⟨k',rfl⟩:∃ k',k=k'+1:=⟨k-1,zOm⟩;simp
     have aw:(rows.map List.length).sum=k:=by
      have:=yL (sz:=1) (xs:=rows) (by rw[<-a5];intro r hr;obtain⟨n,_,rfl⟩:=qk.1 hr;rfl);rw[List.length_flatten]at this;omega
     have ax:rows.flatten.take 1=[lRel (A 0)]:=by
      cases ay:rows.flatten with
      |nil=>rw[ay]at I;cases I
      |cons x l=>rw[ay]at I;cases I;rfl
     have az:(W.map cRel).flatten.take (j*2)++aI (A 0)[j].ar :: lI (A 0)[j].ts :: (W.map cRel).flatten.drop (j*2+2)=((W.set j (A 0)[j]).map cRel).flatten:=by
      rw[List.map_set,Jp (W.map cRel) j _ (vB W).ok rfl zSo,jb _ _ _ (by simp only[af,cRel,zK,List.length_nil];omega)];simp
     have a6:Own (st2.mu.set b (.arr ((W.set j (A 0)[j]).map cRel).flatten)) 2 r ((W.set j (A 0)[j]).map cRel) := .inr ⟨b,by rw[a1];simp,qL bh⟩;have ag:=an ao C;rw[aq,hv,if_pos rfl,bi]at ag;rcases ho with rfl|⟨c,rfl,b0⟩
     .simp [go_sem,f9,f13,f14,P,a1,a2]
      refine pM (.ip [lRel (A 0)]) (by rw[bj];simp[au];omega) ?_;simp[go_sem,f14,C,a7,af,a2,a4];refine pM (st2.mu.set b (.arr ((W.set j (A 0)[j]).map cRel).flatten)) (by rw[if_pos zOm,az]) ?_;simp[go_sem,f14,C,w2]
      try refine⟨C,aC ?_⟩
      try refine aC ?_
      refine⟨zS1 f2,zS1 f4,zS1 f5,zS1 f8,zS1 f9,zS1 f10,zS1 f11,zS1 f13,zSi,by rw[ag];simpa[go_sem] using a6,fun i hi hn=>?_⟩;simp only[qB];rw[yE (fun e=>hn (by rw[<-e];exact T))];exact ae i hi hn
     .have bk:=(qi.1 b0).1
      have a9:=J c bk;rw[b0]at a9;simp[go_sem,f9,f13,f14,P,a9,au,show 0<k by omega,a1,a2];refine pM (lRel (A 0)) (by rw[aw,if_pos zOm,ax];rfl) ?_;simp[go_sem,f14,C,a7,af,a2,a4];refine pM (st2.mu.set b (.arr ((W.set j (A 0)[j]).map cRel).flatten)) (by rw[if_pos zOm,az]) ?_;simp[go_sem,f14,C,w2]
      try refine⟨C,aC ?_⟩
      try refine aC ?_
      refine⟨zS1 f2,zS1 f4,zS1 f5,zS1 f8,zS1 f9,zS1 f10,zS1 f11,zS1 f13,zSi,by rw[ag];simpa[go_sem] using a6,fun i hi hn=>?_⟩;simp only[qB];rw[yE (fun e=>hn (by rw[<-e];exact T))];exact ae i hi hn
   .have bm:j<D.length->¬ 0<k:=fun h=>by omega
    rw[bg a3]at a0;have P:st2.mu[1]?=some (.arr [lI sc.sC,aI N,s,aI L]):=by rw[J 1 ai];exact h1
    by_cases C:j<D.length<;>simp[go_sem,f9,f11,f13,C,bm,P,Own.one a0,Own.cells a0]
    all_goals
     refine cS (e:=98) (sz:=1) (bt:=24) (zv := .lst true []) (xs:=((qs k).map A).map fun r=>[lRel r]) [lRel (A k)] U.mu.length zSi zSi zSi rfl rfl zOm zOm ?_ (fun b h=>Own.lt ho h) ?_ ?_ ?_ zSo ?_
     .rcases ho with h|⟨b,h,hc⟩
      .exact .inl h
      .exact .inr ⟨b,h,by rw[J b (qi.1 hc).1];exact hc⟩
     .exact ⟨Own.rd (Yz a0 al) (vB _).ok fun r hr c hc=>by
       obtain⟨n,_,rfl⟩:=qk.1 hr;exact ZI n c hc,trivial⟩
     .intro r hr
      obtain⟨n,_,rfl⟩:=qk.1 hr;exact⟨rfl,rfl⟩
     .intro r hr
      simp at hr;subst hr;exact⟨rfl,rfl⟩
     intro b1 b2 ah b3 b4 ch cj;have ck:U.mu.length<=st2.mu.length:=by
      have:=J (U.mu.length-1) zOm;rw[qz (show U.mu.length-1<U.mu.length by omega)]at this;have:=(qi.1 this).1;omega
     have g1:b2[1]?=some (.arr [lI sc.sC,aI N,s,aI L]):=by rw[b3 1 zOm ai (fun h=>zW1 (hb 1 h))];exact P
     have g0:b2[0]?=some (.arr [.lst true [],aI 0,.lst true [],aI 0]):=by rw[b3 0 zOm ab (fun h=>zW1 (hb 0 h)),J 0 ab];exact h0
     have l1:=(qi.1 g1).1;simp[go_sem,f9,f11,g1,w1,Own.one ah,Own.cells ah]
     try refine⟨aj,aC ?_⟩
     try refine aC ?_
     refine⟨zS1 f2,zS1 f4,zS2 f5 hS,zS1 f8,zS1 f9,zS1 f10,zSi,b1,zS1 g0,zS1 l1,?_,fun b h=>zW1 (b4 b h)⟩;rw[List.range_succ,zh,zh];simpa[go_sem] using Own.set ah (.arr [lI sc.sC,aI N,b1,aI L]) (fun h=>zW1 (b4 1 h))
 .have bn:k=N:=by omega
  subst bn;have bo:s.one=true:=Own.one ho;have cl:s.cells=[s]:=Own.cells ho;have b5:∀ c,(U.mu.set 0 c)[0]?=some c:=fun c=>qL ab
  simp[go_sem,hS,e5,e8,e9,aa,h0,h1,bo,b5];have bq:=Own.set ho (i:=0) (.arr [lI sc.sC,aI k,s,aI L]) (fun h=>zW1 (hb 0 h));show Rd _ _ (.agg [lI sc.sC,aI sc.sN,lSt ((qs k).map A),aI L]);rw[hS];refine Rd.aggs ⟨.hf _ (zo _),.hf _ (HF.sc _),?_,.hf _ (HF.sc _),trivial⟩;exact Own.rd bq (fun r hr=>by
   obtain⟨n,_,rfl⟩:=qk.1 hr;rfl) fun r hr c hc=>by
   obtain⟨n,_,rfl⟩:=qk.1 hr;simp at hc;subst hc;exact Xq n
end IJ
set_option maxHeartbeats 1000000
namespace I5
open GH Y1 Y16 YF P1 Q4 Q8 E1 E3 E4 E9 F1 GD G5 GF GP GQ GR GS GU GV GW HE HH IB IF IJ IK I1 I2 W41
theorem qe0(raw):HF (lRaw raw):=HF.lst fun r i c g=>by
 obtain⟨l,_,rfl⟩:=qk.1 i;simp at g;subst g;exact HF.lst fun r i c g=>by
  obtain⟨x,_,rfl⟩:=qk.1 i;simp at g;subst g;exact HF.sc _
def tiny(m:Md):Prop:=SmS m.sK/\m.sc.sC.length<=1000
theorem eq07(a b)(h:tiny a):qg qc 12 [eMd a,eMd b] (aB (decide (a=b))):=
 qsU a b (zW1 h.2) (zW1 h.1.n) fun s g=>⟨zW1 (h.1.f s g),fun r i=>zW1 ((h.1.t s g r i).1)⟩
theorem pb(l m)(J:l.length<=1000000)(h:∀ x,x∈l->tiny x):qg qc 13 [lMd l,eMd m] (aB (decide (m∈l))):=by
 refine qSU call13 func13 rfl ?_;refine aA l.length (fun k U=>U.tm 0=lMd l/\U.tm 3 = .ip (cMd m)/\U.tm 5=aI k/\∀(i:Nat)(h:i<l.length),i<k->l[i]≠m) ?_ ?_
 .simp [go_sem, *]
 rintro k U P ⟨j,r,o,R⟩;by_cases g:k<l.length
 .have t:=zWk k
  have C:=h _ (qq g);have I:=eq07 l[k] m C;simp[go_sem,j,o,g];refine cL zKr ?_;simp[go_sem,j,r,o,g];refine pL I (.zk (zu _) (.zk (zu _) .nil)) ?_;by_cases hx:l[k]=m
  .simp [go_sem,hx]
   rw[decide_eq_true (by grind)];exact .zsc _
  .simp [go_sem,hx,o,g,t]
   try refine⟨g,aC ?_⟩
   try refine aC ?_
   refine⟨zS1 j,zS1 r,zSi,fun i h T=>?_⟩
   grind
 .have p:k=l.length:=by omega
  subst p;simp[go_sem,j,o];rw[decide_eq_false (fun h=>by
   grind [List.mem_iff_getElem])]
  exact .zsc _
theorem Qt(mu):Rd mu (.tup [.lst true [],.agg [.lst true [],aI 0,.lst true [],aI 0],aB false]) (.tup [lBd [],eMd mdZ,aB false]):=by
 refine .tup _ _ rfl fun j u v hx g=>?_
 match j with
 | 0=>simp at hx g;subst hx;subst g;exact .wk _ true _ (.hf _ (HF.lst fun r i=>by simp at i))
 | 1=>grind [qnI]
 | 2=>simp at hx g;subst hx;subst g;exact .zsc _
 |j+3=>simp at hx
theorem qs8(b m):HF (.tup [lBd b,eMd m,aB true]):=HF.tup (by simp only[qv,qI,or_false,forall_eq_or_imp,forall_eq];grind [yH,zu,HF.sc])
abbrev tupM(ts:TS)(sc:Sc)(raw:List (List Int))(g:List (List Bool))(lp:Int)(ok:Bool):AV:=if ok=true then .tup [lBd (yf ts sc raw),eMd (anyM sc (vsT ts) (defB ts sc) g (lp % sc.sN)),aB true] else .tup [lBd [],eMd mdZ,aB false]
def ok25(ts:TS)(sc:Sc)(raw:List (List Int))(n:Nd):Bool:=yT ts&&(jx ts sc&&(decide (sumI sc.sC<=5)&&(qH n&&(decide (y7 ts=[])&&(decide (yy ts [] n=(0,0))&&(k6 ts (sumI sc.sC) sc.sN n&&(decide ((chs (vsT ts) (qN (yf ts sc raw) 0) sc.sN.toNat).length<=8))))))))
theorem Wy{ts}(g:bigT ts){sc raw n}(h:ok25 ts sc raw n=true):Cx ts sc (yf ts sc raw) sc.sN.toNat/\qH n=true/\(yy ts [] n).1=0:=by
 simp only[ok25,qF,decide_eq_true_eq]at h;obtain⟨i,j,l,o,p,r,I,J⟩:=h;have F:=ZU j;have t:=F.s1;have C:y9 sc=true:=by
  simp_all[jx,qF]
 refine⟨⟨k5 i g,p,F,C,l,qeV ts sc raw fun f hf=>UK _ _ _,zOm,?_⟩,o,by rw[r]⟩;omega
theorem pf(ts)(hs:bigT ts)(sc raw)(hr:∀ l,l∈raw->∀ x,x∈l->0<=x/\x<=255)(n C lp)(a2:0<=lp/\lp<=255) :
  qg qc 7 [.agg (jn ts sc raw n C lp)] (tupM ts sc raw C lp (ok25 ts sc raw n)):=by
 generalize o:ok25 ts sc raw n=R;have hx:=fun h=>Wy (ts:=ts) hs (sc:=sc) (raw:=raw) (n:=n) h
 unfold ok25 at o hx;obtain⟨op,nm,i,ks,q⟩:=n;have a3:jn ts sc raw (.mk op nm i ks q) C lp=[.lst false (ts.sS.map uG),.lst false (ts.sA.map jZ),lPd ts.sT,lFa ts.sP,lI sc.sC,aI sc.sN,lRaw raw,aI op,aS nm,aI i,.lst false (ks.map cNd),aI q,lBB C,u8 lp]:=by unfold jn;rw[z8];rfl
 have a4:eNd (.mk op nm i ks q) = .agg [aI op,aS nm,aI i,.lst false (ks.map cNd),aI q]:=by rw[eNd,z8];rfl
 rw[a3];generalize hn:Nd.mk op nm i ks q=n at *
 have wn:WK (.agg [aI op,aS nm,aI i,.lst false (ks.map cNd),aI q]) (eNd n):=by rw[<-a4];exact .hf (qK n)
 have p:WK (.agg [.lst false (ts.sS.map uG),.lst false (ts.sA.map jZ),lPd ts.sT,lFa ts.sP]) (eTS ts) := .hf (zq ts);have t:WK (.agg [lI sc.sC,aI sc.sN]) (eSc sc) := .hf (zH sc);refine qSU call7 func7 rfl ?_;refine fM ?_;refine pL (qlR ts) (.cons p .nil) ?_;cases h1:yT ts with
 |false =>
  rw[h1]at o;replace o:false=R:=o;subst o;simp[go_sem];exact Qt _
 |true =>
 have S:=k5 h1 hs;rw[h1,Bool.true_and]at o hx;simp[go_sem];refine pL (qlW ts sc) (.cons p (.cons t .nil)) ?_;cases U:jx ts sc with
 |false =>
  rw[U]at o;replace o:false=R:=o;subst o;simp[go_sem];exact Qt _
 |true =>
 have F:=ZU U;rw[U,Bool.true_and]at o hx;simp[go_sem];refine pL (mz sc F.g) (.cons t .nil) ?_;by_cases h3:sumI sc.sC<=5
 case neg =>
  have J:5<sumI sc.sC:=zOm;rw[decide_eq_false h3]at o;replace o:false=R:=o;subst o;simp[go_sem,J];exact Qt _
 have J:¬ 5<sumI sc.sC:=zOm;rw[decide_eq_true h3,Bool.true_and]at o hx;simp[go_sem,J];refine pL (J5 n) (.cons wn .nil) ?_;cases h4:qH n with
 |false =>
  rw[h4]at o;replace o:false=R:=o;subst o;simp[go_sem];exact Qt _
 |true =>
 rw[h4,Bool.true_and]at o hx;simp[go_sem];refine pL S.chk (.cons p .nil) ?_;by_cases h5:y7 ts=[]
 case neg =>
  have P:0<(y7 ts).length:=List.length_pos_iff.2 h5;rw[decide_eq_false h5]at o;replace o:false=R:=o;subst o;simp[go_sem,P];exact Qt _
 have P:(y7 ts).length=0:=by rw[h5];rfl
 rw[decide_eq_true h5,Bool.true_and]at o hx;simp[go_sem,P];refine pL (S.chkF h4) (.cons p (.cons (WK.lst fun r hr=>absurd hr qI) (.cons wn .nil))) ?_;by_cases h6:yy ts [] n=(0,0)
 case neg =>
  rw[decide_eq_false h6]at o;replace o:false=R:=o;subst o;generalize yy ts [] n=D at *
  obtain⟨d1,d2⟩:=D;by_cases g1:d1=0
  .have g2:¬d2=0:=fun e=>h6 (by rw[g1,e])
   simp[go_sem,g1,g2];exact Qt _
  .simp [go_sem,g1]
   exact Qt _
 rw[decide_eq_true h6,Bool.true_and]at o hx;rw[h6];simp[go_sem];have a0:=F.g.sum sc.sC.length;rw[qR]at a0;have a6:=F.s1;have a7:=F.s4;refine fR (mz sc F.g) (.cons t .nil) ?_;refine pL (qsF S h5 (sumI sc.sC) sc.sN zOm zOm h4) (.cons p (.zs (.zs (.cons wn .nil)))) ?_;cases h7:k6 ts (sumI sc.sC) sc.sN n with
 |false =>
  rw[h7]at o;replace o:false=R:=o;subst o;simp[go_sem];exact Qt _
 |true =>
 rw[h7,Bool.true_and]at o hx;simp[go_sem];have hB:=qeV ts sc raw fun f hf=>UK _ _ _
 have a8:(yf ts sc raw).length=ts.sA.length:=Qs ts sc raw;have a9:=F.nf;have a1:∀ x,x∈yf ts sc raw->x.up.ts.length<=1000/\x.lo.ts.length<=1000/\sorted x.lo.ts:=fun x hx=>by
  obtain⟨j,hj,rfl⟩:=List.getElem_of_mem hx;have U:j<ts.sA.length:=zOm;have h:=qeX F h3 (qq U);obtain⟨s1,s2⟩:=hB.so _ hx;have h4:=YK s2 (hB.full j hj U);have h5:=YK s1 (hB.sub _ hx);exact⟨zOm,zOm,s1⟩
 have T:∀ x,x∈yf ts sc raw->Qn x:=fun x hx=>by
  obtain⟨a,b,c⟩:=a1 x hx;exact⟨zOm,zOm,c.imp fun h=>zOm⟩
 have a5:(qN (yf ts sc raw) 0).length<=100000:=by
  have:=k9 1000 (yf ts sc raw) 0 fun x hx=>(a1 x hx).1
  omega
 have cM:=qs7 ts sc F raw hr;have cC:=qs1 ts sc (yf ts sc raw) sc.sN.toNat zOm zOm zOm T zOm a5;refine fR cM (.cons p (.cons t (.zk (qe0 raw) .nil))) ?_;refine pL cC (.cons p (.cons t (.zk (yH _) .nil))) ?_;by_cases h8:(chs (vsT ts) (qN (yf ts sc raw) 0) sc.sN.toNat).length<=8
 case neg =>
  have I:(8:Int)<(chs (vsT ts) (qN (yf ts sc raw) 0) sc.sN.toNat).length:=zOm;rw[decide_eq_false h8]at o;subst o
  try simp only[zb,Int.natCast_add]at I
  simp[go_sem,I];exact Qt _
 have I:¬(8:Int)<(chs (vsT ts) (qN (yf ts sc raw) 0) sc.sN.toNat).length:=zOm;rw[decide_eq_true h8]at o;subst o
 try simp only[zb,Int.natCast_add]at I
 simp[go_sem,I];refine fM ?_;refine fR (Ks ts sc F) (.cons p (.cons t .nil)) ?_;refine fR (anyB ts sc F (defB ts sc) (by simp[defB]) (fun b hb=>(qaM F h3 b hb).2.2) C lp a2) (.cons p (.cons t (.zk (yH _) (.zk (qaL _) (.zs .nil))))) ?_;exact .hf _ (qs8 _ _)
end I5
namespace IM
open P1 G5 GP GR GW
variable {ts:TS} {sc:Sc} {b:List Bd} {N:Nat}
theorem qe1(F:Fit9 ts sc):BndV ts sc (defB ts sc):=by
 refine⟨by simp[defB],fun i h j=>?_,fun x hx=>?_,fun x hx t g=>?_,fun i h j t g=>?_⟩
 .simp [defB]
 .obtain ⟨f,hf,rfl⟩:=qk.1 hx
  exact⟨List.Pairwise.nil,UK _ _ _⟩
 .obtain ⟨f,hf,rfl⟩:=qk.1 hx
  exact absurd g qI
 grind [defB]
end IM
namespace IG
open E3 F1 GB GD GF GU HB HC
def rowB(g:List (Int×Int))(m:Md)(s:Nat):List Bool:=g.map fun p=>bit m ((s:Int),p.1,p.2)
def wM(g:List (Int×Int))(m:Md)(k n:Nat):List Bool:=(List.range' k n).flatMap (rowB g m)
theorem qe2(g N m):wM g m 0 N=Wv g N m:=by
 simp only[wM,Wv,posF,List.range_eq_range',List.map_flatMap];congr 1;funext s;simp[rowB]
theorem qe3(g m k n):wM g m k (n+1)=rowB g m k++wM g m (k+1) n:=by
 simp[wM,List.range'_succ]
theorem qe4(g m s j h):(rowB g m s).drop j=bit m ((s:Int),g[j].1,g[j].2) :: (rowB g m s).drop (j+1):=by
 grind [zy,rowB]
theorem qe5(m)(s f:Nat)(t g)(hf:f<m.sK[s].length):bit m ((s:Int),(f:Int),t)=decide (t∈m.sK[s][f].ts):=by
 have e:(m.sK.getD s []).getD f noR=m.sK[s][f]:=by
  rw[z6 (l:=m.sK),qz g];show (m.sK[s]).getD f noR=_;rw[z6,qz hf];rfl
 simp only[bit,Int.toNat_natCast,e]
structure LsM (n N:Nat) (m:Md):Prop where
 ns:m.sK.length=N
 len:∀ s,s∈m.sK->s.length=n
 so:∀ s,s∈m.sK->∀ r,r∈s->r.ts.length<=1000000000/\r.ts.Pairwise (·<·)
theorem qe6(m)(s f:Nat)(t g)(hf:f<m.sK[s].length)(i:m.sK[s][f].ts.length<=1000000000)(j:m.sK[s][f].ts.Pairwise (·<·)):qg qc 50 [eMd m,aI s,.agg [aI f,aI t]] (aB (decide (t∈m.sK[s][f].ts))):=by
 have l:=binU m.sK[s][f].ts t i (j.imp fun h=>zOm);refine qSU call50 func50 rfl ?_;refine cL zKr ?_;simp[go_sem,g,hf];refine fR l (.zk (zo _) (.zs .nil)) ?_;exact .zsc _
theorem lessU(g a c N)(ga:LsM g.length N a)(gc:LsM g.length N c)(hl:g.length<=1000)(hb:∀ x,x∈g->Qn x)(hN:N<=1000):qg qc 20 [lBd g,eMd a,eMd c] (aB (Jk (qN g 0) N a c)):=by
 have t:=qaX g hl hb;have C:=UU g 0;have a0:=J9 g 0 hb;have a7:(qN g 0).length<=1000000000:=zG a0 zOm;generalize hF:qN g 0=F at *
 generalize hR:Jk F N a c=R;unfold Jk at hR;refine qSV call20 func20 rfl ?_;by_cases i:a.loop=c.loop
 case neg =>
  rw[if_neg i]at hR;subst hR;simp[go_sem,i];exact .zsc _
 rw[if_pos i,<-qe2,<-qe2]at hR;have na:=ga.ns;have nc:=gc.ns;simp[go_sem,i];refine fR t (.zk (yH _) .nil) ?_;refine aA N (fun k U=>U.tm 4 = .ip (cMd a)/\U.tm 5 = .ip (cMd c)/\U.tm 7 = .fn (.func 50) [] []/\U.tm 8=lP F/\U.tm 9=aB false/\U.tm 29=aI N/\U.tm 30=aI k/\lexB (wM F a k (N-k)) (wM F c k (N-k))=R) ?_ ?_
 .simp [go_sem, *]
 rintro k U hk ⟨e4,e5,e7,e8,e9,l,o,p⟩;by_cases a3:k<N
 .have w1:=zWk k
  rw[show N-k=(N-(k+1))+1 by omega,qe3,qe3]at p;simp[go_sem,e8,l,o,a3];refine aA F.length (fun j st2=>st2.tm 4 = .ip (cMd a)/\st2.tm 5 = .ip (cMd c)/\st2.tm 7 = .fn (.func 50) [] []/\st2.tm 8=lP F/\st2.tm 9=aB false/\st2.tm 10=aI k/\st2.tm 29=aI N/\st2.tm 30=aI k/\st2.tm 33=lP F/\st2.tm 34=aI F.length/\st2.tm 35=aI j/\lexB ((rowB F a k).drop j++wM F a (k+1) (N-(k+1))) ((rowB F c k).drop j++wM F c (k+1) (N-(k+1)))=R) ?_ ?_
  .simp [go_sem, *]
  clear e4 e5 e7 e8 e9 l o p;rintro j st2 hj ⟨e4,e5,e7,e8,e9,I,l,o,a4,a5,a6,p⟩;by_cases r:j<F.length
  .have w2:=zWk j
   rw[qe4 F a k j r,qe4 F c k j r,yG,yG,lexB]at p;have hm:=C _ (qq r);obtain⟨f,hf⟩:=Int.eq_ofNat_of_zero_le (show 0<=F[j].1 by omega);have a8:f<g.length:=zOm;have ka:k<a.sK.length:=zOm;have kc:k<c.sK.length:=zOm;have la:=ga.len _ (qq ka);have lc:=gc.len _ (qq kc);have fa:f<a.sK[k].length:=zOm;have fc:f<c.sK[k].length:=zOm;obtain⟨a1,a2⟩:=ga.so _ (qq ka) _ (qq fa);obtain⟨c1,c2⟩:=gc.so _ (qq kc) _ (qq fc);have ca:=qe6 a k f F[j].2 ka fa a1 a2;have cc:=qe6 c k f F[j].2 kc fc c1 c2;rw[hf,qe5 a k f _ ka fa,qe5 c k f _ kc fc]at p;generalize decide (F[j].2∈a.sK[k][f].ts)=x at *
   generalize decide (F[j].2∈c.sK[k][f].ts)=y at *
   have a9:rP F[j]=[aI f,aI F[j].2]:=by rw[rP,hf]
   have wk:∀ m:Md,WKs [eMd m,aI k,.agg [aI f,aI F[j].2]] [eMd m,aI k,.agg [aI f,aI F[j].2]]:=fun m => .zk (zu m) (.zs (.zk (HF.agg fun c hc=>by simp at hc;rcases hc with rfl|rfl<;>exact HF.sc _) .nil))
   simp[go_sem,a4,a5,a6,r];refine cL zKr ?_;simp[go_sem,e4,e7,I,hf];refine pL ca (wk a) ?_;simp[go_sem,e5,e7,I,hf];refine pL cc (wk c) ?_;by_cases J:x=y
   .simp_all [go_sem,if_pos,aC]
   .rw [if_neg J]at p
    subst p;have P:(x == y)=false:=zUs J;simp[go_sem,P];exact .zsc _
  .have T:j=F.length:=by omega
   simp_all[go_sem,rowB,List.drop_eq_nil_of_le,vd,aC]
 .have T:k=N:=by omega
  subst T;simp[wM,lexB]at p;subst p;simp[go_sem,e9,l,o];exact .zsc _
end IG
namespace I4
end I4
set_option maxHeartbeats 1000000
namespace JK
open Y1 YF P1 E3 E4 F1 GF GP GQ GR GS GU GW HC IB IG IK IM I5 IT IM IG QB
def tsB:TS:=⟨[(⟨#[65]⟩,false)],[⟨⟨#[102]⟩,[0],true⟩],[],[]⟩
def scB(a s:Int):Sc:=⟨[a],s⟩
def bsB(l:List Int):List Bd:=[⟨⟨1,[]⟩,⟨1,l⟩⟩]
def pg:Nd := .mk 34 ⟨#[]⟩ 0 [.mk 1 ⟨#[102]⟩ 0 [] 0] 0
def mkM(sc:Sc)(l:List Int):Md:=⟨sc,[[⟨1,l⟩]],0⟩
theorem of25(sc l):qg qc 19 [eSc sc,lI l] (eMd (mkM sc l)):=by
 refine qSU call19 func19 rfl ?_;refine .agg _ _ rfl fun k x y hx g=>?_
 match k with
 | 0=>simp[mkM]at hx g;subst hx;subst g;exact .hf _ (zo _)
 | 1=>simp[mkM]at hx g;subst hx;subst g;exact .zsc _
 | 2 =>
  simp[mkM]at hx g;subst hx;subst g;refine .wk _ true _ (.lst true _ _ rfl (fun k x y hx g=>?_) fun k x y hx g=>?_)
  .grind
  .match k with
   | 0=>simp at hx g;subst hx;subst g;exact .wk _ true _ (.hf _ (HF.lst fun r i c j=>by simp at i;subst i;simp at j;rcases j with rfl|rfl;exact HF.sc _;exact zo l))
   |k+1=>simp at hx
 | 3=>simp[mkM]at hx g;subst hx;subst g;exact .zsc _
 |k+4=>simp at hx
theorem wtsB:WK (.agg [.lst true [[aS ⟨#[65]⟩,aB false]],.lst true [[aS ⟨#[102]⟩,.lst true [[aI 0]],aB true]],.lst true [],.lst true []]) (eTS tsB):=
 WK.aggs (.cons (YT ⟨.zs (.zs .nil),trivial⟩) (.cons (YT ⟨.zs (.cons (WK.ints [0]) (.zs .nil)),trivial⟩) (.cons (YT (by trivial)) (.cons (YT (by trivial)) .nil))))
theorem wscB(a s):WK (.agg [.lst true [[aI a]],aI s]) (eSc (scB a s)):=WK.aggs (.cons (WK.ints [a]) (.zs .nil))
theorem wnB:WK (.agg [aI 34,aS ⟨#[]⟩,aI 0,.lst true [[aI 1,aS ⟨#[102]⟩,aI 0,.lst true [],aI 0]],aI 0]) (eNd pg):=Wa 34 ⟨#[]⟩ 0 0 (YT ⟨qb9 1 ⟨#[102]⟩ 0 0 (YT (by trivial)),trivial⟩)
theorem cxB(s:Int)(N:Nat)(g:s=N)(i:jx tsB (scB 2 s)=true)(j:y9 (scB 2 s)=true)(o:defB tsB (scB 2 s)=bsB [0,1])(l:(chs (vsT tsB) (qN (bsB [0,1]) 0) N).length<=9):Cx tsB (scB 2 s) (bsB [0,1]) N:=
 ⟨k5 (by decide +kernel) (by intro x hx;simp[tsB]at hx;subst hx;decide),by decide +kernel,ZU i,j,by show sumI [2]<=5;decide,by grind [qe1,ZU],g,l⟩
theorem cx1:Cx tsB (scB 2 1) (bsB [0,1]) 1:=cxB 1 1 rfl (by decide +kernel) (by decide +kernel) (by decide +kernel) (by decide +kernel)
theorem cx2:Cx tsB (scB 2 2) (bsB [0,1]) 2:=cxB 2 2 rfl (by decide +kernel) (by decide +kernel) (by decide +kernel) (by decide +kernel)
theorem llB:LL tsB (scB 2 1) (bsB [0,1]) 1=[mkM (scB 2 1) [],mkM (scB 2 1) [1],mkM (scB 2 1) [0],mkM (scB 2 1) [0,1]]:=by decide +kernel
theorem mvB:MV tsB (scB 2 1) (bsB [0,1]) 1 pg=([mkM (scB 2 1) [1],mkM (scB 2 1) [0],mkM (scB 2 1) [0,1]],0):=by decide +kernel
theorem ll2:(LL tsB (scB 2 2) (bsB [0,1]) 2).length=32/\((LL tsB (scB 2 2) (bsB [0,1]) 2)[0]?.map Md.loop)=some 0/\((LL tsB (scB 2 2) (bsB [0,1]) 2)[16]?.map Md.loop)=some 1:=by decide +kernel
theorem memB(l)(h:l=[]\/l=[1]\/l=[0]\/l=[0,1]):mkM (scB 2 1) l∈LL tsB (scB 2 1) (bsB [0,1]) 1:=by
 rw[llB];rcases h with rfl|rfl|rfl|rfl<;>simp
theorem tinyB(l)(h:l=[]\/l=[1]\/l=[0]\/l=[0,1]):tiny (mkM (scB 2 1) l):=⟨cx1.sms (cx1.betw (memB l h)),by show [2].length<=_;decide⟩
theorem eqB(l)(h:l=[]\/l=[1]\/l=[0]\/l=[0,1]):qg qc 12 [eMd (mkM (scB 2 1) l),eMd (mkM (scB 2 1) l)] (aB true):=by
 have:=eq07 (mkM (scB 2 1) l) (mkM (scB 2 1) l) (tinyB l h)
 rwa[decide_eq_true rfl]at this
theorem lsB(l)(h:l=[]\/l=[1]\/l=[0]\/l=[0,1]):LsM (bsB [0,1]).length 1 (mkM (scB 2 1) l):=by
 have g:=cx1.betw (memB l h);have i:=cx1.sms g;exact⟨g.ns,g.len,fun s j r o=>⟨zW1 ((i.t s j r o).1),(i.t s j r o).2⟩⟩
theorem leB(l k)(g:l=[]\/l=[1]\/l=[0]\/l=[0,1])(i:k=[]\/k=[1]\/k=[0]\/k=[0,1]):qg qc 20 [lBd (bsB [0,1]),eMd (mkM (scB 2 1) l),eMd (mkM (scB 2 1) k)] (aB (Jk (qN (bsB [0,1]) 0) 1 (mkM (scB 2 1) l) (mkM (scB 2 1) k))):=
 lessU _ _ _ 1 (lsB l g) (lsB k i) zDe cx1.okf zOm
theorem defB1:qg qc 18 [eTS tsB,eSc (scB 2 1)] (lBd (bsB [0,1])):=by
 have:=Ks tsB (scB 2 1) (ZU (by decide +kernel))
 rwa[show defB tsB (scB 2 1)=bsB [0,1] by decide +kernel]at this
theorem defB2:qg qc 18 [eTS tsB,eSc (scB 5 3)] (lBd (bsB [0,1,2,3,4])):=by
 have:=Ks tsB (scB 5 3) (ZU (by decide +kernel))
 rwa[show defB tsB (scB 5 3)=bsB [0,1,2,3,4] by decide +kernel]at this
theorem qe7:qg qc 6 [] (aB true):=by
 have C:=cx1.inst;rw[llB]at C;have J:=cx2.inst;obtain⟨g,q2,q3⟩:=ll2;generalize LL tsB (scB 2 2) (bsB [0,1]) 2=l at *
 have o:∀ h:0<l.length,l[0].loop=0:=fun h=>by
  grind
 have i:∀ h:16<l.length,l[16].loop=1:=fun h=>by
  grind
 have o:=o zOm;have i:=i zOm;have I:=cx1.models (n:=pg) (by decide +kernel);rw[mvB]at I;have f5:Fit9 tsB (scB 5 3):=ZU (by decide +kernel);have P:=KM tsB (scB 2 1) cx1.F cx1.z;have R:=qnP tsB (scB 2 1) [] P (qnO tsB (scB 2 1) cx1.F [] zDe);have d5:defB tsB (scB 5 3)=bsB [0,1,2,3,4]:=by decide +kernel
 have T:BndV tsB (scB 5 3) (bsB [0,1,2,3,4]):=by grind [qe1]
 have c5:=qa0 tsB (scB 5 3) (bsB [0,1,2,3,4]) 3 rfl zOm zDe (by intro x hx;simp[bsB]at hx;subst hx;exact⟨zDe,zDe,zDe⟩) zDe (by decide +kernel);have U:=qnQ tsB (scB 5 3) (bsB [0,1,2,3,4]) _ (by decide +kernel) (KM tsB (scB 5 3) f5 (by decide +kernel)) (qbE tsB (scB 5 3) _ f5 zDe T) c5;have p:=leB [1] [0] zSp zSp;rw[show Jk (qN (bsB [0,1]) 0) 1 (mkM (scB 2 1) [1]) (mkM (scB 2 1) [0])=true by decide +kernel]at p;have t:=leB [1] [1] zSp zSp;rw[show Jk (qN (bsB [0,1]) 0) 1 (mkM (scB 2 1) [1]) (mkM (scB 2 1) [1])=false by decide +kernel]at t;refine qSU call6 func6 rfl ?_;refine fR defB1 (.cons wtsB (.cons (wscB 2 1) .nil)) ?_;refine fR C (.cons wtsB (.cons (wscB 2 1) (.zk (yH _) .nil))) ?_;refine fR I (.cons wtsB (.cons (wscB 2 1) (.zk (yH _) (.cons wnB .nil)))) ?_;refine fR J (.cons wtsB (.cons (wscB 2 2) (.zk (yH _) .nil))) ?_;refine fR R (.cons wtsB (.cons (wscB 2 1) (.cons (WK.lst fun r j=>absurd j qI) .nil))) ?_;refine fM ?_;refine fR defB2 (.cons wtsB (.cons (wscB 5 3) .nil)) ?_;refine pL U (.cons wtsB (.cons (wscB 5 3) (.zk (yH _) .nil))) ?_;simp[go_sem,g]
 first|refine pL (of25 (scB 2 1) []) (.cons (wscB 2 1) (.cons (WK.lst fun r j=>absurd j qI) .nil)) ?_ | (refine cL zKr ?_;simp[go_sem,g];refine pL (of25 (scB 2 1) []) (.cons (wscB 2 1) (.cons (WK.lst fun r j=>absurd j qI) .nil)) ?_)
 simp[go_sem,g]
 first|refine pL (eqB [] zSp) (.zk (zu _) (.zk (zu _) .nil)) ?_ | (refine cL zKr ?_;simp[go_sem,g];refine pL (eqB [] zSp) (.zk (zu _) (.zk (zu _) .nil)) ?_)
 simp[go_sem,g]
 first|refine pL (of25 (scB 2 1) [1]) (.cons (wscB 2 1) (.cons (WK.ints [1]) .nil)) ?_ | (refine cL zKr ?_;simp[go_sem,g];refine pL (of25 (scB 2 1) [1]) (.cons (wscB 2 1) (.cons (WK.ints [1]) .nil)) ?_)
 simp[go_sem,g]
 first|refine pL (eqB [1] zSp) (.zk (zu _) (.zk (zu _) .nil)) ?_ | (refine cL zKr ?_;simp[go_sem,g];refine pL (eqB [1] zSp) (.zk (zu _) (.zk (zu _) .nil)) ?_)
 simp[go_sem,g]
 first|refine pL (of25 (scB 2 1) [0]) (.cons (wscB 2 1) (.cons (WK.ints [0]) .nil)) ?_ | (refine cL zKr ?_;simp[go_sem,g];refine pL (of25 (scB 2 1) [0]) (.cons (wscB 2 1) (.cons (WK.ints [0]) .nil)) ?_)
 simp[go_sem,g]
 first|refine pL (eqB [0] zSp) (.zk (zu _) (.zk (zu _) .nil)) ?_ | (refine cL zKr ?_;simp[go_sem,g];refine pL (eqB [0] zSp) (.zk (zu _) (.zk (zu _) .nil)) ?_)
 simp[go_sem,g]
 first|refine pL (eqB [1] zSp) (.zk (zu _) (.zk (zu _) .nil)) ?_ | (refine cL zKr ?_;simp[go_sem,g];refine pL (eqB [1] zSp) (.zk (zu _) (.zk (zu _) .nil)) ?_)
 simp[go_sem,g]
 first|refine pL (of25 (scB 2 1) [0,1]) (.cons (wscB 2 1) (.cons (WK.ints [0,1]) .nil)) ?_ | (refine cL zKr ?_;simp[go_sem,g];refine pL (of25 (scB 2 1) [0,1]) (.cons (wscB 2 1) (.cons (WK.ints [0,1]) .nil)) ?_)
 simp[go_sem,g]
 first|refine pL (eqB [0,1] zSp) (.zk (zu _) (.zk (zu _) .nil)) ?_ | (refine cL zKr ?_;simp[go_sem,g];refine pL (eqB [0,1] zSp) (.zk (zu _) (.zk (zu _) .nil)) ?_)
 simp[go_sem,g]
 first|refine pL (p) (.zk (yH _) (.zk (zu _) (.zk (zu _) .nil))) ?_ | (refine cL zKr ?_;simp[go_sem,g];refine pL (p) (.zk (yH _) (.zk (zu _) (.zk (zu _) .nil))) ?_)
 simp[go_sem,g]
 first|refine pL (t) (.zk (yH _) (.zk (zu _) (.zk (zu _) .nil))) ?_ | (refine cL zKr ?_;simp[go_sem,g];refine pL (t) (.zk (yH _) (.zk (zu _) (.zk (zu _) .nil))) ?_)
 simp[go_sem,g,o,i];exact .zsc _
end JK
set_option maxHeartbeats 1000000
namespace W42
open Y1 YF P1 E3 GS IC IK I5 W41
theorem ph(ts sc raw n g lp):HF (.agg (jn ts sc raw n g lp)):=HF.agg fun c i=>by
 unfold jn at i;simp only[qM,qv,qI,or_false]at i;rcases i with h | (rfl|rfl|rfl)|h|rfl|rfl
 .exact Ux ts c (by simpa[cTS] using h)
 .exact zo _
 .exact HF.sc _
 .exact qe0 raw
 .exact vo n c h
 .exact qaL _
 .exact HF.sc _
theorem _root_.Go.Proofs.YtfednihcpihlgaaGreatDoor.IK.Cx.tiny{ts sc b N}(X:Cx ts sc b N){m}(h:Betw sc (vsT ts) b N m):tiny m:=
 ⟨X.sms h,by rw[h.sc];have:=X.F.g.1;have:=X.F.ns;have:=X.S.h.ns;omega⟩
end W42
set_option maxHeartbeats 1000000
namespace W44
open Y1 YF P1 Q4 E3 E4 E5 F1 GF GH GS GV HE IA IB IK IL I5 W41 W42 QB
theorem qs9(ts)(hs:bigT ts)(sc raw)(hr:∀ l,l∈raw->∀ x,x∈l->0<=x/\x<=255)(n t lp)(ak:0<=lp/\lp<=255) :
  qg qc 3 [.agg (jn ts sc raw n t lp)] (aB true):=by
 have a0:=pf ts hs sc raw hr n t lp ak;have hx:=fun h=>Wy (ts:=ts) hs (sc:=sc) (raw:=raw) (n:=n) h
 obtain⟨op,nm,i,ks,q⟩:=n;have ad:jn ts sc raw (.mk op nm i ks q) t lp=[.lst false (ts.sS.map uG),.lst false (ts.sA.map jZ),lPd ts.sT,lFa ts.sP,lI sc.sC,aI sc.sN,lRaw raw,aI op,aS nm,aI i,.lst false (ks.map cNd),aI q,lBB t,u8 lp]:=by unfold jn;rw[z8];rfl
 have al:eNd (.mk op nm i ks q) = .agg [aI op,aS nm,aI i,.lst false (ks.map cNd),aI q]:=by rw[eNd,z8];rfl
 have wc:WK (.agg (jn ts sc raw (.mk op nm i ks q) t lp)) (.agg (jn ts sc raw (.mk op nm i ks q) t lp)) := .hf (ph ts sc raw _ t lp);rw[ad]at wc⊢;rw[ad]at a0;generalize hn:Nd.mk op nm i ks q=n at *
 have wn:WK (.agg [aI op,aS nm,aI i,.lst false (ks.map cNd),aI q]) (eNd n):=by rw[<-al];exact .hf (qK n)
 have a1:WK (.agg [.lst false (ts.sS.map uG),.lst false (ts.sA.map jZ),lPd ts.sT,lFa ts.sP]) (eTS ts) := .hf (zq ts);have a2:WK (.agg [lI sc.sC,aI sc.sN]) (eSc sc) := .hf (zH sc);refine qSU call3 func3 rfl ?_;refine fR JK.qe7 .nil ?_;have an:cNd n=[aI op,aS nm,aI i,.lst false (ks.map cNd),aI q]:=by rw[<-hn,z8];rfl
 have a4:WK (.agg [aI 40,aS ⟨#[]⟩,aI 0,.lst true [[aI op,aS nm,aI i,.lst false (ks.map cNd),aI q]],aI 0]) (eNd (nk 40 [n])):=by rw[<-an];exact Wa 40 ⟨#[]⟩ 0 0 (wkNd [n])
 have a7:WK (.agg [aI 30,aS ⟨#[]⟩,aI 0,.lst true [],aI 0]) (eNd (nk 30 [])):=Wa 30 ⟨#[]⟩ 0 0 (wkNd []);refine pL a0 (.cons wc .nil) ?_;cases ao:ok25 ts sc raw n with
 |false =>
  simp[go_sem,tupM];exact .zsc _
 |true =>
 simp only[tupM,reduceIte];obtain⟨X,a8,az⟩:=hx ao;generalize hb:yf ts sc raw=b at *
 generalize hN:sc.sN.toNat=N at *
 have b0:=X.hS;have wb:WK (lBd b) (lBd b) := .hf (yH b);have J:∀ m,m∈LL ts sc b N->tiny m:=fun m hm=>X.tiny (X.betw hm)
 have aq:=X.len;simp[go_sem];refine pL (J5 (nk 40 [n])) (.cons a4 .nil) ?_;cases hv:qH (nk 40 [n]) with
 |false =>
  simp[go_sem];exact .zsc _
 |true =>
 have ar:qH (nk 30 [])=true:=by decide +kernel
 have hI:=X.inst;have M1:=X.models a8;have M2:=X.models hv;have M3:=X.models ar;have a5:=(Cx.Jl (ts:=ts) (sc:=sc) (b:=b) (N:=N) (n:=n));have hY:=fun h=>(Z1 (ts:=ts) (sc:=sc) (b:=b) (N:=N) (n:=n) h)
 have hH:∀ m,m∈LL ts sc b N->qg qc 11 [eTS ts,eMd m,eNd n] (.tup [aB (hV ⟨ts,m⟩ n).1,aI (hV ⟨ts,m⟩ n).2]):=fun m hm=>X.holds hm a8
 have au:=qsV X a8 hv;have av:=(Cx.Jl (ts:=ts) (sc:=sc) (b:=b) (N:=N) (n:=nk 40 [n])).subset;have aw:=(Cx.Jl (ts:=ts) (sc:=sc) (b:=b) (N:=N) (n:=nk 30 [])).subset;have b1:=(Cx.Jl (ts:=ts) (sc:=sc) (b:=b) (N:=N) (n:=nk 40 [n])).length_le;have b2:=(Cx.Jl (ts:=ts) (sc:=sc) (b:=b) (N:=N) (n:=nk 30 [])).length_le;have b3:=a5.length_le;have ax:=a5.subset;generalize (MV ts sc b N n).2=f at *
 generalize (MV ts sc b N n).1=Y at *
 generalize (MV ts sc b N (nk 40 [n])).2=g at *
 generalize (MV ts sc b N (nk 40 [n])).1=NO at *
 generalize (MV ts sc b N (nk 30 [])).2=h at *
 generalize (MV ts sc b N (nk 30 [])).1=T at *
 generalize hL:LL ts sc b N=L at *
 simp[go_sem];refine fR hI (.cons a1 (.cons a2 (.cons wb .nil))) ?_;refine fR M1 (.cons a1 (.cons a2 (.cons wb (.cons wn .nil)))) ?_;refine fR M2 (.cons a1 (.cons a2 (.cons wb (.cons a4 .nil)))) ?_;refine pL M3 (.cons a1 (.cons a2 (.cons wb (.cons a7 .nil)))) ?_;by_cases a9:f=0
 case neg =>
  simp[go_sem,a9];exact .zsc _
 by_cases ae:g=0
 case neg =>
  simp[go_sem,a9,ae];exact .zsc _
 subst a9;subst ae;obtain⟨h3,ay,af⟩:=au rfl rfl;subst h3;obtain⟨ag,ah⟩:=hY rfl;simp[go_sem];refine aA L.length (fun k U=>U.tm 1 = .ip [.lst false (ts.sS.map uG),.lst false (ts.sA.map jZ),lPd ts.sT,lFa ts.sP,lI sc.sC,aI sc.sN,lRaw raw,aI op,aS nm,aI i,.lst false (ks.map cNd),aI q,lBB t,u8 lp]/\U.tm 3=aB true/\U.tm 8=lMd L/\U.tm 10=lMd Y/\U.tm 12=lMd NO/\U.tm 14=lMd T/\U.tm 15=aI 0/\U.tm 16=aI ((L.take k).filter fun m=>(hV ⟨ts,m⟩ n).1).length/\U.tm 17=aI k) ?_ ?_
 .exact ⟨zSi,zSi,zSi,zSi,zSi,zSi,zSi,zSi,zSi⟩
 rintro k U hk ⟨e1,e3,e8,o,C,I,P,p,R⟩;by_cases j:k<L.length
 .have w1:=zWk k
  have hm:=qq j;have cH:=hH _ hm;rw[ag _ hm]at cH;have r:=KF (fun m=>(hV ⟨ts,m⟩ n).1) L k j;have a6:=KE (fun m=>(hV ⟨ts,m⟩ n).1) L k j;rw[<-ah]at a6;have b4:((L.take k).filter fun m=>(hV ⟨ts,m⟩ n).1).length<=L.length:=zG (List.length_filter_le _ _) (List.length_take_le' _ _);generalize b5:((L.take k).filter fun m=>(hV ⟨ts,m⟩ n).1).length=aa at *
  have w2:=zWk aa;simp[go_sem,e8,R,j];refine cL zKr ?_;simp[go_sem,e1,e8,R,j];refine pL cH (.cons a1 (.zk (zu _) (.cons wn .nil))) ?_;cases hP:(hV ⟨ts,L[k]⟩ n).1 with
  |false =>
   rw[hP]at r;simp[go_sem,R,j,w1]
   try refine⟨j,aC ?_⟩
   try refine aC ?_
   exact⟨zS1 e1,zS1 e3,zS1 e8,zS1 o,zS1 C,zS1 I,zS1 P,by rw[r];simp[go_sem,p],zSi⟩
  |true =>
   rw[hP]at r;have hg:=a6 hP;obtain⟨ai,aj⟩:=qi.1 hg;have hq:=eq07 Y[aa] L[k] (J _ (ax (qq ai)));rw[aj,decide_eq_true rfl]at hq;have n1:¬(Y.length:Int)<=aa:=zOm;simp[go_sem];refine cL zKr ?_;simp[go_sem,e8,o,p,R,j,ai,n1,aj];refine pL hq (.zk (zu _) (.zk (zu _) .nil)) ?_;simp[go_sem,p,R,j,w1,w2]
   try refine⟨j,aC ?_⟩
   try refine aC ?_
   exact⟨zS1 e1,zS1 e3,zS1 e8,zS1 o,zS1 C,zS1 I,zS1 P,by rw[r];simp[go_sem],zSi⟩
 have ab:k=L.length:=zOm;subst ab;rw[qR,<-ah]at p;simp[go_sem,e8,R];refine aA Y.length (fun k U=>U.tm 3=aB true/\U.tm 10=lMd Y/\U.tm 12=lMd NO/\U.tm 14=lMd T/\U.tm 15=aI 0/\U.tm 16=aI Y.length/\U.tm 20=aI k) ?_ ?_
 .exact ⟨zS1 e3,zS1 o,zS1 C,zS1 I,zS1 P,zS1 p,zSi⟩
 clear e1 e3 e8 o C I P p R;rintro k U hk ⟨e3,o,C,I,P,p,a3⟩;by_cases j:k<Y.length
 .have w1:=zWk k
  obtain⟨n1,n2⟩:=ay _ (qq j);have c1:=pb NO Y[k] zOm fun x hx=>J _ (av hx)
  have c2:=pb T Y[k] zOm fun x hx=>J _ (aw hx)
  rw[decide_eq_false n1]at c1;rw[decide_eq_true n2]at c2;simp[go_sem,o,C,a3,j];refine pL c1 (.zk (UX _) (.zk (zu _) .nil)) ?_;simp[go_sem,o,I,a3,j];refine pL c2 (.zk (UX _) (.zk (zu _) .nil)) ?_;simp[go_sem,a3,j,w1]
  try refine⟨j,aC ?_⟩
  try refine aC ?_
  exact⟨zS1 e3,zS1 o,zS1 C,zS1 I,zS1 P,zS1 p,zSi⟩
 have ab:k=Y.length:=zOm;have w3:qp.wrap ((Y.length:Int)+NO.length)=T.length:=by rw[<-af];exact zWr
 simp[go_sem,e3,o,C,I,P,p,a3,ab,w3];exact .zsc _
end W44
namespace DL
open Go.EvW Go.RowKit Go.ChangeShapes Go.WideShapes
theorem own:ownKnob qc.godebug=none:=by kernel_rfl
theorem laid:laidOutB qc=true:=by kernel_rfl
abbrev tabL : List (String × DataW Unit) := [("math/bits.deBruijn32tab", Rows.laid_math_bits_deBruijn32tab), ("math/bits.deBruijn64tab", Rows.laid_math_bits_deBruijn64tab), ("internal/strconv.uint64pow10", Rows.laid_internal_strconv_uint64pow10)]
def pows:List Int:=[1,10,100,1000,10000,100000,1000000,10000000,100000000,1000000000,10000000000,100000000000,1000000000000,10000000000000,100000000000000,1000000000000000,10000000000000000,100000000000000000,1000000000000000000,10000000000000000000]
theorem gPow : qc.globalNamed "internal/strconv.uint64pow10" = some 0 := by kernel_rfl
theorem tPow:(qc.globals[0]?).map (·.type)=some 354:=by kernel_rfl
theorem uPow:qc.underlying 354=some (.array 20 311):=by kernel_rfl
theorem uU64:qc.underlying 311=some (.int .u64):=by kernel_rfl
theorem qe8{W}(h:laidMetH qc tabL W):Zx (·<W.heap.size) W.heap:=by
  rw[MakeChecks.laidMetH_plain _ _ _ zKr]at h;obtain⟨U,C,_⟩:=h
  obtain ⟨g, t, j, l, p, hg, I, J, P⟩ := qb6 C ("internal/strconv.uint64pow10", Rows.laid_internal_strconv_uint64pow10) zSp
  obtain rfl:=Option.some.inj (gPow.symm.trans hg);obtain rfl:=Option.some.inj (tPow.symm.trans I);have R:j.toList=pows.map fun i => .int .u64 i:=qoL uPow uU64 zKr zKr (ns:=pows) P
  obtain⟨e,T,r⟩:=qoM gPow J;intro x hx;have hx:x∈[(0,pows.map fun i=>Value.int .u64 i)]:=hx;rw[List.mem_singleton]at hx;subst hx;refine⟨(Array.getElem?_eq_some_iff.1 r).1,e,T,?_⟩;show W.heap[0]?=_;rw[r];have:j=(pows.map fun i=>Value.int .u64 i).toArray:=by rw[<-R]
  rw[this]
theorem qe9(os args):laidMetH qc tabL ((World.doorLaid qc 4000 os).forCall (fun _ _=>0) ⟨#[],args,[]⟩).memory:=
 laidMetH_of_parts3 (fuel:=8) (laidMet_of_run' 8 zKr zKr) zKr zKr
end DL
namespace DM
open Go.EvW E3 DT
instance:Inhabited Rl:=⟨⟨0,[]⟩⟩
instance:Inhabited Sc:=⟨⟨[],0⟩⟩
instance:Inhabited Md:=⟨⟨default,[],0⟩⟩
theorem shRel(N):ShU qc N 100 cRel (fun _=>True):=
 ((ShU.struct (fs:=[(3,0),(28,1)]) zKr (.cons' (o':=1) zKr (ZY N) (.cons' (o':=2) zKr (K2 N) (.nil 2))) zKr).map
  (fun x=>(⟨x.1,x.2.1⟩:Rl)) (fun _=>rfl) (fun x h=>trivial)).le zOm
theorem qtA(N):ShU qc N 30 (fun s:Sc=>[lI s.sC,aI s.sN]) (fun _=>True):=
 ((ShU.struct (fs:=[(28,0),(3,1)]) zKr (.cons' (o':=1) zKr (K2 N) (.cons' (o':=2) zKr (ZY N) (.nil 2))) zKr).map
  (fun x=>(⟨x.1,x.2.1⟩:Sc)) (fun _=>rfl) (fun x h=>trivial)).le zOm
end DM
namespace DN
open Go.EvW P1 Y1 EO DT GS W41
theorem qtB:qc.underlying 128=some (.slice 4):=by kernel_rfl
theorem unBB:qc.underlying 36=some (.slice 128):=by kernel_rfl
theorem unU8s:qc.underlying 103=some (.slice 5):=by kernel_rfl
theorem unRaw:qc.underlying 32=some (.slice 103):=by kernel_rfl
theorem qtC(N):ShU qc N 128 (fun l:List Bool=>[lB l]) (fun _=>True):=
 ((ShU.slice qtB (K1 N) (fun _ _=>zKr) (Nat.lt_of_lt_of_eq Nat.zero_lt_one zKr) zKr).le zOm).map (fun l=>l) (fun _=>rfl) fun _ _=>trivial
theorem shBB(N):ShU qc N 36 (fun l:List (List Bool)=>[lBB l]) (fun _=>True):=
 ((ShU.slice unBB (qtC N) (fun _ _=>zKr) (Nat.lt_of_lt_of_eq Nat.zero_lt_one zKr) zKr).le zOm).map (fun l=>l) (fun _=>rfl) fun _ _=>trivial
abbrev VD:=TS×Sc×List (List Int)×Nd×List (List Bool)×Int
abbrev cCs(x:VD):List AV:=jn x.1 x.2.1 x.2.2.1 x.2.2.2.1 x.2.2.2.2.1 x.2.2.2.2.2
end DN
namespace DO
open Go.EvW DT DM DN W41
def qfA(l:List Int):Prop:=∀ x,x∈l->0<=x/\x<=255
def qfB(r:List (List Int)):Prop:=∀ l,l∈r->qfA l
theorem shU8r(N):ShU qc N 103 (fun l:List Int=>[.lst false (l.map fun x=>[u8 x])]) qfA:=
 ((ShU.slice unU8s (shU8 N) (fun _ _=>zKr) (Nat.lt_of_lt_of_eq Nat.zero_lt_one zKr) zKr).le zOm).map (fun l=>l) (fun _=>rfl) fun _ h=>h.2
theorem qtD(N):ShU qc N 32 (fun l:List (List Int)=>[lRaw l]) qfB:=
 ((ShU.slice unRaw (shU8r N) (fun _ _=>zKr) (Nat.lt_of_lt_of_eq Nat.zero_lt_one zKr) zKr).le zOm).map (fun l=>l) (fun _=>rfl) fun _ h=>h.2
def okCs(x:VD):Prop:=okTA x.1/\qfB x.2.2.1/\(0<=x.2.2.2.2.2/\x.2.2.2.2.2<=255)
theorem qtE(N):ShU qc N 38 cCs okCs:=
 ((ShU.struct (fs:=[(27,0),(30,4),(32,6),(35,7),(36,12),(5,13)]) zKr
  (.cons' (o':=4) zKr (qo1 N) (.cons' (o':=6) zKr (qtA N) (.cons' (o':=7) zKr (qtD N) (.cons' (o':=12) zKr (Vi N) (.cons' (o':=13) zKr (shBB N) (.cons' (o':=14) zKr (shU8 N) (.nil 14))))))) zKr).map
  (fun x=>((x.1,x.2.1,x.2.2.1,x.2.2.2.1,x.2.2.2.2.1,x.2.2.2.2.2.1):VD)) (fun x=>by simp[cCs,jn]) (fun x h=>⟨h.1,h.2.2.1,h.2.2.2.2.2.1⟩)).le zOm
theorem qfC:ZX qc 38 (fun x => .agg (cCs x)) okCs:=ZX.struct zKr qtE
end DO
namespace FH
end FH
namespace FG
open Y1 FB
def hg:tC:=⟨#[103]⟩
def nm(b:tC):Nd := .mk 1 b 0 [] 0
@[go_sem] theorem outE_ok(r):outE (.ok r) = .tup [eRel r,aI 0]:=rfl
@[go_sem] theorem outE_err(e):outE (.error e) = .tup [eRel ⟨0,[]⟩,aI e]:=rfl
@[go_sem] theorem outN_ok(r):outN (.ok r) = .tup [aI r,aI 0]:=rfl
@[go_sem] theorem outN_err(e):outN (.error e) = .tup [aI 0,aI e]:=rfl
end FG
namespace FI
open Y1 P2 FG
theorem wf2{op f g}(i:WfN f)(hg:WfN g)(h:shp op 2=some [kd f.op,kd g.op])(j:op≠2)(nm):WfN (.mk op nm 0 [f,g] 0) := .mk _ h (fun e=>absurd e j) fun k l=>by
 have:k=f\/k=g:=by simpa[Nd.sD] using l
 rcases this with rfl|rfl
 .exact i
 .exact hg
end FI
set_option maxHeartbeats 1000000
namespace W45
open Y1 YF P1 Q4 E4 E5 F1 GF GH GS GV HE IB IK IL I5 W41 W42 QB PF YE YZ P2 FI
theorem qtF{f g}(h:qH (nk 41 [f,g])=true):qH (nk 42 [f,g])=true:=by
 obtain⟨i,j,l,o⟩:=vM.1 h;have p:shp 41 2=some [kd f.op,kd g.op]:=i.shape;refine vM.2 ⟨wf2 (i.kid (by simp[Nd.sD])) (i.kid (by simp[Nd.sD])) (by rw[<-p];decide) zDe _,fun x hx=>?_,by simpa only[cntT,ja] using l,by simpa only[depN,yr] using o⟩;simp only[preN,zz,zF,qv]at hx;rcases hx with rfl|hx
 .rfl
 .exact j x (by simp only[preN,zz,zF,qv];exact .inr hx)
theorem conjW(ts)(hs:bigT ts)(sc raw)(hr:∀ l,l∈raw->∀ x,x∈l->0<=x/\x<=255)(n j lp)(al:0<=lp/\lp<=255)(g) :
  qg qc 4 [.agg (jn ts sc raw n j lp),eNd g] (aB true):=by
 have a0:=pf ts hs sc raw hr n j lp al;have hx:=fun h=>Wy (ts:=ts) hs (sc:=sc) (raw:=raw) (n:=n) h
 have C:=pf ts hs sc raw hr g j lp al;have b0:=fun h=>Wy (ts:=ts) hs (sc:=sc) (raw:=raw) (n:=g) h
 obtain⟨op,nm,i,ks,q⟩:=n;obtain⟨p,r,i2,t,q2⟩:=g;have an:jn ts sc raw (.mk p r i2 t q2) j lp=[.lst false (ts.sS.map uG),.lst false (ts.sA.map jZ),lPd ts.sT,lFa ts.sP,lI sc.sC,aI sc.sN,lRaw raw,aI p,aS r,aI i2,.lst false (t.map cNd),aI q2,lBB j,u8 lp]:=by unfold jn;rw[z8];rfl
 have ad:eNd (.mk p r i2 t q2) = .agg [aI p,aS r,aI i2,.lst false (t.map cNd),aI q2]:=by rw[eNd,z8];rfl
 have ag:WK (.agg (jn ts sc raw (.mk p r i2 t q2) j lp)) (.agg (jn ts sc raw (.mk p r i2 t q2) j lp)) := .hf (ph ts sc raw _ j lp);rw[an]at ag C;rw[ad];generalize b1:Nd.mk p r i2 t q2=g at *
 have wg:WK (.agg [aI p,aS r,aI i2,.lst false (t.map cNd),aI q2]) (eNd g):=by rw[<-ad];exact .hf (qK g)
 have ao:cNd g=[aI p,aS r,aI i2,.lst false (t.map cNd),aI q2]:=by rw[<-b1,z8];rfl
 have aq:jn ts sc raw (.mk op nm i ks q) j lp=[.lst false (ts.sS.map uG),.lst false (ts.sA.map jZ),lPd ts.sT,lFa ts.sP,lI sc.sC,aI sc.sN,lRaw raw,aI op,aS nm,aI i,.lst false (ks.map cNd),aI q,lBB j,u8 lp]:=by unfold jn;rw[z8];rfl
 have b2:eNd (.mk op nm i ks q) = .agg [aI op,aS nm,aI i,.lst false (ks.map cNd),aI q]:=by rw[eNd,z8];rfl
 have wc:WK (.agg (jn ts sc raw (.mk op nm i ks q) j lp)) (.agg (jn ts sc raw (.mk op nm i ks q) j lp)) := .hf (ph ts sc raw _ j lp);rw[aq]at wc⊢;rw[aq]at a0;generalize hn:Nd.mk op nm i ks q=n at *
 have wn:WK (.agg [aI op,aS nm,aI i,.lst false (ks.map cNd),aI q]) (eNd n):=by rw[<-b2];exact .hf (qK n)
 have a7:WK (.agg [.lst false (ts.sS.map uG),.lst false (ts.sA.map jZ),lPd ts.sT,lFa ts.sP]) (eTS ts) := .hf (zq ts);have a8:WK (.agg [lI sc.sC,aI sc.sN]) (eSc sc) := .hf (zH sc);refine qSU call4 func4 rfl ?_;refine fR JK.qe7 .nil ?_;have b3:cNd n=[aI op,aS nm,aI i,.lst false (ks.map cNd),aI q]:=by rw[<-hn,z8];rfl
 have a1:∀ o:Int,WK (.agg [aI o,aS ⟨#[]⟩,aI 0,.lst true [[aI op,aS nm,aI i,.lst false (ks.map cNd),aI q],[aI p,aS r,aI i2,.lst false (t.map cNd),aI q2]],aI 0]) (eNd (nk o [n,g])):=fun o=>by rw[<-b3,<-ao];exact Wa o ⟨#[]⟩ 0 0 (wkNd [n,g])
 refine pL a0 (.cons wc .nil) ?_;cases b4:ok25 ts sc raw n with
 |false =>
  simp[go_sem,tupM];refine pL C (.cons ag .nil) ?_;cases ae:ok25 ts sc raw g<;>simp[go_sem,tupM]<;>exact .zsc _
 |true =>
 obtain⟨X,ar,bb⟩:=hx b4;simp[go_sem,tupM];refine pL C (.cons ag .nil) ?_;cases ae:ok25 ts sc raw g with
 |false =>
  simp[go_sem,tupM];exact .zsc _
 |true =>
 simp only[tupM,reduceIte];obtain⟨X2,au,b8⟩:=b0 ae;generalize hb:yf ts sc raw=b at *
 generalize hN:sc.sN.toNat=N at *
 have bc:=X.hS;have wb:WK (lBd b) (lBd b) := .hf (yH b);have a2:∀ m,m∈LL ts sc b N->tiny m:=fun m hm=>X.tiny (X.betw hm)
 have b5:=X.len;simp[go_sem];refine pL (J5 (nk 41 [n,g])) (.cons (a1 41) .nil) ?_;cases ah:qH (nk 41 [n,g]) with
 |false =>
  simp[go_sem];exact .zsc _
 |true =>
 have av:=qtF ah;have M1:=X.models ar;have M2:=X.models au;have M3:=X.models ah;have M4:=X.models av;have b6:=qsW X ar au ah av;have sub:∀ z,(MV ts sc b N z).1.Sublist (LL ts sc b N):=fun z=>Cx.Jl
 have s1:=sub n;have s2:=sub g;have s3:=sub (nk 41 [n,g]);have s4:=sub (nk 42 [n,g]);generalize (MV ts sc b N n).2=e at *
 generalize (MV ts sc b N n).1=P at *
 generalize (MV ts sc b N g).2=f at *
 generalize (MV ts sc b N g).1=Q at *
 generalize (MV ts sc b N (nk 41 [n,g])).2=g3 at *
 generalize (MV ts sc b N (nk 41 [n,g])).1=R at *
 generalize (MV ts sc b N (nk 42 [n,g])).2=h4 at *
 generalize (MV ts sc b N (nk 42 [n,g])).1=T at *
 have l1:=s1.length_le;have l2:=s2.length_le;have l3:=s3.length_le;have l4:=s4.length_le;generalize hL:LL ts sc b N=L at *
 simp[go_sem];refine fR M1 (.cons a7 (.cons a8 (.cons wb (.cons wn .nil)))) ?_;refine fR M2 (.cons a7 (.cons a8 (.cons wb (.cons wg .nil)))) ?_;refine fR M3 (.cons a7 (.cons a8 (.cons wb (.cons (a1 41) .nil)))) ?_;refine pL M4 (.cons a7 (.cons a8 (.cons wb (.cons (a1 42) .nil)))) ?_;by_cases a3:e=0
 case neg=>simp[go_sem,a3];exact .zsc _
 by_cases a9:f=0
 case neg=>simp[go_sem,a3,a9];exact .zsc _
 by_cases ai:g3=0
 case neg=>simp[go_sem,a3,a9,ai];exact .zsc _
 by_cases aw:h4=0
 case neg=>simp[go_sem,a3,a9,ai,aw];exact .zsc _
 subst a3;subst a9;subst ai;subst aw;obtain⟨ax,b9⟩:=b6 rfl rfl rfl rfl;simp[go_sem];refine aA P.length (fun k U=>U.tm 5=aB true/\U.tm 15=lMd P/\U.tm 17=lMd Q/\U.tm 19=lMd R/\U.tm 21=lMd T/\U.tm 23=aI ((P.take k).filter fun m=>decide (m∈Q)).length/\U.tm 24=aI k) ?_ ?_
 .exact ⟨zSi,zSi,zSi,zSi,zSi,zSi,zSi⟩
 rintro k U hk ⟨e5,a4,aa,ab,aj,a5,a6⟩;by_cases I:k<P.length
 .have w1:=zWk k
  have hm:=qq I;have cH:=pb Q P[k] zOm fun x hx=>a2 _ (s2.subset hx)
  have J:=KF (fun m=>decide (m∈Q)) P k I;have af:=KE (fun m=>decide (m∈Q)) P k I;rw[<-ax]at af;have be:((P.take k).filter fun m=>decide (m∈Q)).length<=P.length:=zG (List.length_filter_le _ _) (List.length_take_le' _ _);generalize bg:((P.take k).filter fun m=>decide (m∈Q)).length=ak at *
  have w2:=zWk ak;simp[go_sem,a4,aa,a6,I];refine pL cH (.zk (UX _) (.zk (zu _) .nil)) ?_;by_cases hP:P[k]∈Q
  case neg =>
   have hd:decide (P[k]∈Q)=false:=decide_eq_false hP;rw[hd]at J;simp[go_sem,hP,a6,I,w1]
   try refine⟨I,aC ?_⟩
   try refine aC ?_
   exact⟨zS1 e5,zS1 a4,zS1 aa,zS1 ab,zS1 aj,by rw[J];simp[go_sem,a5],zSi⟩
  have hd:decide (P[k]∈Q)=true:=decide_eq_true hP;rw[hd]at J;have hg:=af hd;obtain⟨ay,az⟩:=qi.1 hg;have hq:=eq07 R[ak] P[k] (a2 _ (s3.subset (qq ay)));rw[az,decide_eq_true rfl]at hq;have n1:¬(R.length:Int)<=ak:=zOm;simp[go_sem,hP];refine cL zKr ?_;simp[go_sem,a4,ab,a5,a6,I,ay,n1,az];refine pL hq (.zk (zu _) (.zk (zu _) .nil)) ?_;simp[go_sem,a5,a6,I,w1,w2]
  try refine⟨I,aC ?_⟩
  try refine aC ?_
  exact⟨zS1 e5,zS1 a4,zS1 aa,zS1 ab,zS1 aj,by rw[J];simp[go_sem],zSi⟩
 have b7:k=P.length:=zOm;subst b7;rw[qR,<-ax]at a5;have w3:qp.wrap ((P.length:Int)+Q.length)=(P.length:Int)+Q.length:=zWr;have w4:qp.wrap ((P.length:Int)+Q.length-R.length)=T.length:=by rw[show (P.length:Int)+Q.length-R.length=T.length by omega];exact zWr
 simp[go_sem,e5,a4,aa,ab,aj,a5,a6,w3,w4];exact .zsc _
end W45
end Go.Proofs.YtfednihcpihlgaaGreatDoor
