/- A part of the proof that the named laws of this program answer true, whatever the input. -/
import Derived.Test.YtncppacbfagpgaaGreatDoorPart11
import Derived.Test.YtncppacbfagpgaaGreatDoorPart10
import Derived.Test.YtncppacbfagpgaaGreatDoorPart9
import Derived.Test.YtncppacbfagpgaaGreatDoorPart0
import Derived.Test.YtncppacbfagpgaaGreatDoorPart4
import Derived.Test.YtncppacbfagpgaaGreatDoorPart2
import Derived.Test.YtncppacbfagpgaaGreatDoorPart7
open Array renaming size→cx
open BitVec renaming ofInt→aq,toNat_and→uo,ofInt_natCast→gm,toNat_ofNat→rI
open ByteArray renaming mk→nJ,size_extract→gC
open Int renaming tdiv→gj,tdiv_eq_ediv_of_nonneg→dB,toNat_natCast→aR,natCast_mul→q9,natCast_pow→vr,fdiv→dD,eq_ofNat_of_zero_le→rS,tmod_eq_emod_of_nonneg→pE
open List renaming range→gg,getElem?_map→mn,getElem?_eq_getElem→ae,getElem?_eq_none→lL,pairwise_iff_getElem→ce,getElem_mem→bw,length_take→aI,take_length→bT,take_succ_eq_append_getElem→aV,pairwise_cons→aA
open List.Pairwise renaming nil→fT
open Nat renaming le_refl→aj,zero_le→aS,le_trans→bh,lt_or_ge→bZ,lt_of_lt_of_le→aD,mod_eq_of_lt→dX,mul_comm→kS,pow_succ→qb,pow_add→rR,mod_lt→ul,mul_le_mul_right→cB,add_assoc→mz,mul_assoc→uD,add_mul→lh,succ_mul→mg,min_eq_left→bN,le_of_lt→vW,zero_add→aQ,pow_le_pow_right→gf,add_zero→eN,lt_of_le_of_lt→hE,shiftRight_eq_div_pow→cL,testBit_zero→mS,testBit_succ→jI,eq_zero_or_pos→cF,zero_testBit→ij,eq_of_testBit_eq→jV,testBit_and→kG
open UInt8 renaming toNat_lt→sY
namespace Go.Proofs
open Go Go.Lift Go.Sort
variable {dec:Int→Ch} {M:Nat→Prop} {s:SliceV} {h:ad} {d:Array Int}
theorem ZY(x:Int):IntKind.wrap .u64 x=x%18446744073709551616:=by
 simp[IntKind.wrap,IntKind.bits,IntKind.signed]
theorem and_le_right(x:Int){m:Int}(a:0≤m)(hm:m<18446744073709551616):0≤IntKind.wrap .u64 ((aq (IntKind.bits .u64) x&&&aq (IntKind.bits .u64) m).toNat:Int)∧IntKind.wrap .u64 ((aq (IntKind.bits .u64) x&&&aq (IntKind.bits .u64) m).toNat:Int)≤m:=by
 have b:(aq (IntKind.bits .u64) x&&&aq (IntKind.bits .u64) m).toNat≤(aq (IntKind.bits .u64) m).toNat:=by
  rw[uo];exact Nat.and_le_right
 have h2:((aq (IntKind.bits .u64) m).toNat:Int)=m:=by
  show((aq 64 m).toNat:Int)=m
  rw[BitVec.toNat_ofInt];have:m%((2^64:Nat):Int)=m:=Int.emod_eq_of_lt a (by omega);rw[this];omega
 rw[ZY];omega
theorem S8{n:Nat}(a:1≤n)(f:n≤1000000000){K:Int→ad→Prop}(c:∀m:Nat,1≤m→m≤2*n→K (m:Int) h):HC PG mN [.int .i64 n] [.c (.int .u64)] K h:=by
 refine yP n ?_;unfold rP;rw[show IntKind.wrap .u64 (n:Int)=(n:Int) by rw[ZY];omega]
 refine Tf (by omega) fun L d b=>⟨by omega,?_⟩
 have:=b a;have e:IntKind.wrap .u64 (1*2^(min ((L:Int)).toNat (IntKind.bits .u64)))=((2^L:Nat):Int):=by
  rw[ZY,show min ((L:Int)).toNat (IntKind.bits .u64)=L by simp[IntKind.bits];omega,Int.one_mul]
  have h2:(2:Int)^L=((2^L:Nat):Int):=by simp
  rw[h2];generalize 2^L=P at this⊢;omega
 rw[e];exact c _ (Nat.one_le_two_pow) this
theorem PO{c:Nat}{n:Int}{t:TypeId}(hc:h[c]? =some (.cells #[.int .u64 n] t (0,0))) {K:Int→ad→Prop}
  (o:∀h' m,h'[c]? =some (.cells #[.int .u64 m] t (0,0))→Upd (· =c) h h'→K m h'):HC PG ni [.pointer (some ⟨c,0,none⟩)] [.c (.int .u64)] K h:=by
 refine zS (some ⟨c,0,none⟩) ?_;unfold sP;have set:∀{h:ad} {n:Int} (m:Int),h[c]? =some (.cells #[.int .u64 n] t (0,0))→(hset h ⟨c,0,none⟩ (.int .u64 m))[c]? =some (.cells #[.int .u64 m] t (0,0))∧Upd (· =c) h (hset h ⟨c,0,none⟩ (.int .u64 m))∧Wr h ⟨c,0,none⟩:=fun m hc=>by
  refine⟨?_,Upd.hset _ _ rfl,iw hc (by simp)⟩;rw[yD hc,jZ hc];rfl
 have a:∀{h:ad} {n:Int},h[c]? =some (.cells #[.int .u64 n] t (0,0))→aO h ⟨c,0,none⟩=some (.int .u64 n):=fun hc=>by rw[bF hc];rfl
 refine⟨_,rfl,_,a hc,_,rfl,_,a hc,by omega,_,rfl,?_⟩
 obtain⟨d,k1,j⟩:=set _ hc;refine⟨j,_,rfl,_,a d,_,rfl,_,a d,by omega,_,rfl,?_⟩
 obtain⟨b,g,i⟩:=set _ d;refine⟨i,_,rfl,_,a b,_,rfl,_,a b,by omega,_,rfl,?_⟩
 obtain⟨e,f,k⟩:=set _ b;exact⟨k,_,rfl,_,a e,o _ _ e ((k1.tr g).tr f)⟩
theorem Gs{a e:Nat}(B:SA dec M s h d)(ha:a≤e)(he:e≤d.size){K:Unit→ad→Prop}(P:∀h' d',SA dec M s h' d'→PermIn a e d d'→Upd M h h'→K () h'):
  HC PG fG [.slice s.a s.len s.cap,.int .i64 a,.int .i64 e,ud] [] K h:=by
 refine nQ s a e ud ?_;unfold iY bE bX ay bK jt gD;have Q:=B.small;have wl:IntKind.wrap .i64 ((e:Int)-(a:Int))=((e-a:Nat):Int):=by rw[dI (by omega)];omega
 rw[wl];refine ax (fun N=>?_) fun N=>P h d B (permIn_refl ..) (Upd.refl _ _)
 have N:8≤e-a:=by omega
 have k0:=Upd.hnew No h [.int .u64 0] jY;have c:=cq h [.int .u64 0] jY;have u:=B.upd0 k0;have f:¬M h.size:=fun U=>by have:=B.lt _ U;omega
 simp only[At,cR];generalize hnew h [.int .u64 0] jY=h0 at k0 c u;refine⟨iw c (by simp),?_⟩;have k1:Upd (· =h.size) h0 (hset h0 ⟨h.size,0,none⟩ (.int .u64 (IntKind.wrap .u64 ((e-a:Nat):Int)))):=Upd.hset _ _ rfl
 have y:(hset h0 ⟨h.size,0,none⟩ (.int .u64 (IntKind.wrap .u64 ((e-a:Nat):Int))))[h.size]? =some (.cells #[.int .u64 (IntKind.wrap .u64 ((e-a:Nat):Int))] jY (0,0)):=by
  rw[yD c,jZ c];rfl
 have w:=u.updC k1 f;generalize hset h0 ⟨h.size,0,none⟩ (.int .u64 (IntKind.wrap .u64 ((e-a:Nat):Int)))=h1 at k1 y w;refine S8 (by omega) (by omega) fun m Y Z=>⟨by decide,?_⟩
 have wq:IntKind.wrap .i64 (IntKind.wrap .i64 (gj ((e-a:Nat):Int) 4)*2)=(((e-a)/4*2:Nat):Int):=by
  rw[dB (by omega),dI (x:=((e-a:Nat):Int)/4) (by omega),dI (by omega)];omega
 simp only[Bd];rw[wq];have T:IntKind.wrap .i64 (IntKind.wrap .i64 ((a:Int)+(((e-a)/4*2:Nat):Int))-1)=((a+(e-a)/4*2-1:Nat):Int):=by
  rw[dI (x:=(a:Int)+_) (by omega),dI (by omega)];omega
 have W:IntKind.wrap .i64 (IntKind.wrap .i64 ((a:Int)+(((e-a)/4*2:Nat):Int))+1)=((a+(e-a)/4*2+1:Nat):Int):=by
  rw[dI (x:=(a:Int)+_) (by omega),dI (by omega)];omega
 rw[T];refine LoopP.ghost (fun(g:Nat×Array Int) (t:Int) h'=>t=(g.1:Int)∧SA dec M s h' g.2∧PermIn a e d g.2∧Upd M h h'∧(∃n,h'[h.size]? =some (.cells #[.int .u64 n] jY (0,0)))∧a+(e-a)/4*2-1≤g.1∧g.1≤a+(e-a)/4*2+2) (fun g=>a+(e-a)/4*2+2-g.1) (a+(e-a)/4*2-1,d)
  ⟨rfl,w,permIn_refl ..,k0.wide.trans k1 fun x hx=>.inr (by omega),⟨_,y⟩,aj _,by simp only;omega⟩ ?_
 rintro I ⟨i,A⟩ t h2 ⟨O,k,b,v,⟨n2,H⟩,G,C⟩ V;simp only at O k b G C;subst O;have hz:A.size=d.size:=b.1;refine⟨by decide,?_⟩;rw[W];refine ax (fun D=>?_) fun hgt=>P h2 A k b v
 have D:i≤a+(e-a)/4*2+1:=by omega
 refine PO H fun h3 r J z=>?_
 have F:=k.updC z f;have X:IntKind.wrap .u64 ((m:Int)-1)=((m-1:Nat):Int):=by rw[ZY];omega
 rw[X];obtain⟨S,a1⟩:=and_le_right r (m:=((m-1:Nat):Int)) (by omega) (by omega);generalize IntKind.wrap .u64 ((aq (IntKind.bits .u64) r&&&aq (IntKind.bits .u64) ((m-1:Nat):Int)).toNat:Int)=o at S a1;have wo:IntKind.wrap .i64 o=o:=dI (by omega);refine Join.intro (fun t h'=>h'=h3∧∃q:Nat,t=(q:Int)∧q<e-a) (fun R L=>?_) ?_
 ·show CondP (decide (IntKind.wrap .i64 o≥((e-a:Nat):Int))) _ _
  rw[wo];refine ax (fun h4=>L _ _ ⟨rfl,(o-((e-a:Nat):Int)).toNat,?_,by omega⟩) fun h4=>L _ _ ⟨rfl,o.toNat,by omega,by omega⟩
  show IntKind.wrap .i64 (o-((e-a:Nat):Int))=_
  rw[dI (by omega)];omega
 ·rintro t h' ⟨rfl,q,rfl,hq⟩
  have wj:IntKind.wrap .i64 ((a:Int)+(q:Int))=((a+q:Nat):Int):=by rw[dI (by omega)];omega
  refine F.swap (i:=i) (j:=a+q) rfl wj (by omega) (by omega) fun h5 E p=>?_
  refine V (i+1,swp A i (a+q)) _ _ ⟨by rw[dI (by omega)];rfl,E,permIn_trans _ _ _ _ _ b (swp_permIn A a e i (a+q) (by omega) (by omega) (by omega) (by omega) (by omega)),?_,⟨r,p.get J f⟩,by simp only;omega,by simp only;omega⟩ (by simp only;omega)
  exact(v.trans z fun x hx=>.inr (by omega)).tr p
end Go.Proofs
namespace Go.Proofs
open Go Go.Lift Go.Sort
variable {dec:Int→Ch} {M:Nat→Prop} {s:SliceV} {h:ad} {d:Array Int}
theorem X4:SWO (mM dec):=⟨fun x=>woG.irr _,fun x y z a h2=>by
 unfold mM aaC at*
 exact decide_eq_true (fR (of_decide_eq_true a) (of_decide_eq_true h2)),fun x y z a h2=>woG.ntr _ _ _ a h2⟩
theorem abQ:∀(n:Nat) {a e:Nat} {Y:Int} {h:ad} {d:Array Int} {K:Unit→ad→Prop},e-a=n→SA dec M s h d→a≤e→e≤d.size→Go.Sort.Below (mM dec) a e d→
  (∀h' d',SA dec M s h' d'→PermIn a e d d'→SortedIn (mM dec) a e d'→Upd M h h'→K () h')→HC PG dU [.slice s.a s.len s.cap,.int .i64 a,.int .i64 e,.int .i64 Y,ud] [] K h:=by
 intro n;induction n using Nat.strongRecOn with
 |_ n ih=>
 intro a e Y h d K hn hs ha he hB hk;refine kX s a e Y ud ?_;unfold gY bE bX ji ay bK mo;have hsm:=hs.small;refine LoopP.ghost (fun(g:Nat×Nat×Array Int) (t:Int×Int×Int×Bool×Bool) h'=>t.1=(g.1:Int)∧t.2.1=(g.2.1:Int)∧SA dec M s h' g.2.2∧g.2.2.size=d.size∧(a≤g.1∧g.1≤g.2.1∧g.2.1≤e)∧Go.Sort.Below (mM dec) g.1 g.2.1 g.2.2∧
   (∀R,PermIn g.1 g.2.1 g.2.2 R→SortedIn (mM dec) g.1 g.2.1 R→PermIn a e d R∧SortedIn (mM dec) a e R)∧Upd M h h') (fun g=>g.2.1-g.1) (a,e,d)
  ⟨rfl,rfl,hs,rfl,⟨aj _,ha,aj _⟩,hB,fun R h1 h2=>⟨h1,h2⟩,Upd.refl _ _⟩ ?_
 rintro I ⟨b,c,W⟩ ⟨t1,t2,l1,wb,wp⟩ h1 ⟨Q,ht2,z,N,⟨haa,u,hee⟩,hB1,f,T⟩ hI;simp only at Q ht2 z N haa u hee hB1 f;subst Q ht2;have w:c≤W.size:=by omega
 have wl:IntKind.wrap .i64 ((c:Int)-(b:Int))=((c-b:Nat):Int):=by rw[dI (by omega)];omega
 simp only;rw[wl];refine ax (fun hle=>?_) fun hgt=>?_
 ·refine Tv z u w fun h2 o m=>?_
  obtain⟨p1,p2⟩:=insertionSort_holds X4 W b c u w;obtain⟨q1,q2⟩:=f _ p1 p2;exact hk _ _ o q1 q2 (T.tr m)
 have hgt:12<c-b:=by omega
 refine CondP.intro (fun _=>?_) fun _=>?_
 ·refine QS z u w fun h2 o m=>?_
  obtain⟨p1,p2⟩:=heapSort_holds X4 W b c u w;obtain⟨q1,q2⟩:=f _ p1 p2;exact hk _ _ o q1 q2 (T.tr m)
 refine Join.intro (fun _ h'=>∃V,SA dec M s h' V∧PermIn b c W V∧Upd M h h') (fun R C=>?_) ?_
 ·refine CondP.intro (fun _=>?_) fun _=>C _ _ ⟨W,z,permIn_refl ..,T⟩
  exact Gs z u w fun h2 V o J m=>C _ _ ⟨V,o,J,T.tr m⟩
 rintro lim2 h2 ⟨V,o,J,m⟩;have hz2:V.size=d.size:=by rw[J.1,N]
 refine Ki o (by omega) (by omega) fun h3 p hn1 hpa hpe hs3 hu3=>?_
 refine Join.intro (fun t h'=>∃(q:Nat) (X:Array Int),t.1=(q:Int)∧b≤q∧q<c∧SA dec M s h' X∧PermIn b c W X∧Upd M h h') (fun R C=>?_) ?_
 ·refine CondP.intro (fun _=>?_) fun _=>C _ _ ⟨p,V,rfl,hpa,hpe,hs3,J,m.tr hu3.wide⟩
  refine Qf hs3 (by omega) (by omega) fun h4 P F=>C _ _ ⟨c-1-(p-b),_,?_,by omega,by omega,P,permIn_trans _ _ _ _ _ J (reverseRange_holds V b c u (by omega)),(m.tr hu3.wide).tr F⟩
  show IntKind.wrap .i64 (IntKind.wrap .i64 ((c:Int)-1)-IntKind.wrap .i64 ((p:Int)-(b:Int)))=_
  rw[dI (x:=(c:Int)-1) (by omega),dI (x:=(p:Int)-(b:Int)) (by omega),dI (by omega)];omega
 rintro⟨q1,hint⟩ h4 ⟨q,X,hq,S,U,P,G,F⟩;simp only at hq;subst hq;have hz3:X.size=d.size:=by rw[G.1,N]
 have hB3:Go.Sort.Below (mM dec) b c X:=hB1.perm w G;refine Join.intro (fun _ h'=>∃L,SA dec M s h' L∧PermIn b c W L∧Upd M h h') (fun R C=>?_) ?_
 ·refine Join.intro (fun _ h'=>h'=h4) (fun R2 Z=>CondP.intro (fun _=>CondP.intro (fun _=>Z _ _ rfl) fun _=>Z _ _ rfl) fun _=>Z _ _ rfl) ?_
  rintro _ h5 rfl;refine CondP.intro (fun _=>?_) fun _=>C _ _ ⟨X,P,G,F⟩
  refine Lw P (by omega) (by omega) fun h6 H y=>?_
  obtain⟨p1,p2⟩:=partialInsertionSort_holds X4 X b c (by omega) (by omega) hB3;refine CondP.intro (fun hb=>?_) fun _=>C _ _ ⟨_,H,permIn_trans _ _ _ _ _ G p1,F.tr y⟩
  obtain⟨r1,r2⟩:=f _ (permIn_trans _ _ _ _ _ G p1) (p2 hb);exact hk _ _ H r1 r2 (F.tr y)
 rintro _ h5 ⟨L,hs5,E,hu5⟩;have hz4:L.size=d.size:=by rw[E.1,N]
 have hB4:Go.Sort.Below (mM dec) b c L:=hB1.perm w E;refine Join.intro (fun t h'=>SA dec M s h' L∧Upd No h5 h'∧(t=true→0<b∧(mM dec) L[b-1]! L[q]! =false)) (fun R C=>?_) ?_
 ·refine ax (fun h6=>?_) fun _=>C _ _ ⟨hs5,Upd.refl _ _,fun e=>by cases e⟩
  refine hs5.less (i:=b-1) (j:=q) (by rw[dI (by omega)];omega) rfl (by omega) (by omega) fun hL eL hsL kL heL=>C _ _ ⟨hsL,kL,fun e=>⟨by omega,by rw[heL]at e;simpa using e⟩⟩
 rintro t h6 ⟨H,k6,ht⟩;have y:=hu5.tr k6.wide;refine CondP.intro (fun Q=>?_) fun _=>?_
 ·obtain⟨h7,h8⟩:=ht Q
  refine WD H S U (by omega) fun h9 v O=>?_
  cases hx:partitionEqual (mM dec) L b c q with
  |mk mid d5=>
   rw[hx]at v;obtain⟨m1,m2,m3,m4,m5⟩:=round_eq X4 (partitionEqual_holds _) h7 S U (by omega) hB4 h8 hx;refine hI (mid,c,d5) _ _ ⟨rfl,rfl,v,by simp only;omega,⟨by simp only;omega,m2,hee⟩,m4,fun R r1 r2=>?_,y.tr O⟩ (by simp only;omega)
   obtain⟨x1,x2⟩:=m5 R r1 r2;exact f R (permIn_trans _ _ _ _ _ E x1) x2
 ·refine aau H S U (by omega) fun h9 v O=>?_
  cases hx:partition (mM dec) L b c q with
  |mk mid r=>
   obtain⟨ap,d5⟩:=r;rw[hx]at v;obtain⟨m1,m2,m3,m4,m5,m6,m7⟩:=round_part X4 (partition_holds _) S U (by omega) hB4 hx;simp only at v⊢;refine⟨by decide,?_⟩;have w1:IntKind.wrap .i64 ((mid:Int)-(b:Int))=((mid-b:Nat):Int):=by rw[dI (by omega)];omega
   have w2:IntKind.wrap .i64 ((c:Int)-(mid:Int))=((c-mid:Nat):Int):=by rw[dI (by omega)];omega
   have w3:IntKind.wrap .i64 ((mid:Int)+1)=((mid+1:Nat):Int):=by rw[dI (by omega)];omega
   rw[w1,w2,w3];refine ax (fun _=>?_) fun _=>?_
   ·refine ih (mid-b) (by omega) rfl v m1 (by omega) m4 fun h10 d6 A k D B=>?_
    obtain⟨y1,y2⟩:=m6 d6 k D;have hz6:=k.1;refine hI (mid+1,c,d6) _ _ ⟨rfl,rfl,A,by simp only;omega,⟨by simp only;omega,by simp only;omega,hee⟩,y1,fun R r1 r2=>?_,(y.tr O).tr B⟩ (by simp only;omega)
    obtain⟨x1,x2⟩:=y2 R r1 r2;exact f R (permIn_trans _ _ _ _ _ E x1) x2
   ·refine ih (c-(mid+1)) (by omega) rfl v (by omega) (by omega) m5 fun h10 d6 A k D B=>?_
    obtain⟨y1,y2⟩:=m7 d6 k D;have hz6:=k.1;refine hI (b,mid,d6) _ _ ⟨rfl,rfl,A,by simp only;omega,⟨haa,m1,by simp only;omega⟩,y1,fun R r1 r2=>?_,(y.tr O).tr B⟩ (by simp only;omega)
    obtain⟨x1,x2⟩:=y2 R r1 r2;exact f R (permIn_trans _ _ _ _ _ E x1) x2
theorem Ju{d a:Array Int}(b:PermIn 0 d.size d a):a.toList.Perm d.toList:=by
 have:=b.2.2;have c:a.extract 0 d.size=a:=by rw[←b.1];simp
 rw[c]at this;simpa using this
theorem X5{M:Nat→Prop}{h:ad}{s:SliceV}{L X:List Ch}(p:OwnS tI 5 bO M h s L)(A:L.Perm X)(B:oo X)(E:L.length≤100000000)(hM:∀b,M b→b<h.size){K:Unit→ad→Prop}(C:∀h',OwnS tI 5 bO M h' s X→Upd M h h'→K () h'):
  HC PG cQ [.slice s.a s.len s.cap,.func (.func pu) #[] #[]] [] K h:=by
 refine ip s _ ?_;unfold fx;have g:=p.len;rw[Go.IntWalk.u64_in _ (by omega)];refine Tf (by omega) fun D _ _=>?_
 let dec:Int→Ch:=fun i=>L[i.toNat]?.getD (⟨#[]⟩,⟨#[]⟩,⟨#[]⟩,false,false)
 let d:Array Int:=((gg L.length).map fun i:Nat=>(i:Int)).toArray
 have hd:d.toList.map dec=L:=by
  apply List.ext_getElem?;intro i;rw[mn];show(((gg L.length).map fun i:Nat=>(i:Int))[i]?).map dec=_
  rw[mn];by_cases hi:i<L.length
  ·rw[List.getElem?_range hi,ae hi]
   show some (L[((i:Int)).toNat]?.getD _)=_
   rw[aR,ae hi];rfl
  ·rw[lL (by rw[List.length_range];omega),lL (by omega)];rfl
 have y:d.size=L.length:=by simp[d]
 have x:SA dec M s h d:=⟨by rw[hd];exact p,by omega,hM⟩
 have w:((s.len:Nat):Int)=((d.size:Nat):Int):=by rw[y,g]
 rw[w];refine abQ (a:=0) (e:=d.size) _ rfl x (aS _) (aj _) (.inl rfl) fun h' c n f t u=>?_
 have m:=Ju f;have v:(c.toList.map dec).Perm L:=by
  have:=m.map dec;rw[hd]at this;exact this
 have z:Srt aaC (c.toList.map dec):=by
  unfold Srt;rw[List.pairwise_map,ce];intro i j hi q o;have k:=f.1;have:=t i j (aS _) o (by rw[←k];simpa using q);rw[getElem!_pos c j (by simpa using q),getElem!_pos c i (by simpa using hi)]at this;have this:aaC (dec c[j]) (dec c[i])=false:=this;simpa only[Array.getElem_toList]using this
 have:=P1 (v.trans A) z B;subst this;exact C h' n.own u
end Go.Proofs
namespace Go.Proofs
open Go Go.Lift
theorem Kb{W W':Nat→Prop}{x k:Hs}{h:ad}{c a:Int}{t u:Tr}{l l':List Pr}(i:TreeIs W h c x t l)(m:TreeIs W' h a k u l')(g:bS l)(n:Fit l)(q:l.length≤60000)(b:bS l')(f:Fit l')(d:l'.length≤60000){K:SliceV×Int→ad→Prop}
  (p:qy t u=false→∀h',Upd No h h'→K (⟨none,0,0⟩,11) h')(e:qy t u=true→∀h' s',OwnS tI 5 bO (fun y=>h.size≤y) h' s' (jX l l')→Upd No h h'→K (s',0) h'):HC PG ua [Ia t,Ia u] [.c .slice,.c (.int .i64)] K h:=
 Ka i m g n q b f d (fun _ {_ _ _ _ _} o hM j e=>X5 o j (ri g b) (by have:=j.length_eq;have:=vS g b;omega) hM e) p e
end Go.Proofs
namespace Go.Proofs
open Go Go.Lift
theorem Few.mono{n m:Nat}{L:List Pr}(f:Few n L)(h:n≤m):Few m L:=⟨f.up,bh f.len h,f.fit⟩
theorem YC{h:ad}{t:Tr}{r:Rt}{G:ad→ad→Prop}(k:∀a h',Upd No h h'→h'[h.size]? =some (.cells (oF t).toArray bD (0,0))→h'[a.size]? =some (.cells (zm r).toArray dh (0,0))→h.size<a.size→G a h'):
  At (hnew h (oF IM) bD) fun a=>At (hnew a (zm Ye) dh) fun h2=>wn h2 (some (aG h)) 0 (oF t)∧At (jj h2 (aG h) 0 (oF t)) fun f=>wn f (some (aG a)) 0 (zm r)∧At (jj f (aG a) 0 (zm r)) fun e=>G a e:=by
 refine aW fun a b1 k1=>aW fun h2 b2 g=>?_
 have i:=bC b1;refine dH (c:=oF IM) (vs:=oF t) (g.get0 b1) rfl fun f b3 d=>?_
 refine dH (c:=zm Ye) (vs:=zm r) (d.oth b2 (by omega)) rfl fun e j b=>?_
 exact k a e (((k1.tr g).own d (aj _)).own b k1.size) (b.oth b3 (by omega)) j i
end Go.Proofs
namespace Go.Proofs
open Go Go.Lift
theorem Qj{W:Nat→Prop}{h:ad}{b:Nat}{l:List Pr}(t:RadAt W h b l)(hW:∀y,W y→y<h.size)(hr:bS l)(k:ByteArray){K:ByteArray×Bool→ad→Prop}
  (T:∀h',Upd No h h'→K ((look l k).getD ⟨#[]⟩,(look l k).isSome) h'):HC PG A0 [.pointer (some ⟨b,0,none⟩),.string k] [.c .str,.c .bool] K h:=by
 refine Rv (some ⟨b,0,none⟩) k ?_;unfold Hx bE bX ay is bV IJ;refine FX (.inr ⟨b,rfl,t⟩) hW fun h2 b2 t2 Z _=>?_
 obtain⟨w,F,r1,r2,r3⟩:=t2.ex;have d:∀v,uY w F k.data.toList v↔look l k=some v:=fun v=>by
  rw[←kI,r3];constructor
  ·rintro⟨p,hp,e1,rfl⟩
   rw[←rz.1 e1];exact yA hr hp
  ·intro hp;exact⟨_,wy hp,rfl,rfl⟩
 refine LoopP.ghost (fun(g:ByteArray×Nat×ByteArray×Option ByteArray×Fo) (t:ByteArray×Option Addr) h'=>t=(g.1,some ⟨g.2.1,0,none⟩)∧RxN W h' g.2.1 g.2.2.1 g.2.2.2.1 g.2.2.2.2∧ge g.2.2.2.2∧(∀v,uY g.2.2.2.1 g.2.2.2.2 g.1.data.toList v↔look l k=some v)∧Upd No h h') (fun g=>g.1.size) (k,b2,⟨#[]⟩,w,F) ⟨rfl,r1,r2,d,Z⟩ ?_
 clear d r1 r2 r3 t2;rintro I ⟨kk,c,sl,w,F⟩ t h5 ⟨rfl,r,hc,d,V⟩ hI;simp only at r hc d;simp only[fg];by_cases G:kk=⟨#[]⟩
 ·subst G
  refine ag.2 (P9 r ?_);have e:look l k=w:=Option.ext fun v=>by
   rw[←d v];constructor
   ·rintro(⟨_,h⟩|h)
    ·exact h
    ·exact absurd rfl (rm hc h)
   ·intro h;exact .inl ⟨rfl,h⟩
  rw[e]at T;exact T _ V
 ·rw[decide_eq_false G]
  refine au.2 ?_;have x:kk.data.toList≠[]:=fun e=>G (by cases kk;exact congrArg nJ (Array.toList_inj.1 e))
  obtain⟨c0,hc0,O⟩:=Gb x;refine⟨c0,Int.le_refl _,hc0,?_⟩;have hr0:=r;obtain⟨val,s,ow,ks,hb,_,hs,hcap,hF⟩:=r;have hL:=lJ.1 hF;have D:=eT.1 hc;have o:(∀v,¬tF F kk.data.toList v)→K ((⟨#[]⟩:ByteArray),false) h5:=fun B=>by
   have e:look l k=none:=by
    cases e:look l k with
    |none=>rfl
    |some v=>
     rcases(d v).2 e with⟨h,_⟩|h
     ·exact absurd h x
     ·exact absurd h (B v)
   rw[e]at T;exact T _ V
  refine FZ hr0 hc (c:=c0.toNat) (sY _) fun i ok hil R L J=>?_
  rw[O]at R L J;cases ok with
  |false=>
   refine au.2 (o fun v d=>?_)
   obtain⟨n',E,e,_⟩:=tT hc d;obtain⟨j,S,rfl⟩:=List.getElem_of_mem E;rcases bZ j i with X|X
   ·have:=R j S X;omega
   ·have h1:=L j S X
    have h2:=L i (by omega) (aj _);rcases bZ i j with N|N
    ·have h3:=ce.1 D.1 i j (by omega) S N
     omega
    ·have:i=j:=by omega
     subst this;have:=J.2 ⟨S,e⟩;cases this
  |true=>
   obtain⟨hi,M⟩:=J.1 rfl;refine ag.2 ⟨_,rfl,s,dZ (i:=3) hb,?_⟩;obtain⟨kb,P,Y,z,C⟩:=hL.at hi;have q:F.toL[i]∈F.toL:=bw hi;have A:=D.2 _ q;obtain⟨a,ha,_,hvv⟩:=hs.at0 Y;have H:=hs.len;rw[hL.1]at H;have f:∀v,tF F kk.data.toList v↔wr F.toL[i] kk.data.toList v:=fun v=>by
    constructor
    ·intro d
     obtain⟨n',E,e,hN⟩:=tT hc d;rw[←zN hc E q (by omega)];exact hN
    ·intro d;exact gM.2 ⟨_,q,d⟩
   refine⟨⟨by simp only;omega,by simp only;omega⟩,a,ha,some ⟨kb,0,none⟩,hvv,_,rfl,?_⟩
   obtain⟨kval,kss,kow,kks,Q,_⟩:=id C;generalize F.toL[i]=m at z C A f M;obtain⟨lab,wk,Fk⟩:=m;simp only at z C A M Q;refine⟨P,dZ (i:=0) Q,Y7 (fun u n=>?_) fun B=>?_⟩
   ·rw[z]at n
    have hlne:lab.length≠0:=fun e=>A.1 (List.length_eq_zero_iff.1 e)
    have hrl:u.size<kk.size:=by
     rw[←mJ u,←mJ kk,n,List.length_append];omega
    refine ag.2 (hI (u,kb,P,wk,Fk) _ _ ⟨rfl,C,A.2.2,fun v=>?_,V⟩ hrl)
    rw[←d v];constructor
    ·intro h;exact .inr ((f v).2 ⟨_,n,h⟩)
    ·rintro(⟨h,_⟩|h)
     ·exact absurd h x
     ·obtain⟨r',e,U⟩:=(f v).1 h
      simp only at e;rw[n]at e;rw[List.append_cancel_left e];exact U
   ·rw[z]at B
    refine au.2 (o fun v h=>?_)
    obtain⟨r',e,_⟩:=(f v).1 h;exact B r' e
theorem Z7{W:Nat→Prop}{x:Hs}{h:ad}{a:Int}{t:Tr}{l:List Pr}(i:TreeIs W h a x t l)(g:∀y,W y→y<h.size)(e:bS l)(m:l.length≤1000000)(k:ByteArray){K:Sd→ad→Prop}(f:∀h',Upd No h h'→K ((look l k).getD ⟨#[]⟩,(look l k).isSome) h'):HC PG vi [Ia t,.string k] [.c .str,.c .bool] K h:=by
 refine HX t k ?_;unfold Ak aZ aH xa rT df AB;rcases i with⟨_,b,rfl,t⟩|⟨_,b,rfl,t⟩
 ·refine aW fun j b1 k1=>⟨_,vc b1 0,ag.2 ⟨_,Av b1 1 0,_,Av b1 1 1,_,Av b1 1 2,_,vc b1 4,?_⟩⟩
  exact Rf (TrieAt.upd0 k1 t) (fun y d=>aD (g y d) k1.size) e m k fun h2 c=>f h2 (k1.tr c)
 ·refine aW fun j b1 k1=>⟨_,vc b1 0,au.2 ⟨_,vc b1 5,?_⟩⟩
  exact Qj (t.upd0 k1) (fun y d=>aD (g y d) k1.size) e k fun h2 c=>f h2 (k1.tr c)
theorem aaN{W:Nat→Prop}{x:Hs}{h:ad}{f:Int}{t:Tr}{L:List Pr}{c:Ch}(i:TreeIs W h f x t L)(o:∀y,W y→y<h.size)(m:bS L)(p:L.length≤1000000){K:Bool→ad→Prop}(b:∀h',Upd No h h'→K (Hj L c) h'):HC PG rx [.agg #[.string c.1,.string c.2.1,.string c.2.2.1,.bool c.2.2.2.1,.bool c.2.2.2.2],Ia t] [.c .bool] K h:=by
 refine DW c t ?_;unfold wY aZ af aH rT ut az jR Jt;refine aW fun q b1 k1=>aW fun h2 b2 k=>⟨_,vc b2 0,_,vc b2 1,_,vc b2 2,_,vc b2 3,_,vc b2 4,_,vc b2 5,_,vc (k.get0 b1) 0,?_⟩
 have a:=k1.tr k;refine Z7 (i.upd0 a) (fun y n=>aD (o y n) a.size) m p c.1 fun j g=>?_
 have d:=g.get0 (k.get0 b1);have b:=b j (a.tr g);unfold Hj at b;refine⟨_,vc d 3,CondP.intro (fun e=>⟨_,vc d 1,?_⟩) fun e=>?_⟩
 ·rw[fg]
  simp only at e;rw[e,Bool.true_and]at b;exact b
 ·simp only at e
  rw[e,Bool.false_and]at b;exact b
set_option maxHeartbeats 1000000 in
theorem ON{W W':Nat→Prop}{x:Hs}{h:ad}{k:Int}{t:Tr}{L:List Pr}{s:SliceV}{l:List Ch}(i:TreeIs W h k x t L)(hW:∀y,W y→y<h.size)(hr:bS L)(hf:Fit L)(hn:L.length≤500000)(hs:Sl tI 5 W' h s l)(hln:l.length≤500000)(hz:Ky l){K:Tr×Int→ad→Prop}
  (hk0:wL L l≠0→∀h',Upd No h h'→K (t,wL L l) h')(hk:wL L l=0→∀h' G,TreeIs W h' k x G (rB L l)→Upd No h h'→K (G,0) h'):HC PG np [Ia t,.slice s.a s.len s.cap] [.agg [.int .i64,.int .u64,.int .u64,.int .u64,.ptr,.ptr],.c (.int .i64)] K h:=by
 refine Pk t s ?_;unfold FA bX aZ af aH eW nv Ay rT ut ay az Lo rV bK jR B4 jt;refine aW fun z b1 k1=>aW fun h2 b2 k2=>?_
 have z1:=bC b1;have z2:=bC b2;have s1:h.size≤z.size:=k1.size;have w:=k1.tr k2;refine EK (hs.upd w fun _ h=>h.elim) (by omega) hz fun h4 k4=>?_
 have k04:=w.tr k4;have H:∀{h':ad} {e:Int},Upd No h2 h'→wL L l=e→e≠0→(∃v5:Int,aO h' (adr (aG h) 0)=some (.int .i64 v5)∧∃v6:Int,aO h' (adr (aG h) 1)=some (.int .u64 v6)∧∃v7:Int,aO h' (adr (aG h) 2)=some (.int .u64 v7)∧∃v8:Int,aO h' (adr (aG h) 3)=some (.int .u64 v8)∧∃v9:Option Addr,aO h' (adr (aG h) 4)=some (.pointer v9)∧∃v10:Option Addr,aO h' (adr (aG h) 5)=some (.pointer v10)∧
   (wn h' (some (aG z)) 0 [.int .i64 v5,.int .u64 v6,.int .u64 v7,.int .u64 v8,.pointer v9,.pointer v10]∧At (jj h' (aG z) 0 [.int .i64 v5,.int .u64 v6,.int .u64 v7,.int .u64 v8,.pointer v9,.pointer v10]) (fun b=>∃v12:Int,aO b (adr (aG z) 0)=some (.int .i64 v12)∧∃v13:Int,aO b (adr (aG z) 1)=some (.int .u64 v13)∧∃v14:Int,aO b (adr (aG z) 2)=some (.int .u64 v14)∧∃v15:Int,aO b (adr (aG z) 3)=some (.int .u64 v15)∧∃v16:Option Addr,aO b (adr (aG z) 4)=some (.pointer v16)∧∃v17:Option Addr,aO b (adr (aG z) 5)=some (.pointer v17)∧K ((v12,v13,v14,v15,v16,v17),e) b))):=fun{h' e} T ee hne=>by
  have m:=T.get0 (k2.get0 b1);refine⟨_,vc m 0,_,vc m 1,_,vc m 2,_,vc m 3,_,vc m 4,_,vc m 5,?_⟩;refine dH (c:=oF IM) (vs:=oF t) (T.get0 b2) rfl fun b v V=>?_
  refine⟨_,vc v 0,_,vc v 1,_,vc v 2,_,vc v 3,_,vc v 4,_,vc v 5,?_⟩;subst ee;exact hk0 hne b ((w.tr T).own V s1)
 by_cases P:rk l=0
 rotate_left
 ·rw[show(rk l !=(0:Int))=true by simpa using P]
  exact au.2 (H k4 (by unfold wL;rw[if_pos P]) P)
 rw[P];refine ag.2 ?_;refine EM (p:=fun c=> !Hj L c) (hs.upd k04 fun _ h=>h.elim) (by omega) (fun c hc h' T K' hk'=>HV.mk' (KC c (aG h) ?_)) fun n k19=>?_
 ·unfold Bu ut az df jR abe Ab Jt mo
  refine aW fun h1' A Y=>?_
  have kk:=(k4.tr T).tr Y;have m:=kk.get0 (k2.get0 b1);refine⟨_,vc A 0,_,vc A 1,_,vc A 2,_,vc A 3,_,vc A 4,_,vc m 0,_,vc m 1,_,vc m 2,_,vc m 3,_,vc m 4,_,vc m 5,?_⟩;exact aaN (i.upd0 (w.tr kk)) (fun y d=>aD (hW y d) (w.tr kk).size) hr (by omega) fun h'' k''=>hk' h'' (Y.tr k'')
 have f:=k4.tr k19;cases ea:l.any (fun c=> !Hj L c)with
 |true=>exact au.2 (H f (by unfold wL;rw[if_neg (fun h=>h P),if_pos ea]) (by omega))
 |false=>
 refine ag.2 ?_;have e0:wL L l=0:=by unfold wL;rw[if_neg (fun h=>h P),ea];rfl
 have kL:=w.tr f;have iL:=i.pro kL;have S:=Pro.lt hW kL;have hlen:=hs.len;have sL:=f.size;have U:Pro W h n h.size:=.inr (by omega);have hP1:Pro W h n z.size:=.inr (by omega);have sz:∀c∈l,c.1.size≤10000∧c.2.2.1.size≤10000:=fun c hc=>by have:=hz c hc;omega
 refine LoopP.ghost (fun(i:Nat) (ti:Int) h'=>ti=(i:Int)∧i≤l.length∧(∃C,TreeIs (Pro W h n) h' k x C (rB L (l.take i))∧h'[h.size]? =some (.cells (oF C).toArray bD (0,0)))∧Upd (· =h.size) n h') (fun i=>l.length-i) 0 ⟨rfl,aS _,⟨t,iL,f.get0 (k2.get0 b1)⟩,Upd.refl _ _⟩ ?_
 rintro I j tj h35 ⟨rfl,hj,⟨C,iv,M⟩,X⟩ hI;have hus:=X.size;have Z:Upd No h h35:=kL.own X (aj _);refine ax (fun q=>?_) fun hge=>?_
 ·have q:j<l.length:=by omega
  obtain⟨a,ha,_,hv⟩:=(hs.upd Z fun _ h=>h.elim).at (ae q)
  have O:=hz _ (bw q);have lj:=M6 (l.take j) L;rw[aI]at lj;have fj:Fit (rB L (l.take j)):=Nq hf fun c hc=>sz c (List.mem_of_mem_take hc)
  have rj:bS (rB L (l.take j)):=AI hr;refine Join.intro (fun _ E=>(∃C,TreeIs (Pro W h n) E k x C (rB L (l.take (j+1)))∧E[h.size]? =some (.cells (oF C).toArray bD (0,0)))∧Upd (· =h.size) n E) (fun R Q=>⟨⟨by omega,by omega⟩,a,ha,_,hv 0 _ rfl,_,hv 1 _ rfl,_,hv 2 _ rfl,_,hv 3 _ rfl,_,hv 4 _ rfl,?_⟩) ?_
  ·rw[TV q]at Q
   unfold xf at Q;refine Vi (c:=l[j]) fun h44 D o=>⟨_,vc D 4,?_⟩
   have b2:=o.get0 M;have s44:=o.size;refine CondP.intro (fun e=>?_) fun e=>?_
   ·rw[if_pos e]at Q
    refine⟨_,vc b2 0,_,vc b2 1,_,vc b2 2,_,vc b2 3,_,vc b2 4,_,vc b2 5,_,vc D 0,_,vc D 2,?_⟩;refine PY (iv.upd0 o) (fun y d=>aD (S y d) (by omega)) rj (by omega) (l[j].1,l[j].2.2.1) O.1 O.2.2 fun h55 G J _ B=>?_
    refine dH (c:=oF C) (vs:=oF G) (B.get0 b2) rfl fun h56 N g=>Q _ _ ⟨⟨G,J.updM g fun y d=>.inl (by have d:y=h.size:=d;rw[d];exact U),N⟩,((X.tr o.wide).tr B.wide).tr g⟩
   ·rw[if_neg (by rw[e];exact Bool.false_ne_true)]at Q
    refine⟨_,vc b2 0,_,vc b2 1,_,vc b2 2,_,vc b2 3,_,vc b2 4,_,vc b2 5,_,vc D 0,?_⟩;refine GT (iv.upd0 o) (fun y d=>aD (S y d) (by omega)) rj fj (by omega) l[j].1 O.1 fun h55 G J _ B=>?_
    refine dH (c:=oF C) (vs:=oF G) (B.get0 b2) rfl fun h56 N g=>Q _ _ ⟨⟨G,J.updM g fun y d=>.inl (by have d:y=h.size:=d;rw[d];exact U),N⟩,((X.tr o.wide).tr B.wide).tr g⟩
  ·rintro _ E ⟨hex,hu2⟩
   rw[ga q (by omega)];exact hI (j+1) _ _ ⟨rfl,q,hex,hu2⟩ (by omega)
 ·have hjl:j=l.length:=by omega
  rw[hjl,bT]at iv;refine⟨_,vc M 0,_,vc M 1,_,vc M 2,_,vc M 3,_,vc M 4,_,vc M 5,?_⟩;refine dH (c:=oF IM) (vs:=oF C) (X.get (f.get0 b2) (by show ¬z.size=h.size;omega)) rfl fun h75 u F=>?_
  refine⟨_,vc u 0,_,vc u 1,_,vc u 2,_,vc u 3,_,vc u 4,_,vc u 5,?_⟩;exact hk e0 h75 C ((iv.updM F fun y d=>.inl (by have d:y=z.size:=d;rw[d];exact hP1)).less Pro.sub) (Z.own F s1)
end Go.Proofs
namespace Go.Proofs
open Go Go.Lift
end Go.Proofs
namespace Go.Proofs
open Go Go.Lift
def xd(a l:List Pr):List Pr:=l.foldl (fun a p=>hJ p a) a
theorem Wt{a l:List Pr}{i:Nat}(hi:i<l.length):xd a (l.take (i+1))=hJ l[i] (xd a (l.take i)):=by
 unfold xd;rw[aV hi,List.foldl_append];rfl
theorem zn:∀{l a:List Pr},bS a→bS (xd a l)
 | [],_,h=>h
 |p::l,_,h=>zn (l:=l) (yw p h)
theorem Jq:∀{l a:List Pr},(xd a l).length≤a.length+l.length
 | [],_=>aj _
 |p::l,a=>by
  have b:=Jq (l:=l) (a:=hJ p a);have h2:=yC p (l:=a);show(xd (hJ p a) l).length≤_
  rw[List.length_cons];omega
theorem M0{k:ByteArray}:∀{l a:List Pr},(look (xd a l) k).isSome=((look a k).isSome||(look l k).isSome)
 | [],a=>by rw[YI];simp[xd]
 |p::l,a=>by
  show(look (xd (hJ p a) l) k).isSome=_
  rw[M0,JD,iT];split
  ·simp
  ·rfl
theorem Te{W W':Nat→Prop}{h h':ad}{a:Int}{x:Hs}{r q:Rt}{l l':List Pr}(j:RefIs W h a x r l)(b:RefIs W' h' a x q l'):Vn r q=true:=by
 obtain⟨s,rfl,_⟩:=j;obtain⟨s',rfl,_⟩:=b;simp[Vn]
end Go.Proofs
namespace Go.Proofs
open Go Go.Lift
def B9(A B l:List Pr):List Ch:=l.filterMap fun q=>PM q.1 (look A q.1) (look B q.1)
theorem Zc{A B l:List Pr}:(B9 A B l).length≤l.length:=List.length_filterMap_le ..
theorem W8{A B l:List Pr}{i:Nat}(hi:i<l.length):B9 A B (l.take (i+1))=B9 A B (l.take i)++(PM l[i].1 (look A l[i].1) (look B l[i].1)).toList:=by
 unfold B9;rw[aV hi,List.filterMap_append];congr 1
theorem QG{A B l:List Pr}{c:Ch}(h:c∈B9 A B l):∃r∈l,r.1=c.1:=by
 obtain⟨q,a,e⟩:=List.mem_filterMap.1 h;exact⟨q,a,by rw[(BT e).1]⟩
theorem NA{A B l:List Pr}{q:Pr}:B9 A B (q::l)=(PM q.1 (look A q.1) (look B q.1)).toList++B9 A B l:=by
 unfold B9;rw[List.filterMap_cons];cases PM q.1 (look A q.1) (look B q.1)<;>rfl
theorem Dj{A B:List Pr}:∀{l:List Pr},bS l→oo (B9 A B l)
 | [],_=>fT
 |q::l,a=>by
  have a:=aA.1 a;rw[NA];cases h:PM q.1 (look A q.1) (look B q.1)with
  |none=>exact Dj a.2
  |some c=>
   refine aA.2 ⟨fun c' d=>?_,Dj a.2⟩
   obtain⟨r,b,e⟩:=QG d;rw[←e,(BT h).1];exact a.1 r b
theorem OH{A B:List Pr}{k:ByteArray}:∀{l:List Pr},bS l→fd (B9 A B l) k=if(look l k).isSome then PM k (look A k) (look B k)else none
 | [],_=>rfl
 |q::l,a=>by
  have a:=aA.1 a;rw[NA,iT];have b:∀c∈B9 A B l,kl q.1 c.1:=fun c hc=>by
   obtain⟨r,d,e⟩:=QG hc;rw[←e];exact a.1 r d
  by_cases e:q.1=k
  ·subst e
   rw[if_pos rfl];cases h:PM q.1 (look A q.1) (look B q.1)with
   |none=>exact Gh b
   |some c=>
    show fd (c::B9 A B l) q.1=some c
    rw[kP,if_pos (by rw[(BT h).1])]
  ·rw[if_neg e]
   cases h:PM q.1 (look A q.1) (look B q.1)with
   |none=>exact OH a.2
   |some c=>
    show fd (c::B9 A B l) k=_
    rw[kP,if_neg (by rw[(BT h).1];exact e)];exact OH a.2
theorem aaX{A B:List Pr}(a:bS A)(b:bS B):B9 A B (xd A B)=jX A B:=by
 refine YY (Dj (zn a)) (ri a b) fun k=>?_
 rw[OH (zn a),OI a b,M0];cases h1:look A k<;>cases h2:look B k<;>simp[PM]
theorem Qp{W:Nat→Prop}{h:ad}{s:SliceV}{l:List Pr}(d:Sl eu 2 W h s l)(a:bS l)(e:Fit l)(f:l.length≤1000000)(k:ByteArray){K:ByteArray×Bool→ad→Prop}
  (c:K ((look l k).getD ⟨#[]⟩,(look l k).isSome) h):HC PG wh [.slice s.a s.len s.cap,.string k] [.c .str,.c .bool] K h:=
 U8 d a e f k fun v b h2=>by rw[←Vm a b h2];exact c
theorem SW{h:ad}{s s':SliceV}{A B:List Pr}(n:Sl eu 2 No h s A)(g:Sl eu 2 No h s' B)(w:bS A)(N:A.length≤1000)(Q:B.length≤1000)(q:Fit B){K:SliceV→ad→Prop}
  (G:∀h' t,Sl eu 2 No h' t (xd A B)→Upd No h h'→K t h'):HC PG Dv [.slice s.a s.len s.cap,.slice s'.a s'.len s'.cap] [.c .slice] K h:=by
 refine Ue s s' ?_;unfold KQ bX nv ay az lN is rV;have l':=g.len;refine Join.intro (fun t h'=>Sl eu 2 No h' t A∧Upd No h h') (fun R x=>?_) ?_
 ·refine aW fun O b1 k1=>?_
  refine⟨_,(n.upd k1 fun _ h=>h.elim).srow,?_⟩
  refine AppP.own (ys:=A) (M:=fun y=>h.size≤y) (OwnS.nil (a:=some (aG h)) gu) n.len rfl (xj _) rfl (by omega) (by simp only[List.length_nil];omega) k1.size fun t h' j c=>x _ _ ⟨j.sl fun _ _ _ h=>h,(k1.wide.tr c).mono fun y C=>.inr C⟩
 rintro P J ⟨H,z⟩;refine LoopP.ghost (fun(i:Nat) (t:SliceV×Int) h'=>t.2=(i:Int)∧i≤B.length∧Sl eu 2 No h' t.1 (xd A (B.take i))∧Upd No h h') (fun i=>B.length-i) 0 ⟨rfl,aS _,H,z⟩ ?_
 rintro I i ⟨ts,L⟩ F ⟨e,hi,st,c⟩ u;simp only at e st;subst e;refine ax (fun b=>?_) fun k=>?_
 ·have b:i<B.length:=by simp only at b;omega
  obtain⟨a,D,_,hv⟩:=(g.upd c fun _ h=>h.elim).at (ae b)
  refine⟨⟨by simp only;omega,by simp only;omega⟩,a,D,B[i].1,hv 0 _ rfl,B[i].2,hv 1 _ rfl,?_⟩
  refine tG (p:=B[i]) fun o f d=>⟨_,vc f 0,_,vc f 1,?_⟩
  have E:=Jq (l:=B.take i) (a:=A);rw[aI]at E;refine U7 (p:=B[i]) (st.upd d fun _ h=>h.elim) (zn w) (by omega) (by have:=q _ (bw b);omega) fun s' v j m=>?_
  simp only;rw[ga b (by omega)];refine u (i+1) _ _ ⟨rfl,b,?_,(c.tr d).tr m⟩ (by omega);rw[Wt b];exact j.sl fun _ _ _ h=>h
 ·have hi:i=B.length:=by simp only at k;omega
  subst hi;rw[bT]at st;exact G _ _ st c
theorem Yt{x:Hs}{h:ad}{m:Int}{C E:Rt}{A B:List Pr}(Y:RefIs No h m x C A)(jb:RefIs No h m x E B)(N:bS A)(W:bS B)(nA:A.length≤1000)(nB:B.length≤1000)(fA:Fit A)(T:Fit B){K:SliceV×Int→ad→Prop}
  (hk:∀h' t,Sl tI 5 No h' t (jX A B)→Upd No h h'→K (t,0) h'):HC PG JW [aai C,aai E] [.c .slice,.c (.int .i64)] K h:=by
 refine ZA C E ?_;unfold RO bX aZ af dy nv HR Sc HP ay az lN is D2 B4 jt;refine aW fun Z b1 k1=>aW fun h2 b2 S=>?_
 have z:=S.get0 b1;have P:=k1.tr S;refine⟨_,vc z 0,_,vc z 1,_,vc z 2,_,vc z 3,C.2.2.2.2,vc z 4,_,vc b2 0,_,vc b2 1,_,vc b2 2,_,vc b2 3,E.2.2.2.2,vc b2 4,?_⟩;refine Yp (r:=C) (q:=E) fun h14 w=>?_
 rw[Te Y jb];have U:=w.get0 z;have d2:=w.get0 b2;have f:=P.tr w;obtain⟨V,ea,J,ca⟩:=Y;obtain⟨X,eb,L,cb⟩:=jb;subst ea eb;refine ag.2 ⟨V,vc U 4,X,vc d2 4,?_⟩;refine SW (J.upd f fun _ h=>h.elim) (L.upd f fun _ h=>h.elim) N nA nB T fun j s18 n F=>?_
 have g:=f.tr F;have ls:=n.len;have pl:=Jq (l:=B) (a:=A);refine LoopP.ghost (fun(i:Nat) (t:SliceV×Int) h'=>t.2=(i:Int)∧i≤(xd A B).length∧OwnS tI 5 kN (fun y=>j.size≤y) h' t.1 (B9 A B ((xd A B).take i))∧Upd No j h') (fun i=>(xd A B).length-i) 0 ⟨rfl,aS _,OwnS.nil Gp,Upd.refl _ _⟩ ?_
 rintro I i ⟨ts,ti⟩ h21 ⟨e,hi,M,k⟩ hI;simp only at e M;subst e;refine ax (fun d=>?_) fun Q=>?_
 ·have d:i<(xd A B).length:=by simp only at d;omega
  have cl:=Zc (A:=A) (B:=B) (l:=(xd A B).take i);rw[aI]at cl;refine Join.intro (fun t h'=>OwnS tI 5 kN (fun y=>j.size≤y) h' t (B9 A B ((xd A B).take (i+1)))∧Upd No j h') (fun R G=>?_) ?_
  ·rw[W8 d]at G
   obtain⟨a,ha,_,hv⟩:=(n.upd k fun _ h=>h.elim).at (ae d)
   refine⟨⟨by simp only;omega,by simp only;omega⟩,a,ha,(xd A B)[i].1,hv 0 _ rfl,(xd A B)[i].2,hv 1 _ rfl,?_⟩
   generalize (xd A B)[i]=q at G;refine tG (p:=q) fun O v b=>?_
   have D:=(F.tr k).tr b;refine⟨V,vc (D.get0 U) 4,q.1,vc v 0,?_⟩;refine Qp (J.upd ((g.tr k).tr b) fun _ h=>h.elim) N fA (by omega) q.1 ⟨X,vc (D.get0 d2) 4,q.1,vc v 0,?_⟩
   refine Qp (L.upd ((g.tr k).tr b) fun _ h=>h.elim) W T (by omega) q.1 ?_
   have o:=M.upd b fun _ _ h=>h
   refine Join.intro (fun t h'=>t=decide (look A q.1≠look B q.1)∧h'=O) (fun R2 H=>?_) ?_
   ·refine CondP.intro (fun e=>H _ _ ⟨?_,rfl⟩) fun e=>H _ _ ⟨?_,rfl⟩
    ·rw[eq_comm,decide_eq_true_iff]
     intro h;rw[h]at e;simp at e
    ·have e:(look A q.1).isSome=(look B q.1).isSome:=by simpa using e
     rw[fg,←decide_not,decide_eq_decide];refine not_congr ?_;cases Z:look A q.1<;>cases h2:look B q.1<;>rw[Z,h2]at e<;>simp at e⊢
   rintro t h38 ⟨rfl,rfl⟩;by_cases e:look A q.1=look B q.1
   ·rw[show decide (look A q.1≠look B q.1)=false by simp[e]]
    refine ag.2 (G _ _ ⟨?_,k.tr b⟩);unfold PM;rw[if_pos e];show OwnS tI 5 kN _ _ _ (_++ [])
    rw[List.append_nil];exact o
   ·rw[decide_eq_true e]
    have ec:PM q.1 (look A q.1) (look B q.1)=some (q.1,(look A q.1).getD ⟨#[]⟩,(look B q.1).getD ⟨#[]⟩,(look A q.1).isSome,(look B q.1).isSome):=if_neg e;rw[ec]at G;have z27:=(k.tr b).size;refine au.2 ⟨q.1,vc v 0,?_⟩;refine Kt (c:=(q.1,(look A q.1).getD ⟨#[]⟩,(look B q.1).getD ⟨#[]⟩,(look A q.1).isSome,(look B q.1).isSome)) o (fun y hy=>by omega) (by omega) fun s' h43 s u=>G _ _ ⟨s,(k.tr b).trans u fun y hy=>.inr hy⟩
  ·rintro t h' ⟨s,u⟩
   simp only;rw[ga d (by omega)];exact hI (i+1) _ _ ⟨rfl,d,s,u⟩ (by omega)
 ·have hi:i=(xd A B).length:=by simp only at Q;omega
  subst hi;rw[bT,aaX N W]at M;exact hk _ _ (M.sl fun _ _ _ h=>h) (g.tr k)
end Go.Proofs
namespace Go.Proofs
open Go Go.Lift
theorem UK(n:Nat):IntKind.wrap .u64 (n:Int)=((n%18446744073709551616:Nat):Int):=by rw[IntKind.wrap_u64];omega
theorem D5{n:Nat}(h:n<18446744073709551616):IntKind.wrap .u64 (n:Int)=(n:Int):=by rw[UK,dX h]
theorem Jw{a b:Nat}(d:a<18446744073709551616)(c:b<18446744073709551616):Jy a b=((a|||b:Nat):Int):=by
 unfold Jy;rw[show IntKind.bits .u64=64 from rfl,gm,gm,BitVec.toNat_or,rI,rI,dX (show a<2^64 from d),dX (show b<2^64 from c)]
 exact D5 (Nat.or_lt_two_pow (n:=64) d c)
theorem Jx{n a b:Nat}(c:b<2^n)(d:a*2^n+b<18446744073709551616):Jy ((a*2^n:Nat):Int) (b:Int)=((a*2^n+b:Nat):Int):=by
 rw[Jw (by omega) (by omega),kS a,Nat.two_pow_add_eq_or_of_lt c]
def SK(x:Nat):Nat:=x*2%18446744073709551616+x/9223372036854775808
def Jj:Nat→Nat→Nat
 |0,x=>x
 |n+1,x=>SK (Jj n x)
theorem aam{n:Nat}(s:n≤64){x a b:Nat}(p:b<2^(64-n))(j:a<2^n)(e:x=a*2^(64-n)+b):Jj n x=b*2^n+a:=by
 induction n generalizing a b with
 |zero=>
  have:a=0:=by simpa using j
  subst this;rw[e];simp[Jj]
 |succ n ih=>
  have g:(2:Nat)^(64-n)=2*2^(64-(n+1)):=by rw[show 64-n=(64-(n+1))+1 by omega,qb,kS]
  have m:(2:Nat)^(n+1)=2*2^n:=by rw[qb,kS]
  have f:(2:Nat)^(64-(n+1))*2^n=9223372036854775808:=by rw[←rR,show 64-(n+1)+n=63 by omega]
  have q:a%2<2:=ul _ (by omega);have h2:=Nat.div_add_mod a 2;have d:a/2<2^n:=by omega
  have k:a%2*2^(64-(n+1))+b<2^(64-n):=by
   rw[g];have:a%2*2^(64-(n+1))≤1*2^(64-(n+1)):=cB _ (by omega);omega
  have i:x=a/2*2^(64-n)+(a%2*2^(64-(n+1))+b):=by
   rw[e,g,←mz,←uD,←lh,kS (a/2) 2,h2]
  have:=ih (by omega) k d i;show SK (Jj n x)=_
  rw[this,lh,uD,f,m];unfold SK;have c:b*2^n+2^n≤2^(64-(n+1))*2^n:=by
   rw[←mg];exact cB _ p
  rw[f]at c;have o:b*(2*2^n)=2*(b*2^n):=by rw[Nat.mul_left_comm]
  rw[o];generalize b*2^n=B at c;generalize 2^n=N at d c;have:a%2=0∨a%2=1:=by omega
  rcases this with h|h<;>rw[h]at h2⊢<;>omega
theorem aal(n:Nat){x:Nat}(hx:x<18446744073709551616):Jj n x<18446744073709551616:=by
 induction n with
 |zero=>exact hx
 |succ n ih=>show SK _<_;unfold SK;omega
theorem ac2{n:Nat}(h:n<64):Ro (IntKind.wrap .u64 (n:Int)) 63=(n:Int):=by
 rw[D5 (by omega)];unfold Ro;have:∀n:Fin 64,(aq (IntKind.bits .u64) ((n.val:Nat):Int)&&&aq (IntKind.bits .u64) 63).toNat=n.val:=by decide
 rw[this ⟨n,h⟩];exact D5 (by omega)
theorem aak{n x:Nat}(c:n<64)(hx:x<18446744073709551616):Ji (x:Int) (n:Int)=((Jj n x:Nat):Int):=by
 unfold Ji;rw[ac2 c];rw[show((64:Int)-(n:Int))=((64-n:Nat):Int) by omega,D5 (by omega)]
 simp only[show IntKind.bits .u64=64 from rfl,aR,bN (vW c),bN (Nat.sub_le 64 n)]
 have a:(2:Nat)^(64-n)*2^n=18446744073709551616:=by rw[←rR,show 64-n+n=64 by omega]
 have hd:=Nat.div_add_mod x (2^(64-n));have hm:x%2^(64-n)<2^(64-n):=ul _ (Nat.two_pow_pos _);have d:x/2^(64-n)<2^n:=by
  rw[Nat.div_lt_iff_lt_mul (Nat.two_pow_pos _),kS,a];exact hx
 rw[kS]at hd;rw[aam (vW c) hm d hd.symm];rw[show((x:Int)*2^n)=((x*2^n:Nat):Int) by rw[q9,vr];rfl,UK]
 rw[show dD (x:Int) (2^(64-n))=((x/2^(64-n):Nat):Int) by rw[show((2:Int)^(64-n))=((2^(64-n):Nat):Int) by rw[vr];rfl];exact Int.ofNat_fdiv x _▸rfl]
 have b:x%2^(64-n)*2^n+2^n≤2^(64-n)*2^n:=by
  rw[←mg];exact cB _ hm
 rw[a]at b;have e:x*2^n%18446744073709551616=x%2^(64-n)*2^n:=by
  rw[←a,Nat.mul_mod_mul_right]
 rw[e];exact Jx d (by omega)
end Go.Proofs
namespace Go.Proofs
open Go Go.Lift
def Lk(s:ByteArray)(i:Nat):Nat:=if h:i<s.size then(s[i]'h).toNat else 0
def hv(s:ByteArray):Nat→Nat→Nat
 |_,0=>0
 |p,c+1=>hv s (p+1) c*256+Lk s p
theorem Zh(s:ByteArray)(i:Nat):Lk s i<256:=by
 unfold Lk;split
 ·exact sY _
 ·omega
theorem VI(s:ByteArray)(i:Nat):Rl s i=(Lk s i:Int):=by
 unfold Rl Lk;by_cases h:i<s.size
 ·rw[dif_pos h,getElem?_pos s i h]
 ·rw[dif_neg h,getElem?_neg s i h];rfl
theorem Km{s:ByteArray}{i:Nat}(h:s.size≤i):Lk s i=0:=dif_neg (by omega)
theorem Nf(s:ByteArray):∀(c p:Nat),hv s p c<256^c
 |0,_=>by show(0:Nat)<1;omega
 |c+1,p=>by
  have:=Nf s c (p+1);have:=Zh s p;rw[qb];show hv s (p+1) c*256+Lk s p<_
  omega
theorem Vs{s:ByteArray}:∀{c p:Nat},s.size≤p→hv s p c=0
 |0,_,_=>rfl
 |c+1,p,h=>by
  show hv s (p+1) c*256+Lk s p=0
  rw[Vs (by omega),Km h]
theorem OA{s:ByteArray}{d:Nat}:∀{c p:Nat},s.size≤p+c→hv s p (c+d)=hv s p c
 |0,p,h=>by rw[Vs (by omega)];rfl
 |c+1,p,h=>by
  rw[show c+1+d=(c+d)+1 by omega]
  show hv s (p+1) (c+d)*256+_=hv s (p+1) c*256+_
  rw[OA (by omega)]
theorem aaZ{s:ByteArray}{a b i:Nat}(c:b≤s.size):Lk (s.extract a b) i=if a+i<b then Lk s (a+i)else 0:=by
 unfold Lk;have e:(s.extract a b).size=b-a:=by rw[gC];omega
 by_cases h:a+i<b
 ·rw[if_pos h,dif_pos (by omega),dif_pos (by omega),ByteArray.getElem_extract]
 ·rw[if_neg h,dif_neg (by omega)]
theorem Tw{s:ByteArray}{a:Nat}:∀{c p b:Nat},b≤s.size→(b=s.size∨a+p+c≤b)→hv (s.extract a b) p c=hv s (a+p) c
 |0,_,_,_,_=>rfl
 |c+1,p,b,hb,h=>by
  show hv _ (p+1) c*256+_=hv s (a+p+1) c*256+_
  rw[Tw hb (h.imp id fun h=>by omega),aaZ hb,mz]
  congr 1
  split
  ·rfl
  ·exact(Km (by omega)).symm
theorem aa6{s:ByteArray}:∀{k c:Nat},k+c≤8→wj s k ((hv s k c*2^(8*k):Nat):Int)=((hv s 0 (k+c):Nat):Int)
 |0,c,_=>by
  show((hv s 0 c*2^(8*0):Nat):Int)=_
  rw[aQ];simp
 |k+1,c,h=>by
  have j:=Zh s k;have hc:=Nf s c (k+1);have f:(2:Nat)^(8*(k+1))=256*2^(8*k):=by rw[show 8*(k+1)=8+8*k by omega,rR]
  have d:256^c*2^(8*(k+1))≤18446744073709551616:=by
   rw[show(256:Nat)=2^8 from rfl,←Nat.pow_mul,←rR]
   exact gf (by omega) (show 8*c+8*(k+1)≤64 by omega)
  have m:hv s (k+1) c*2^(8*(k+1))+2^(8*(k+1))≤18446744073709551616:=by
   rw[←mg];exact bh (cB _ hc) d
  have g:Lk s k*2^(8*k)<2^(8*(k+1)):=by rw[f];exact Nat.mul_lt_mul_of_pos_right j (Nat.two_pow_pos _)
  have a:hv s (k+1) c*2^(8*(k+1))+Lk s k*2^(8*k)=hv s k (c+1)*2^(8*k):=by
   rw[f,←uD,←lh];rfl
  have b:(if k=0 then IntKind.wrap .u64 (Rl s 0)else abb (Rl s k) ((8*k:Nat):Int))=((Lk s k*2^(8*k):Nat):Int):=by
   split
   ·rename_i e
    subst e;rw[VI,IntKind.wrap_u64];simp;omega
   ·unfold abb
    rw[VI,aR,show IntKind.bits .u64=64 from rfl,bN (by omega)]
    have i:IntKind.wrap .u64 ((Lk s k:Nat):Int)=((Lk s k:Nat):Int):=by rw[IntKind.wrap_u64];omega
    rw[i,show((Lk s k:Int)*2^(8*k))=((Lk s k*2^(8*k):Nat):Int) by rw[q9,vr];rfl,IntKind.wrap_u64]
    omega
  show wj s k (Jy _ (if k=0 then _ else _))=_
  rw[b,Jx g (by omega),a,aa6 (by omega),show k+(c+1)=k+1+c by omega]
theorem PP{s:ByteArray}(h:s.size≤8):Co s=((hv s 0 8:Nat):Int):=by
 have:=aa6 (s:=s) (k:=s.size) (c:=0) (by omega);rw[show hv s s.size 0=0 from rfl,Nat.zero_mul]at this
 unfold Co;rw[show((0:Nat):Int)=0 from rfl]at this
 rw[this,eN];have e:=OA (s:=s) (d:=8-s.size) (c:=s.size) (p:=0) (by omega);rw[show s.size+(8-s.size)=8 by omega]at e
 rw[e]
def sI:Nat→ByteArray→Nat→Q4→Nat×Q4
 |0,_,a,q=>(a,q)
 |n+1,s,a,q=>if a+8≤s.size then sI n s (a+8) (vx (hv s a 8:Nat) q)else(a,q)
theorem P0:∀{n:Nat} {s:ByteArray} {a:Nat} {q:Q4},a≤s.size→GW n (s.extract a s.size) q=(s.extract (sI n s a q).1 s.size,(sI n s a q).2)
 |0,_,_,_,_=>rfl
 |n+1,s,a,q,h=>by
  have e:(s.extract a s.size).size=s.size-a:=by rw[gC];omega
  show(if 8≤(s.extract a s.size).size then _ else _)=_
  rw[e];by_cases hc:a+8≤s.size
  ·rw[if_pos (show 8≤s.size-a by omega),ByteArray.extract_extract,ByteArray.extract_extract]
   rw[show sI (n+1) s a q=sI n s (a+8) (vx (hv s a 8:Nat) q)from if_pos hc]
   rw[show min (a+(s.size-a)) s.size=s.size by omega,show min (a+8) s.size=a+8 by omega,eN]
   rw[PP (by rw[gC];omega),Tw (by omega) (.inr (by omega)),eN];exact P0 hc
  ·rw[if_neg (show ¬8≤s.size-a by omega),show sI (n+1) s a q=(a,q)from if_neg hc]
theorem Nt:∀{n:Nat} {s:ByteArray} {a:Nat} {q:Q4},s.size≤a+n→a≤s.size→s.size<(sI n s a q).1+8∧(sI n s a q).1≤s.size
 |0,_,_,_,h,h'=>⟨by show _<_+8;simp only[sI];omega,h'⟩
 |n+1,s,a,q,h,h'=>by
  by_cases hc:a+8≤s.size
  ·rw[show sI (n+1) s a q=sI n s (a+8) (vx (hv s a 8:Nat) q)from if_pos hc]
   exact Nt (by omega) hc
  ·rw[show sI (n+1) s a q=(a,q)from if_neg hc]
   exact⟨by simp only;omega,h'⟩
theorem Z8{k0 k1:Int}{s:ByteArray}:Su k0 k1 s=(let g:=sI s.size s 0 (dY k0 8317987319222330741,dY k1 7237128888997146477,dY k0 7816392313619706465,dY k1 8387220255154660723)
  aaP (vx ((hv s g.1 8+s.size%256*72057594037927936:Nat):Int) g.2)):=by
 unfold Su acB;generalize (dY k0 8317987319222330741,dY k1 7237128888997146477,dY k0 7816392313619706465,dY k1 8387220255154660723)=q;have e:=P0 (n:=s.size) (s:=s) (a:=0) (q:=q) (aS _);rw[ByteArray.extract_zero_size]at e;rw[e];have⟨j,h2⟩:=Nt (n:=s.size) (s:=s) (a:=0) (q:=q) (by omega) (aS _);generalize sI s.size s 0 q=g at j h2;obtain⟨a,r⟩:=g;simp only at j h2⊢
 rw[PP (by rw[gC];omega),Tw (aj _) (.inl rfl),eN];congr 2
 have hc:hv s a 8<2^56:=by
  have e:=OA (s:=s) (d:=1) (c:=7) (p:=a) (by omega);rw[show(7+1:Nat)=8 from rfl]at e
  rw[e];exact Nf s 7 a
 have f:abb (s.size:Int) 56=((s.size%256*2^56:Nat):Int):=by
  unfold abb;rw[show min ((56:Int)).toNat (IntKind.bits .u64)=56 from rfl,UK]
  rw[show(((s.size%18446744073709551616:Nat):Int)*2^56)=((s.size%18446744073709551616*72057594037927936:Nat):Int) by rw[q9];rfl,UK]
  omega
 have hm:s.size%256*2^56+hv s a 8<18446744073709551616:=by omega
 have i:∀{a b:Nat},a<18446744073709551616→b<18446744073709551616→Jy a b=Jy b a:=fun k m=>by rw[Jw k m,Jw m k,Nat.or_comm]
 rw[f,i (Nat.lt_trans hc (by decide)) (hE (Nat.le_add_right _ _) hm),Jx hc hm,Nat.add_comm]
end Go.Proofs
namespace Go.Proofs
open Go Go.Lift
abbrev Rg(x:Int):Prop:=0≤x∧x<18446744073709551616
theorem aaj(x n:Int):Rg (Ji x n):=FP _
theorem xW(x n:Int):Rg (dY x n):=FP _
theorem Zv(x n:Int):Rg (Zw x n):=FP _
theorem BC{x:Int}(hx:Rg x){n:Nat}(g:n<64){h:ad}{K:Int→ad→Prop}(d:K (Ji x n) h):HC PG pt [.int .u64 x,.int .i64 (n:Int)] [.c (.int .u64)] K h:=by
 obtain⟨X,rfl⟩:=rS hx.1;have c:X<18446744073709551616:=by have:=hx.2;omega
 rw[aak g c]at d;refine Uq X n ?_;unfold K7;refine LoopP.ghost (fun(i:Nat) (t:Int×Int) h'=>t=(((Jj i X:Nat):Int),(i:Int))∧i≤n∧h'=h) (fun i=>n-i) 0 ⟨rfl,aS _,rfl⟩ ?_
 rintro I i t h' ⟨rfl,hi,rfl⟩ f;refine ax (fun a=>?_) fun b=>?_
 ·have a:i<n:=by have:(i:Int)<(n:Int):=a;omega
  have j:=aal i c;refine⟨by decide,?_⟩;have e:IntKind.wrap .u64 (IntKind.wrap .u64 (((Jj i X:Nat):Int)*2)+IntKind.wrap .u64 (gj ((Jj i X:Nat):Int) 9223372036854775808))=((Jj (i+1) X:Nat):Int):=by
   show _=((SK (Jj i X):Nat):Int)
   unfold SK;rw[dB (by omega),IntKind.wrap_u64,IntKind.wrap_u64,IntKind.wrap_u64];omega
  simp only[Bd];rw[e,db a (by omega)];exact f (i+1) _ _ ⟨rfl,a,rfl⟩ (by omega)
 ·obtain rfl:i=n:=by have:¬(i:Int)<(n:Int):=b;omega
  exact d
theorem yv{s:Q4}(e:Rg s.2.1)(g:Rg s.2.2.2){h:ad}{K:Q4→ad→Prop}(i:∀h',Upd No h h'→K (ng s) h'):HC PG m8 [.agg #[.int .u64 s.1,.int .u64 s.2.1,.int .u64 s.2.2.1,.int .u64 s.2.2.2]] [.agg [.int .u64,.int .u64,.int .u64,.int .u64]] K h:=by
 refine RC s ?_;unfold HD bE bX af eW od VO VR Yz;refine aW fun d b1 k1=>aW fun h2 b2 c=>?_
 have a:=c.get0 b1;have j:=k1.size;refine⟨by decide,_,vc a 0,by decide,_,vc a 1,by decide,_,vc a 2,by decide,_,vc a 3,?_⟩
 refine BC (n:=13) e (by omega) (BC (n:=32) (Zv _ _) (by omega) (BC (n:=16) g (by omega) (BC (n:=21) (xW _ _) (by omega) (BC (n:=17) (xW _ _) (by omega) (BC (n:=32) (Zv _ _) (by omega) ?_)))));refine dH b2 (by rfl) fun b b3 f=>?_
 refine⟨_,vc b3 0,_,vc b3 1,_,vc b3 2,_,vc b3 3,?_⟩;exact i b ((k1.tr c).own f (by omega))
abbrev Rq(q:Q4):Prop:=Rg q.1∧Rg q.2.1∧Rg q.2.2.1∧Rg q.2.2.2
theorem AH(s:Q4):Rq (ng s):=⟨Zv _ _,xW _ _,aaj _ _,xW _ _⟩
theorem XW(m:Int)(s:Q4):Rq (vx m s):=⟨xW _ _,(AH _).2⟩
theorem ab8{s:ByteArray}{i:Nat}(h:i<s.size):∃b:UInt8,s[i]? =some b∧Lk s i=b.toNat:=⟨s[i],getElem?_pos s i h,by unfold Lk;rw[dif_pos h]⟩
theorem Y5{n:Nat}{s:ByteArray}{a:Nat}{q:Q4}(h:s.size≤a+n)(hc:a+8≤s.size):∃m,sI n s a q=sI m s (a+8) (vx (hv s a 8:Nat) q)∧s.size≤a+8+m:=by
 cases n with
 |zero=>omega
 |succ n=>exact⟨n,if_pos hc,by omega⟩
theorem TH{n:Nat}{s:ByteArray}{a:Nat}{q:Q4}(hc:s.size<a+8):sI n s a q=(a,q):=by
 cases n with
 |zero=>rfl
 |succ n=>exact if_neg (by omega)
theorem aao{k0 k1:Int}{s:ByteArray}(hs:s.size≤1000000000){h:ad}{K:Int→ad→Prop}(k:∀h',Upd No h h'→K (Su k0 k1 s) h'):HC PG Gk [.int .u64 k0,.int .u64 k1,.string s] [.c (.int .u64)] K h:=by
 rw[Z8]at k;refine Xn k0 k1 s ?_;unfold NO bE bX af eW nv dG VO VR abz Wz Yz;simp only[Bd,show((0:Int)).toNat*1=0 from rfl,show((1:Int)).toNat*1=1 from rfl,show((2:Int)).toNat*1=2 from rfl,show((3:Int)).toNat*1=3 from rfl]
 have eq0:∃D:Q4,D=(dY k0 8317987319222330741,dY k1 7237128888997146477,dY k0 7816392313619706465,dY k1 8387220255154660723):=⟨_,rfl⟩;obtain⟨D,T⟩:=eq0;rw[←T]at k;have Y:Rq D:=by rw[T];exact⟨xW _ _,xW _ _,xW _ _,xW _ _⟩
 refine aW fun h1 b1 k1=>?_
 refine dH b1 (by rfl) fun h2 b2 u2=>?_
 have b2':h2[h.size]? =some (.cells (q4 D) zi (0,0)):=by rw[T];exact b2
 clear b2 T;have hex:∃G:Nat×Q4,G=sI s.size s 0 D:=⟨_,rfl⟩;obtain⟨G,eG⟩:=hex;rw[←eG]at k;simp only at k;refine LoopP.ghost (fun(g:Nat×Q4) (t:Int) h'=>t=(g.1:Int)∧h'[h.size]? =some (.cells (q4 g.2) zi (0,0))∧Upd No h h'∧Rq g.2∧
  ((∃n,sI n s g.1 g.2=G∧s.size≤g.1+n∧g.1≤s.size)∨(s.size<g.1∧g.2=vx ((hv s G.1 8+s.size%256*72057594037927936:Nat):Int) G.2))) (fun g=>s.size+1-g.1) (0,D) ⟨rfl,b2',k1.own u2 (aj _),Y,.inl ⟨s.size,eG.symm,by omega,aS _⟩⟩ ?_
 rintro I ⟨a,q⟩ t h' ⟨rfl,E,hu,V,w⟩ hI;simp only at E V w;refine ax (fun hle=>?_) fun hgt=>?_
 ·have hle:a≤s.size:=by omega
  obtain⟨n,y,hn,_⟩:=w.resolve_right fun h=>by omega
  refine LoopP.ghost (fun(j:Nat) (t:Int×Int) x=>t=(((hv s (a+(8-j)) j:Nat):Int),(7:Int)-(j:Int))∧j≤8∧x=h') (fun j=>8-j) 0 ⟨rfl,by omega,rfl⟩ ?_
  rintro I2 j t x ⟨rfl,hj,rfl⟩ hI2;refine ax (fun hge=>?_) fun X=>?_
  ·have hj7:j≤7:=by have:(7:Int)-(j:Int)≥0:=hge;omega
   have ei:IntKind.wrap .i64 ((a:Int)+(7-(j:Int)))=((a+(7-j):Nat):Int):=by rw[dI (by omega)];omega
   have C:=Nf s (j+1) (a+(8-(j+1)));have hp:256^(j+1)≤256^8:=gf (by omega) (by omega);have B:hv s (a+(8-(j+1))) (j+1)=hv s (a+(8-j)) j*256+Lk s (a+(7-j)):=by
    rw[show a+(8-(j+1))=a+(7-j) by omega]
    show hv s (a+(7-j)+1) j*256+_=_
    rw[show a+(7-j)+1=a+(8-j) by omega]
   rw[B]at C;refine Join.intro (fun t J=>t=((hv s (a+(8-(j+1))) (j+1):Nat):Int)∧J=x) (fun R O=>?_) ?_
   ·simp only
    rw[ei];refine ax (fun u=>?_) fun H=>?_
    ·have u:a+(7-j)<s.size:=by omega
     obtain⟨b,hb1,N⟩:=ab8 u;refine⟨b,by omega,by rw[aR];exact hb1,O _ _ ⟨?_,rfl⟩⟩
     rw[B,N,IntKind.wrap_u64,IntKind.wrap_u64,IntKind.wrap_u64];rw[N]at C;omega
    ·have hz:Lk s (a+(7-j))=0:=Km (by omega)
     refine O _ _ ⟨?_,rfl⟩;rw[hz]at C;rw[B,hz,IntKind.wrap_u64];omega
   ·rintro t J ⟨rfl,rfl⟩
    simp only;have e7:IntKind.wrap .i64 ((7:Int)-(j:Int)-1)=(7:Int)-((j+1:Nat):Int):=by rw[dI (by omega)];omega
    rw[e7];exact hI2 (j+1) _ _ ⟨rfl,by omega,rfl⟩ (by omega)
  ·obtain rfl:j=8:=by have:¬(7:Int)-(j:Int)≥0:=X;omega
   simp only[Nat.sub_self,eN];have h8:=Nf s 8 a;have e8:IntKind.wrap .i64 ((a:Int)+8)=((a+8:Nat):Int):=by rw[dI (by omega)];omega
   rw[e8];refine Join.intro (fun(t:Int) J=>J=x∧∃m:Nat,t=(m:Int)∧((a+8≤s.size∧m=hv s a 8)∨(s.size<a+8∧m=hv s a 8+s.size%256*72057594037927936))) (fun R O=>?_) ?_
   ·refine ax (fun u=>?_) fun H=>?_
    ·have u:s.size<a+8:=by omega
     have hc:hv s a 8<2^56:=by
      have e:=OA (s:=s) (d:=1) (c:=7) (p:=a) (by omega);rw[show(7+1:Nat)=8 from rfl]at e
      rw[e];exact Nf s 7 a
     refine⟨by decide,O _ _ ⟨rfl,_,?_,.inr ⟨u,rfl⟩⟩⟩;rw[pE (by omega),IntKind.wrap_u64,IntKind.wrap_u64,IntKind.wrap_u64];omega
    ·exact O _ _ ⟨rfl,_,rfl,.inl ⟨by omega,rfl⟩⟩
   ·rintro t J ⟨rfl,m,rfl,hm⟩
    refine⟨by decide,_,vc E 3,by decide,?_⟩
    refine vI (i:=3) (c':=q4 (q.1,q.2.1,q.2.2.1,dY q.2.2.2 (m:Int))) E (show 3<4 by decide) rfl fun h4 o u4=>?_
    refine⟨_,vc o 0,_,vc o 1,_,vc o 2,_,vc o 3,?_⟩;refine yv (s:=(q.1,q.2.1,q.2.2.1,dY q.2.2.2 (m:Int))) V.2.1 (xW _ _) fun h5 S=>?_
    have f:=AH (q.1,q.2.1,q.2.2.1,dY q.2.2.2 (m:Int));have et:vx (m:Int) q=(dY (ng (ng (q.1,q.2.1,q.2.2.1,dY q.2.2.2 (m:Int)))).1 m,(ng (ng (q.1,q.2.1,q.2.2.1,dY q.2.2.2 (m:Int)))).2):=rfl;refine yv f.2.1 f.2.2.2 fun h6 F=>?_
    obtain⟨r,U⟩:∃r,r=ng (ng (q.1,q.2.1,q.2.2.1,dY q.2.2.2 (m:Int))):=⟨_,rfl⟩;rw[←U]at et⊢;have b6:=F.get0 (S.get0 o);have z6:=bC b6;refine dH (vs:=(q4 r).toList) b6 rfl fun h7 b7 u7=>?_
    have M:h7[h.size]? =some (.cells (q4 r) zi (0,0)):=b7;refine⟨by decide,_,vc M 0,by decide,?_⟩
    refine vI (i:=0) (c':=q4 (dY r.1 m,r.2)) M (show 0<4 by decide) rfl fun Z W u8=>?_
    have uu:Upd No h Z:=((((hu.own u4 (aj _)).tr S).tr F).own u7 (aj _)).own u8 (aj _);rw[←et]at W;refine hI (a+8,vx m q) _ _ ⟨rfl,W,uu,XW _ _,?_⟩ (by simp only;omega);rcases hm with⟨hc,rfl⟩|⟨hc,rfl⟩
    ·obtain⟨n',hd,hn'⟩:=Y5 hn hc
     exact .inl ⟨n',hd.symm.trans y,hn',hc⟩
    ·refine .inr ⟨by simp only;omega,?_⟩
     have:=TH (n:=n) (q:=q) hc;rw[y]at this;rw[this]
 ·obtain⟨_,eq⟩:=w.resolve_left fun⟨_,_,_,h⟩=>by omega
  rw[←eq]at k;clear eq w;refine⟨by decide,_,vc E 2,by decide,?_⟩
  refine vI (i:=2) (c':=q4 (q.1,q.2.1,dY q.2.2.1 255,q.2.2.2)) E (show 2<4 by decide) rfl fun h4 o u4=>?_
  refine⟨_,vc o 0,_,vc o 1,_,vc o 2,_,vc o 3,?_⟩;have ef:aaP q=ab2 (ng (ng (ng (ng (q.1,q.2.1,dY q.2.2.1 255,q.2.2.2))))):=rfl;rw[ef]at k;refine yv (s:=(q.1,q.2.1,dY q.2.2.1 255,q.2.2.2)) V.2.1 V.2.2.2 fun h5 S=>?_
  have f:=AH (q.1,q.2.1,dY q.2.2.1 255,q.2.2.2);obtain⟨r1,Q⟩:∃r,r=ng (q.1,q.2.1,dY q.2.2.1 255,q.2.2.2):=⟨_,rfl⟩;rw[←Q]at k f⊢;clear Q;refine yv f.2.1 f.2.2.2 fun h6 F=>?_
  have A:=AH r1;obtain⟨r2,P⟩:∃r,r=ng r1:=⟨_,rfl⟩;rw[←P]at k A⊢;clear P;refine yv A.2.1 A.2.2.2 fun h7 k7=>?_
  have z:=AH r2;obtain⟨r3,L⟩:∃r,r=ng r2:=⟨_,rfl⟩;rw[←L]at k z⊢;clear L;refine yv z.2.1 z.2.2.2 fun h8 k8=>?_
  obtain⟨r,U⟩:∃r,r=ng r3:=⟨_,rfl⟩;rw[←U]at k⊢;clear U;have W:=k8.get0 (k7.get0 (F.get0 (S.get0 o)));refine dH (vs:=(q4 r).toList) W rfl fun h9 b9 u9=>?_
  have v:h9[h.size]? =some (.cells (q4 r) zi (0,0)):=b9;refine⟨by decide,_,vc v 0,by decide,_,vc v 1,by decide,_,vc v 2,by decide,_,vc v 3,?_⟩
  exact k h9 ((((((hu.own u4 (aj _)).tr S).tr F).tr k7).tr k8).own u9 (aj _))
theorem Yq{x:Hs}{s:ByteArray}(c:s.size≤1000000000){h:ad}{K:Int→ad→Prop}(b:∀h',Upd No h h'→K (eP x s) h'):HC PG DB [.agg #[.int .u64 x.k0,.int .u64 x.k1,.int .u64 x.mask],.string s] [.c (.int .u64)] K h:=by
 refine Ul (x.k0,x.k1,x.mask) s ?_;unfold K3 af BK abw;refine aW fun d b1 k1=>⟨_,vc b1 0,_,vc b1 1,_,vc b1 2,aao c fun h2 a=>⟨vc (a.get0 b1) 2,?_⟩⟩
 exact b h2 (k1.tr a)
theorem abM{hv:Int}(f:0≤hv∧hv<18446744073709551616){lev:Nat}(m:lev<13){h:ad}{K:Int→ad→Prop}(c:K (((hv.toNat>>>(5*lev))%32:Nat):Int) h):HC PG EF [.int .u64 hv,.int .i64 lev] [.c (.int .i64)] K h:=by
 obtain⟨n,rfl⟩:=rS f.1;rw[aR]at c;refine ZD n lev ?_;unfold RR;refine Join.plain (ax (fun h=>by omega) fun _=>?_)
 rw[decide_eq_false (by omega)];refine ag.2 ?_;refine LoopP.ghost (fun(i:Nat) (t:Int×Int) h'=>t=(((n>>>(5*i):Nat):Int),(i:Int))∧i≤lev∧h'=h) (fun i=>lev-i) 0 ⟨rfl,aS _,rfl⟩ ?_
 rintro I i t h' ⟨rfl,hi,rfl⟩ j;refine ax (fun a=>?_) fun b=>?_
 ·have a:i<lev:=by have:(i:Int)<(lev:Int):=a;omega
  have d:n>>>(5*i)≤n:=Nat.shiftRight_le _ _;have e:n>>>(5*(i+1))=n>>>(5*i)/32:=by rw[Nat.mul_add,Nat.shiftRight_add,cL _ (5*1)]
  have k:n<18446744073709551616:=by have:=f.2;omega
  have g:IntKind.wrap .u64 (gj ((n>>>(5*i):Nat):Int) 32)=((n>>>(5*(i+1)):Nat):Int):=by
   rw[e];generalize n>>>(5*i)=y at d;rw[dB (by omega),IntKind.wrap_u64];omega
  refine⟨by decide,?_⟩;simp only;rw[g,db a (by omega)];exact j (i+1) _ _ ⟨rfl,a,rfl⟩ (by omega)
 ·obtain rfl:i=lev:=by have:¬(i:Int)<(lev:Int):=b;omega
  refine⟨by decide,?_⟩;simp only;generalize n>>>(5*i)=y at c;rw[pE (by omega),dI (by omega)];exact_mod_cast c
theorem acE{x:Hs}{k:ByteArray}{lev:Nat}(b:lev<13){h:ad}{K:Int→ad→Prop}(a:K (ck x lev k:Int) h):HC PG EF [.int .u64 (eP x k),.int .i64 lev] [.c (.int .i64)] K h:=abM (Hh x k) b a
end Go.Proofs
namespace Go.Proofs
theorem YH:∀{n x:Nat},x<2^n→0<x→∃c,c<n∧x.testBit c=true∧∀j,j<c→x.testBit j=false
 |0,x,h,h'=>by simp at h;omega
 |n+1,x,h,h'=>by
  by_cases e:x%2=1
  ·exact⟨0,by omega,by rw[mS];simpa using e,fun j a=>absurd a (Nat.not_lt_zero _)⟩
  ·obtain⟨c,d,h2,b⟩:=YH (n:=n) (x:=x/2) (by rw[qb]at h;omega) (by omega)
   refine⟨c+1,by omega,by rw[jI];exact h2,fun j a=>?_⟩
   cases j with
   |zero=>rw[mS];simpa using e
   |succ j=>rw[jI];exact b j (by omega)
theorem Jr:∀{c x:Nat},x.testBit c=true→(∀j,j<c→x.testBit j=false)→∀i,(x-1).testBit i=if i<c then true else if i=c then false else x.testBit i
 |0,x,h,_,i=>by
  have h:x%2=1:=by rw[mS]at h;simpa using h
  cases i with
  |zero=>rw[mS,if_neg (by omega),if_pos rfl];simp;omega
  |succ i=>rw[jI,jI,if_neg (by omega),if_neg (by omega)];congr 1;omega
 |c+1,x,h,hl,i=>by
  have a:=hl 0 (by omega);rw[mS]at a;have f:¬x%2=1:=by simpa using a
  have a:x%2=0:=by omega
  rw[jI]at h;have b:0<x/2:=by
   rcases cF (x/2)with e|e
   ·rw[e,ij]at h;cases h
   ·exact e
  cases i with
  |zero=>rw[mS,if_pos (by omega)];simp;omega
  |succ i=>
   have:=Jr (x:=x/2) h (fun j d=>by have:=hl (j+1) (by omega);rwa [jI]at this) i
   rw[jI,jI,show(x-1)/2=x/2-1 by omega,this]
   simp only[Nat.add_lt_add_iff_right,Nat.add_right_cancel_iff]
theorem aaD{c x:Nat}(h:x.testBit c=true)(b:∀j,j<c→x.testBit j=false)(hc:c<32)(hx:x<4294967296):x&&&(4294967296-x)=2^c:=by
 have d:0<x:=by
  rcases cF x with e|e
  ·rw[e,ij]at h;cases h
  ·exact e
 refine jV fun i=>?_
 have e:4294967296-x=2^32-((x-1)+1):=by omega
 rw[kG,e,Nat.testBit_two_pow_sub_succ (by omega),Jr h b,Nat.testBit_two_pow];by_cases a:i<c
 ·rw[if_pos a,b i a];simp;omega
 ·rw[if_neg a]
  by_cases h2:i=c
  ·subst h2;simp[h,hc]
  ·rw[if_neg h2]
   cases x.testBit i<;>simp<;>omega
theorem W7{c x:Nat}(h:x.testBit c=true)(b:∀j,j<c→x.testBit j=false)(i:Nat):(x&&&(x-1)).testBit i=(x.testBit i&&decide (c<i)):=by
 rw[kG,Jr h b];by_cases a:i<c
 ·rw[if_pos a,b i a];rfl
 ·rw[if_neg a]
  by_cases h2:i=c
  ·subst h2;simp
  ·rw[if_neg h2]
   have:c<i:=by omega
   simp[this]
end Go.Proofs
namespace Go.Proofs
open Go Go.Lift
abbrev tzL:List Nat:= [0,1,28,2,29,14,24,3,30,22,20,15,25,17,4,8,31,27,13,23,21,19,16,7,26,12,18,6,11,5,10,9]
def Tab(h:ad):Prop:=∀i,i<32→aO h ⟨0,i,none⟩=some (.int .u8 ((tzL.getD i 0:Nat):Int))
theorem Tab.upd{M:Nat→Prop}{h h':ad}(t:Tab h)(k:Upd M h h')(hm:¬M 0):Tab h':=fun i hi=>k.cell (t i hi) hm
theorem abA:∀c:Fin 32,dD (IntKind.wrap .u32 (IntKind.wrap .u32 ((2^c.val:Nat):Int)*125613361)) (2^(min (27:Int).toNat (IntKind.bits .u32)))=((2^c.val*125613361%4294967296/134217728:Nat):Int)∧2^c.val*125613361%4294967296/134217728<32∧tzL.getD (2^c.val*125613361%4294967296/134217728) 0=c.val:=by decide+kernel
theorem Zs{a b:Nat}(d:a<4294967296)(c:b<4294967296):(aq (IntKind.bits .u32) (a:Int)&&&aq (IntKind.bits .u32) (b:Int)).toNat=a&&&b:=by
 rw[show IntKind.bits .u32=32 from rfl,gm,gm,uo,rI,rI,dX (show a<2^32 from d),dX (show b<2^32 from c)]
theorem acw{h:ad}(tb:Tab h){x c:Nat}(hx:x<4294967296)(hc:c<32)(a:x.testBit c=true)(k:∀j,j<c→x.testBit j=false){K:Int→ad→Prop}(i:K (c:Int) h):HC PG kR [.int .u32 (x:Int)] [.c (.int .i64)] K h:=by
 refine vU x ?_;unfold oN bE bX;have m:0<x:=by
  rcases cF x with e|e
  ·rw[e,ij]at a;cases a
  ·exact e
 refine CondP.intro (fun e=>?_) fun _=>?_
 ·have e:(x:Int)=0:=by simpa using e
  omega
 have g:IntKind.wrap .u32 (0-(x:Int))=((4294967296-x:Nat):Int):=by rw[IntKind.wrap_u32];omega
 rw[g,Zs hx (by omega),aaD a k hc hx];obtain⟨d,b,f⟩:=abA ⟨c,hc⟩;simp only at d b f;simp only[Bd];rw[d];refine⟨by decide,⟨by omega,by omega⟩,((tzL.getD (2^c*125613361%4294967296/134217728) 0:Nat):Int),?_,?_⟩
 ·rw[Nat.mul_one,cp,aQ,aR];exact tb _ b
 ·rw[f,dI (by omega)];exact i
def dk(d k:Nat):Nat:=(d>>>k)<<<k
theorem Gm(d k i:Nat):(dk d k).testBit i=(decide (k≤i)&&d.testBit i):=by
 unfold dk;rw[Nat.testBit_shiftLeft];by_cases h:k≤i
 ·rw[decide_eq_true (show i≥k from h),Nat.testBit_shiftRight];congr 2;omega
 ·rw[decide_eq_false (show ¬i≥k from h)];rfl
theorem abm(d k:Nat):dk d k≤d:=by
 unfold dk;rw[Nat.shiftLeft_eq,cL];exact Nat.div_mul_le_self ..
theorem aaS(d:Nat):dk d 0=d:=jV fun i=>by rw[Gm];simp
theorem MN{d:Nat}(hd:d<4294967296){p:Nat}{h:ad}(v:h[p]? =some (.cells #[.int .u32 (d:Int)] zh (0,0)))
  {BODY:Int→(Option Ex→ad→Prop)→ad→Prop} {N:ad→Prop} {X:Nat→ad→Prop} {R:ad→Prop} (Inv:Nat→ad→Prop) (M:Nat→Prop)
  (O:∀k a,Inv k a→Tab a) (h0:Inv 0 h) (f:∀k a h2,Inv k a→h.size≤a.size→Upd (fun b=>b=p∨h.size≤b) a h2→Inv k h2)
  (hM:∀b,M b→b≠p∧b<h.size)
  (step:∀k c a (KK:Option Ex→ad→Prop),Inv k a→k≤c→c<32→d.testBit c=true→(∀j,k≤j→j<c→d.testBit j=false)→(∀h2,Inv (c+1) h2→Upd M a h2→KK none h2)→BODY (c:Int) KK a)
  (S:∀k a,Inv k a→(∀j,k≤j→j<32→d.testBit j=false)→a[h.size]? =some (.deferred (some []))→N a):
  RangeP PG (.func (.func lA) #[] #[.pointer (some ⟨p,0,none⟩)]) [.c (.int .i64)] h
   (fun MM bz (x:Int) k F=>(F[(cx h+1)]? =some MM∧At (Array.setIfInBounds F (cx h+1) bz) (fun Q=>BODY x k Q))) N X R:=by
 refine⟨fun lo hlo q=>?_⟩
 refine⟨lA,#[],#[.pointer (some ⟨p,0,none⟩)],rfl,?_⟩;have zb:=bC v;have k1:Upd No h ((h.push (.deferred (some []))).push (lo .ready none)):=(Upd.push No _ _).tr (Upd.push No _ _);have U:((h.push (.deferred (some []))).push (lo .ready none))[h.size+1]? =some (lo .ready none):=by
  have:=AJ (h.push (.deferred (some []))) (lo .ready none);rwa [Array.size_push]at this
 have Z:((h.push (.deferred (some []))).push (lo .ready none))[h.size]? =some (.deferred (some [])):=(Upd.push No _ _).get0 (AJ h _);have b1:=k1.get0 v;have i1:=f 0 _ _ h0 (aj _) k1.wide;have z1:=bC U;generalize (h.push (.deferred (some []))).push (lo .ready none)=a at k1 U Z b1 i1 z1;refine Ci (.func (.yield (h.size+1)) #[] #[]) ⟨p,0,none⟩ ?_;unfold rG
 refine LoopP.ghost (fun(k:Nat) (_:Unit) h'=>Inv k h'∧h'[p]? =some (.cells #[.int .u32 ((dk d k:Nat):Int)] zh (0,0))∧h'[h.size]? =some (.deferred (some []))∧h'[h.size+1]? =some (lo .ready none)∧k≤32) (fun k=>33-k) 0 ⟨i1,by rw[aaS];exact b1,Z,U,aS _⟩ ?_
 rintro I k ⟨⟩ h' ⟨hi,u,E,m,hk32⟩ hI;have zz:=bC m;have A:=hE (abm d k) hd;refine⟨_,bF u,CondP.intro (fun e=>?_) fun e=>?_⟩
 ·have K:0<dk d k:=by
   have:((dk d k:Nat):Int)≠0:=by simpa using e
   omega
  obtain⟨c,hc,w,B⟩:=YH (n:=32) A K;have y:=w;rw[Gm,Bool.and_eq_true,decide_eq_true_iff]at y;refine⟨_,bF u,acw (O k _ hi) A hc w B ?_⟩;refine q (c:Int) h' _ m ⟨m,?_⟩;have G:Upd (· =h.size+1) h' (h'.setIfInBounds (h.size+1) (lo .busy none)):=Upd.set _ _ rfl
  have lb:=jZ (o:=lo .busy none) m;have sb:=G.size;refine bM ?_;generalize h'.setIfInBounds (h.size+1) (lo .busy none)=h2 at G lb sb;refine step k c h2 _ (f k _ _ hi (by omega) (G.mono fun b v=>.inl (.inr (by omega)))) y.1 hc y.2 (fun j a h2=>?_) fun T P s=>?_
  ·have:=B j h2
   rw[Gm,decide_eq_true a]at this;simpa using this
  have C:=s.get lb fun e=>by have:=(hM _ e).2;omega
  have W:=s.get (G.get u (show ¬p=h.size+1 by omega)) fun e=>(hM _ e).1 rfl
  have L:=s.get (G.get E (show ¬h.size=h.size+1 by omega)) fun e=>by have:=(hM _ e).2;omega
  refine⟨C,?_⟩;have t:Upd (· =h.size+1) T (T.setIfInBounds (h.size+1) (lo .ready none)):=Upd.set _ _ rfl
  have Y:=jZ (o:=lo .ready none) C;have g:=t.get W (show ¬p=h.size+1 by omega)
  have D:=t.get L (show ¬h.size=h.size+1 by omega)
  have s3:=s.size;have i5:=f (c+1) _ _ P (by omega) (t.mono fun b v=>.inl (.inr (by omega)))
  simp only[Option.isNone_none,if_true];refine ag.2 ?_;generalize T.setIfInBounds (h.size+1) (lo .ready none)=h5 at t Y g D i5;refine⟨_,bF g,_,bF g,?_⟩;have ew:IntKind.wrap .u32 (((dk d k:Nat):Int)-1)=((dk d k-1:Nat):Int):=by rw[IntKind.wrap_u32];omega
  have ea:dk d k&&&(dk d k-1)=dk d (c+1):=by
   refine jV fun i=>?_
   rw[W7 w B,Gm,Gm];by_cases H:c<i
   ·rw[decide_eq_true H,decide_eq_true (show k≤i by omega),decide_eq_true (show c+1≤i by omega)];simp
   ·rw[decide_eq_false H,decide_eq_false (show ¬c+1≤i by omega)];simp
  simp only[Bd];rw[ew,Zs A (by omega),ea];have J:IntKind.wrap .u32 ((dk d (c+1):Nat):Int)=((dk d (c+1):Nat):Int):=by have:=abm d (c+1);rw[IntKind.wrap_u32];omega
  rw[J];refine⟨iw g (by simp),wK g fun h6 V z=>?_⟩
  have s5:=t.size;refine hI (c+1) () h6 ⟨f _ _ _ i5 (by omega) (z.mono fun b v=>.inl (.inl v)),V,z.oth D (by omega),z.oth Y (by omega),hc⟩ (by omega)
 ·have hz:dk d k=0:=by
   have:((dk d k:Nat):Int)=0:=by simpa using e
   omega
  have t:Upd (· =h.size+1) h' (h'.setIfInBounds (h.size+1) (lo .exhausted none)):=Upd.set _ _ rfl
  refine⟨.ready,none,by decide,m,?_⟩
  refine S k _ (f k _ _ hi (by omega) (t.mono fun b v=>.inl (.inr (by omega)))) (fun j a _=>?_) (t.get E (show ¬h.size=h.size+1 by omega))
  have:=Gm d k j;rw[hz,ij,decide_eq_true a]at this;simpa using this.symm
end Go.Proofs
