/- A part of the proof that the named laws of this program answer true, whatever the input. -/
import Derived.Test.YtncppacbfagpgaaGreatDoorPart5
import Derived.Test.YtncppacbfagpgaaGreatDoorPart4
import Derived.Test.YtncppacbfagpgaaGreatDoorPart0
open Array renaming size→bT
open BitVec renaming ofInt→aj,ofInt_natCast→eT,toNat_ofNat→m7
open ByteArray renaming size_extract→fc
open Int renaming fdiv→ee,toNat_natCast→aP
open List renaming mem_range→gH,mem_append→bV,mem_singleton→aB,flatMap_cons→aO,flatten_cons→fj,length_append→ac,map_append→cd,sum_append→g4,mem_cons_self→ar,length_cons→ax,flatMap_append→bm,append_assoc→aq,mem_cons→aA,length_map→bF,length_singleton→aC,length_nil→aZ,map_cons→co,map_nil→j1,pairwise_append→ci,drop_one→rP,tail_cons→qG,take_of_length_le→bw,pairwise_singleton→cl,mem_append_left→du,length_eq_zero_iff→aH,sum_cons→jl,append_nil→aW,length→dT,getElem?_eq_getElem→af,filter_eq_self→g8,range→fF,range_succ→iV,flatten_append→dX,sum_nil→tI,take_append_drop→aF,take_succ_eq_append_getElem→bv,getElem_mem→bI,take_length→bW
open List.Pairwise renaming nil→cE
open Nat renaming le_refl→ao,lt_of_lt_of_le→bB,zero_le→aR,zero_add→aD,le_trans→bh,lt_or_ge→bN,mod_eq_of_lt→dw,zero_testBit→ip,eq_of_testBit_eq→jf,lt_of_le_of_lt→fC,add_zero→cU,mul_comm→jZ,pow_succ→l6,pow_add→rq,mod_lt→oJ,mul_le_mul_right→cg,add_assoc→jj,add_mul→ie,succ_mul→jd,min_eq_left→bA,le_of_lt→tH
namespace Go.Proofs
open Go Go.Lift
theorem Nn{β:Type}{g:Nat→Option β}{n:Nat}{y:β}:y∈fm g n↔∃c,c<n∧g c=some y:=by
 unfold fm;rw[List.mem_filterMap];exact⟨fun⟨c,h1,h2⟩=>⟨c,gH.1 h1,h2⟩,fun⟨c,h1,h2⟩=>⟨c,gH.2 h1,h2⟩⟩
def wl(x:Hs):Nat→List Pr→List Pr
 |0,l=>l
 |m+1,l=>fZ x (12-m) l++(g6 x (12-m) l).flatMap (wl x m)
theorem Ey(x:Hs)(m:Nat)(l:List Pr):wl x (m+1) l=fZ x (12-m) l++(g6 x (12-m) l).flatMap (wl x m):=rfl
theorem BJ{x:Hs}{p:Pr}:∀(m:Nat) {l:List Pr},p∈wl x m l↔p∈l
 |0,_=>Iff.rfl
 |m+1,l=>by
  rw[Ey,bV,List.mem_flatMap];constructor
  ·rintro(h|⟨L,hL,h⟩)
   ·exact qd h
   ·obtain⟨_,c,rfl⟩:=lK hL
    exact(ll.1 ((BJ m).1 h)).1
  ·intro h
   have hm:p∈part x (12-m) (ck x (12-m) p.1) l:=ll.2 ⟨h,rfl⟩;have hc:=Ce x (12-m) p.1;rcases hL:part x (12-m) (ck x (12-m) p.1) l with _|⟨a,_|⟨b,r⟩⟩
   ·rw[hL]at hm;cases hm
   ·left
    rw[hL]at hm;rw[aB.1 hm];unfold fZ;exact Nn.2 ⟨_,hc,by show gd (part x (12-m) (ck x (12-m) p.1) l)=_;rw[hL];rfl⟩
   ·right
    refine⟨a::b::r,?_,(BJ m).2 (by rw[←hL];exact hm)⟩;unfold g6;exact Nn.2 ⟨_,hc,by show el (part x (12-m) (ck x (12-m) p.1) l)=_;rw[hL];rfl⟩
theorem GX{f:List Pr→List Pr}(h:∀l,(f l).length≤l.length):∀ls:List (List Pr),(ls.flatMap f).length≤ls.flatten.length
 | []=>ao _
 |l::ls=>by
  have h1:=h l;have h2:=GX h ls;rw[aO,fj,ac,ac];omega
theorem Ez(x:Hs):∀(m:Nat) (l:List Pr),(wl x m l).length≤l.length
 |0,_=>ao _
 |m+1,l=>by
  rw[Ey,ac];have h1:=rS x (12-m) l;have h2:=GX (Ez x m) (g6 x (12-m) l);omega
theorem P4{x:Hs}{m:Nat}{l:List Pr}(hr:dD l):Gf (wl x m l)=l:=by
 refine u6 (DD _) hr fun p=>?_
 rw[KA];constructor
 ·intro h;exact(BJ m).1 (D2 h)
 ·intro h
  have hp:p∈(wl x m l).filter fun q=>decide (q.1=p.1):=List.mem_filter.2 ⟨(BJ m).2 h,decide_eq_true rfl⟩
  have hne:jn (wl x m l) p.1≠none:=by
   unfold jn;intro e;rw[List.getLast?_eq_none_iff]at e;rw[e]at hp;cases hp
  cases hl:jn (wl x m l) p.1 with
  |none=>exact absurd hl hne
  |some q=>
   have h1:=LP hl;have h2:=(BJ m).1 (D2 hl);have h3:(p.1,q.2)∈l:=by rw[←h1];exact h2
   have h4:=Bz hr (k:=p.1) (v:=p.2) (w:=q.2) h h3;rw[Prod.ext h1 h4.symm]
def cw(x:Hs):Nat→List Pr→Nat
 |0,_=>2
 |m+1,l=>2+((g6 x (12-m) l).map (cw x m)).sum
structure Fr where
 sp:SliceV
 sk:SliceV
 n:Nat
 ps:List Pr
 ks:List (Nat×List Pr)
abbrev Mu(v:SliceV×SliceV):List Value:= [sv v.1,sv v.2]
theorem NA(x:SliceV×SliceV):(Mu x).length=2∧0<2:=⟨rfl,by omega⟩
def Fr.raw(f:Fr):SliceV×SliceV:=(f.sp,f.sk)
def Fr.rem(x:Hs)(f:Fr):List Pr:=f.ps++f.ks.flatMap fun k=>wl x (f.n-1) k.2
def Fr.cost(x:Hs)(f:Fr):Nat:=1+(f.ks.map fun k=>cw x (f.n-1) k.2).sum
def yR(x:Hs)(l:List Fr):List Pr:=l.reverse.flatMap (Fr.rem x)
def zV(x:Hs)(l:List Fr):Nat:=(l.map (Fr.cost x)).sum
theorem vd(x:Hs)(l:List Fr)(f:Fr):yR x (l++ [f])=f.rem x++yR x l:=by unfold yR;rw[List.reverse_append];rfl
theorem wR(x:Hs)(l:List Fr)(f:Fr):zV x (l++ [f])=zV x l+f.cost x:=by unfold zV;rw[cd,g4];simp
abbrev GL(k:Nat×List Pr):Option Addr:=some ⟨k.1,0,none⟩
structure Fr.Ok(W G:Nat→Prop)(x:Hs)(h:ad)(f:Fr):Prop where
 p:Sl eC 2 (fun y=>¬G y) h f.sp f.ps
 k:Sl pz 1 (fun y=>¬G y) h f.sk (f.ks.map GL)
 pc:f.sp.len≤f.sp.cap
 kc:f.sk.len≤f.sk.cap
 t:∀k∈f.ks,TrieAt W x h (f.n-1) k.1 k.2∧k.2.length≤100000
 n0:f.ks≠[]→0<f.n
 n13:f.n≤13
theorem Fr.Ok.upd{W G M:Nat→Prop}{x:Hs}{h h':ad}{f:Fr}(o:f.Ok W G x h)(k:Upd M h h')(hW:∀b,M b→W b∨h.size≤b)(hG:∀b,M b→¬G b∨h.size≤b):f.Ok W G x h':=
 ⟨o.p.upd k hG,o.k.upd k hG,o.pc,o.kc,fun q hq=>⟨TrieAt.updM k hW (o.t q hq).1,(o.t q hq).2⟩,o.n0,o.n13⟩
theorem Fr.Ok.sub{W G G':Nat→Prop}{x:Hs}{h:ad}{f:Fr}(o:f.Ok W G x h)(hG:∀b,G b→G' b):f.Ok W G' x h:=
 ⟨o.p.less fun b hb=>.inl fun hg=>hb (hG b hg),o.k.less fun b hb=>.inl fun hg=>hb (hG b hg),o.pc,o.kc,o.t,o.n0,o.n13⟩
abbrev Q7(s:SliceV)(d:Int):Array Value:= #[sv s,.int .i64 d]
structure CurW(W G C:Nat→Prop)(x:Hs)(h:ad)(cb:Nat)(fs:List Fr):Prop where
 ex:∃s d,h[cb]? =some (.cells (Q7 s d) vL (0,0))∧OwnS Mu 2 dV C h s (fs.map Fr.raw)
 ok:∀f∈fs,f.Ok W G x h
 lt:∀b,(C b∨G b)→b<h.size
 dj:∀b,G b→¬C b∧b≠cb
 cc:¬C cb
 cw:(∀b,C b→W b)∧W cb
 lv:fs.Pairwise fun f g=>g.n<f.n
theorem CurW.upd{W G C M:Nat→Prop}{x:Hs}{h h':ad}{cb:Nat}{fs:List Fr}(c:CurW W G C x h cb fs)(k:Upd M h h')(hW:∀b,M b→W b∨h.size≤b)(hC:∀b,C b→¬M b)(hG:∀b,G b→¬M b)(hcb:¬M cb):CurW W G C x h' cb fs:=by
 obtain⟨s,d,h1,h2⟩:=c.ex;exact⟨⟨s,d,k.get h1 hcb,h2.upd k hC⟩,fun f hf=>(c.ok f hf).upd k hW fun b hb=>.inl fun hg=>hG b hg hb,fun b hb=>bB (c.lt b hb) k.size,c.dj,c.cc,c.cw,c.lv⟩
theorem Nr:∀{fs:List Fr} {n:Nat},fs.Pairwise (fun f g=>g.n<f.n)→(∀f∈fs,f.n≤n)→fs.length≤n+1
 | [],_,_,_=>aR _
 |f::fs,n,hp,hn=>by
  have hp:=List.pairwise_cons.1 hp;have h0:=hn f (ar ..);rcases fs with _|⟨g,fs⟩
  ·simp
  ·have hg:=hp.1 g (ar ..)
   have:=Nr (n:=f.n-1) hp.2 fun g hg=>by have:=hp.1 g hg;omega
   rw[ax];omega
theorem Kk{α:Type}{f:α→List Value}{sz:Nat}{t:TypeId}{M:Nat→Prop}{h:ad}{s:SliceV}{P Q:List α}{x y:α}{j:Nat}{v:Value}(ho:OwnS f sz t M h s (P++x::Q))(hj:j<sz)(hy:f y=(f x).set j v){a:Addr}(ha:s.a=some a){i:Nat}(hi:i=P.length){G:ad→Prop}(hk:∀h',OwnS f sz t M h' s (P++y::Q)→Upd M h h'→G h'):
  Wr h (adr (adr a (i*sz)) j)∧At (hset h (adr (adr a (i*sz)) j) v) G:=by
 subst hi;have hf:=ho.ne;have hlen:=ho.len;have hcap:=ho.cap;rcases ho.blk with h0|⟨b,rest,ha',hb,hc,hr⟩
 ·rw[ac,ax]at hlen;omega
 rw[ha]at ha';cases ha';have hA:(P.flatMap f).length=P.length*sz:=lR hf P;rw[bm,aO]at hc;have hX:=(hf x).1;have ea:adr (adr ⟨b,0,none⟩ (P.length*sz)) j=⟨b,P.length*sz+j,none⟩:=by rw[bP,bP,aD]
 rw[ea];have hsz:P.length*sz+j<(P.flatMap f++(f x++Q.flatMap f)++rest).toArray.size:=by
  simp only[List.size_toArray,ac];omega
 refine⟨gS hc hsz,rH hc fun h' hb' hu'=>hk h' ⟨by rw[hlen];simp,hf,hcap,.inr ⟨b,rest,ha,hb,?_,hr⟩⟩ (hu'.mono fun z hz=>.inl (by have hz:z=b:=hz;rw[hz];exact hb))⟩
 rw[hb'];congr 3
 rw[bm,aO,hy];apply Array.toList_inj.1;rw[Array.toList_setIfInBounds];simp only[aq];rw[List.set_append_right _ _ (by omega),show P.length*sz+j-(P.flatMap f).length=j by omega,List.set_append_left _ _ (by omega)]
theorem D4{W:Nat→Prop}{x:Hs}{h:ad}{m:Nat}:∀{ks:List (Option Addr)} {ls:List (List Pr)},KidsAt W x h m ks ls→∃q:List (Nat×List Pr),ks=q.map GL∧ls=q.map (·.2)∧∀k∈q,TrieAt W x h m k.1 k.2
 | [],[],_=>⟨[],rfl,rfl,fun k hk=>by cases hk⟩
 |_::_,[],h=>h.elim
 | [],_::_,h=>h.elim
 |k::ks,l::ls,hk=>by
  obtain⟨⟨kb,e,t⟩,hr⟩:=hk;obtain⟨q,e1,e2,e3⟩:=D4 hr;refine⟨(kb,l)::q,by rw[e,e1];rfl,by rw[e2];rfl,fun k' hk'=>?_⟩
  rcases aA.1 hk' with rfl|hk'
  ·exact t
  ·exact e3 k' hk'
theorem Dz{W:Nat→Prop}{x:Hs}{h:ad}{m b:Nat}{l:List Pr}(t:TrieAt W x h m b l)(hm:m≤13)(hn:l.length≤100000){K:SliceV×SliceV→ad→Prop}
  (hk:∀h' f,f.n=m→Fr.rem x f=wl x m l→f.cost x+1=cw x m l→f.Ok W (fun y=>h.size≤y∧y<h'.size) x h'→Upd No h h'→K f.raw h'):HC PG rZ [.pointer (some ⟨b,0,none⟩)] [.agg [.slice,.slice]] K h:=by
 refine Ep (some ⟨b,0,none⟩) ?_;unfold zv eP cJ MD QF;refine aG fun h1 b1 k1=>?_
 have t1:=TrieAt.upd0 k1 (TrieAt.less (W':=Pro W h h1) Pro.hm t);obtain⟨d,n,sp,sk,bu,ow,lp,q,hb,hsp,hsk,hlp,hq,hwl,hcw,htr,hq0⟩:∃d n sp sk bu ow lp,∃q:List (Nat×List Pr),h1[b]? =some (.cells (fA d n sp sk bu ow) bE (0,0))∧Sl eC 2 (Pro W h h1) h1 sp lp∧Sl pz 1 (Pro W h h1) h1 sk (q.map GL)∧lp.length≤100000∧q.length≤32∧(lp++q.flatMap fun k=>wl x (m-1) k.2)=wl x m l∧2+(q.map fun k=>cw x (m-1) k.2).sum=cw x m l∧(∀k∈q,TrieAt (Pro W h h1) x h1 (m-1) k.1 k.2∧k.2.length≤100000)∧(q≠[]→0<m):=by
  cases m with
  |zero=>
   obtain⟨sp,sk,ow,hb,hsp,hsk,_⟩:=BuckAt.ex t1;exact⟨0,0,sp,sk,true,ow,l,[],hb,hsp,hsk,hn,by simp,by simp[wl],by simp[cw],fun k hk=>(by cases hk),fun h=>absurd rfl h⟩
  |succ m=>
   obtain⟨s,nd,hs⟩:=t1;have hs:∀c,c<32→SlotIs (Pro W h h1) x h1 m s c (part x (12-m) c l):=hs;obtain⟨d,n,sp,sk,ow,hb,bits,hsp,hsk,_⟩:=nd.ex;have hka:=E5 (W:=Pro W h h1) (x:=x) (h:=h1) (m:=m) (lev:=12-m) (s:=s) (l:=l) 32 hs;obtain⟨q,e1,e2,e3⟩:=D4 hka;have e2:g6 x (12-m) l=q.map (·.2):=e2
   have hso:=AJ hs;have hsl:=rS x (12-m) l;have hk32:=vO (g:=s.k);have hql:q.length=(fm s.k 32).length:=by rw[e1,bF]
   refine⟨d,n,sp,sk,false,ow,fm s.p 32,q,hb,hsp,by rw[←e1];exact hsk,by rw[hso];omega,by omega,?_,?_,fun k hk=>⟨e3 k hk,?_⟩,fun _=>Nat.succ_pos _⟩
   ·rw[Ey,hso,e2,List.flatMap_map];rfl
   ·show _=2+_
    rw[e2,List.map_map];rfl
   ·have:k.2∈g6 x (12-m) l:=by rw[e2];exact List.mem_map.2 ⟨k,hk,rfl⟩
    obtain⟨_,c,hc⟩:=lK this;rw[hc];exact bh mp hn
 refine pd hb hsp (by omega) fun s2 h2 ho2 hu2=>?_
 refine AP (hu2.get0 hb) (hsk.upd hu2 fun _ h=>h.elim) (by rw[bF];omega) fun s3 h3 ho3 hu3=>?_
 have b3:=hu3.get0 (hu2.get0 b1);have z1:=k1.size;have z2:=hu2.size;have z3:=hu3.size;have zb:=aJ b1;refine bo (c:= [.slice none 0 0,.slice none 0 0]) (vs:= [sv s2,sv s3]) b3 rfl fun h4 b4 hu4=>?_
 refine⟨s2,vc b4 0,s3,vc b4 1,?_⟩;have z4:=hu4.size;have k14:Upd No h h4:=((k1.tr hu2).tr hu3).own hu4 (ao _);refine hk h4 ⟨s2,s3,m,lp,q⟩ rfl hwl (by unfold Fr.cost;simp only;omega) ⟨?_,?_,ho2.cap,ho3.cap,fun k hk=>⟨TrieAt.less (W:=Pro W h h1) (fun y hy=>.inl (.inl hy)) (TrieAt.updM (M:=(· =h.size)) hu4 (fun y hy=>.inl (.inr (by have hy:y=h.size:=hy;omega))) (TrieAt.upd0 (hu2.tr hu3) (htr k hk).1)),(htr k hk).2⟩,hq0,hm⟩ k14
 ·exact(((ho2.upd hu3 fun _ _ h=>h).within).upd hu4 fun y hy e=>by have e:y=h.size:=e;have:=hy.1;omega).sl fun y hy _ hg=>hg ⟨by have:=hy.1;omega,by have:=hy.2;omega⟩
 ·exact(ho3.within.upd hu4 fun y hy e=>by have e:y=h.size:=e;have:=hy.1;omega).sl fun y hy _ hg=>hg ⟨by have:=hy.1;omega,by have:=hy.2;omega⟩
end Go.Proofs
namespace Go.Proofs
open Go Go.Lift
theorem NV{M:Nat→Prop}{h:ad}{so:SliceV}{out:List (SliceV×SliceV)}{p:SliceV×SliceV}{K:SliceV→ad→Prop}(ho:OwnS Mu 2 dV M h so out)(hM:∀b,h.size≤b→M b)(hn:out.length+1≤1000000000)
  (hk:∀s' h',OwnS Mu 2 dV M h' s' (out++ [p])→Upd M h h'→K s' h'):
  ∃xs,SRow (hnew h (Mu p) dV) (some (az h)) (1*2) xs∧AppP (some [.slice none 0 0,.slice none 0 0]) 2 48 dV so.a so.len so.cap 1 xs (hnew h (Mu p) dV) K:=by
 have k:=Upd.hnew No h (Mu p) dV;have h1:OwnS Mu 2 dV (fun _=>True) (hnew h (Mu p) dV) ⟨some (az h),1,1⟩ [p]:=⟨rfl,NA,ao _,.inr ⟨h.size,[],rfl,trivial,bZ ..,rfl⟩⟩
 refine⟨_,(h1.sl (W:=No) fun _ _ _ h=>h).srow,?_⟩
 refine AppP.own (ys:= [p]) (ho.upd k fun _ _ h=>h) rfl rfl rfl rfl (by omega) (by simp only[aC];omega) (hM _ (by rw[iS];omega)) fun s' h' ho' hu=>?_
 exact hk s' h' ho' ((Upd.hnew M h _ _).tr hu)
set_option maxHeartbeats 2000000 in
theorem F4{W G0 C0:Nat→Prop}{x:Hs}{h:ad}{cb:Nat}{fs0:List Fr}(cur:CurW W G0 C0 x h cb fs0)(hW0:∀b,h.size≤b→W b){K:(ByteArray×ByteArray)×Bool→ad→Prop}
  (hn:∀h',yR x fs0= []→Upd (fun b=>C0 b∨b=cb) h h'→K (((⟨#[]⟩:ByteArray),(⟨#[]⟩:ByteArray)),false) h')
  (hs:∀h' fs' p R G' C',yR x fs0=p::R→yR x fs'=R→CurW W G' C' x h' cb fs'→(∀b,C' b→C0 b∨h.size≤b)→(∀b,G' b→G0 b∨h.size≤b)→Upd (fun b=>C0 b∨b=cb) h h'→K (p,true) h'):
  HC PG mQ [.pointer (some ⟨cb,0,none⟩)] [.agg [.str,.str],.c .bool] K h:=by
 refine wV (some ⟨cb,0,none⟩) ?_;unfold qo cf dd cJ nv jx bC av kU dL bG Ro D6 QF;refine aG fun h1 b1 k1=>al.2 ?_
 have z1:=aJ b1;obtain⟨s00,d00,hc0,_⟩:=cur.ex;have zc:=aJ hc0;have s1:=k1.size;have cur1:=cur.upd k1 (fun _ h=>h.elim) (fun _ _ h=>h) (fun _ _ h=>h) fun h=>h
 refine LoopP.ghost (fun(g:List Fr×(Nat→Prop)×(Nat→Prop)) (_:Unit) h'=>CurW W g.2.1 g.2.2 x h' cb g.1∧yR x g.1=yR x fs0∧(∀b,g.2.2 b→(C0 b∨h.size≤b)∧b≠h.size)∧(∀b,g.2.1 b→(G0 b∨h.size≤b)∧b≠h.size)∧h'[h.size]? =some (.cells zPrL.toArray ag (0,0))∧Upd (fun b=>C0 b∨b=cb) h h') (fun g=>zV x g.1) (fs0,G0,C0)
  ⟨cur1,rfl,fun b hb=>⟨.inl hb,by have:=cur.lt b (.inl hb);omega⟩,fun b hb=>⟨.inl hb,by have:=cur.lt b (.inr hb);omega⟩,b1,k1.wide⟩ ?_
 rintro I ⟨fs,G,C⟩ ⟨⟩ h' ⟨cu,hrem,hCo,hGo,bz,hu⟩ hI;simp only at cu hrem hCo hGo;obtain⟨s,d,aN,hst⟩:=cu.ex;have hlen:=hst.len;rw[bF]at hlen;have hzs:h.size<h'.size:=aJ bz;have zcb:=aJ aN;refine⟨_,rfl,s,vc aN 0,?_⟩;refine aE (fun hpos=>?_) fun hnp=>?_
 ·obtain⟨fs',f,rfl⟩:∃fs' f,fs=fs'++ [f]:=by
   rcases Fg fs with rfl|⟨l',y,e⟩
   ·simp only[aZ]at hlen;omega
   ·exact⟨l',y,e⟩
  rw[cd,co,j1]at hst;rw[ac,aC]at hlen;have h14:=Nr (n:=13) cu.lv fun f hf=>(cu.ok f hf).n13
  rw[ac,aC]at h14;have eidx:IntKind.wrap .i64 ((s.len:Int)-1)=((fs'.length:Nat):Int):=by rw[jm (by omega)];omega
  obtain⟨a,ha,hv⟩:=kE hst (i:=fs'.length) (by rw[bF]);have fo:=cu.ok f (List.mem_append_right _ (aB.2 rfl));have hpl:=fo.p.len;have hkl:=fo.k.len;rw[bF]at hkl;have hpc:=fo.pc;have hkc:=fo.kc;have hcap:=hst.cap;refine⟨_,rfl,s,vc aN 0,_,rfl,s,vc aN 0,?_⟩;rw[eidx];refine⟨⟨by omega,by omega⟩,a,ha,_,rfl,f.sp,hv 0 _ rfl,?_⟩
  have keep:∀{h2:ad} {M:Nat→Prop},Upd M h' h2→(∀b,M b→C b∨b=cb∨b=h.size∨h'.size≤b)→∀{g:Fr},g.Ok W G x h'→g.Ok W G x h2:=fun{h2 M} k hM {g} o=>o.upd k (fun b hb=>by
   rcases hM b hb with h|h|h|h
   ·exact .inl (cu.cw.1 b h)
   ·exact .inl (by rw[h];exact cu.cw.2)
   ·exact .inl (by rw[h];exact hW0 _ (ao _))
   ·exact .inr h) fun b hb=>by
   rcases hM b hb with h|h|h|h
   ·exact .inl fun hg=>(cu.dj b hg).1 h
   ·exact .inl fun hg=>(cu.dj b hg).2 h
   ·exact .inl fun hg=>(hGo b hg).2 h
   ·exact .inr h
  have lvs:=ci.1 cu.lv;have hrs:=vd x fs' f;have hcs:=wR x fs' f;refine aE (fun hp=>?_) fun hp=>?_
  ·
   rcases hps:f.ps with _|⟨p,ps⟩
   ·rw[hps]at hpl;simp only[aZ]at hpl;omega
   have fop:=fo.p;rw[hps]at fop hpl;simp only[ax]at hpl;obtain⟨ap,hap,_,hvp⟩:=fop.at (i:=0) (x:=p) rfl;refine⟨_,rfl,f.sp,hv 0 _ rfl,⟨by omega,by omega⟩,ap,hap,p.1,hvp 0 _ rfl,p.2,hvp 1 _ rfl,?_⟩
   refine Nm (p:=p) fun h8 b8 k8=>?_
   have z8:=aJ b8;have hst8:=hst.upd k8 fun _ _ h=>h
   obtain⟨a',ha',hv8⟩:=kE hst8 (i:=fs'.length) (by rw[bF]);rw[ha]at ha';cases ha';refine⟨_,rfl,f.sp,hv8 0 _ rfl,⟨by omega,by omega⟩,_,rfl,?_⟩
   let f':Fr:=⟨⟨aY f.sp.a 1 f.sp.cap 2,f.sp.len-1,f.sp.cap-1⟩,f.sk,f.n,ps,f.ks⟩
   refine Kk hst8 (y:=f'.raw) (j:=0) (by omega) rfl ha (by simp) fun h9 ho9 hu9=>?_
   have c9:=hu9.get (k8.get0 aN) cu.cc;refine⟨_,rfl,s,vc c9 0,_,rfl,?_⟩;refine rQ (i:=1) (c':=Q7 s (s.len:Int)) c9 (show 1<2 by decide) rfl fun h10 c10 hu10=>?_
   have hCh:∀b,C b→b<h'.size:=fun b hb=>cu.lt b (.inl hb)
   have b9:=hu9.get b8 fun hx=>by have:=hCh _ hx;omega
   have b10:=hu10.oth b9 (by omega);refine⟨_,vc b10 0,_,vc b10 1,?_⟩;have bz10:=hu10.oth (hu9.get (k8.get0 bz) fun hx=>(hCo _ hx).2 rfl) (by omega)
   refine bo (c:=zPrL) (vs:= [.string p.1,.string p.2]) bz10 rfl fun h11 b11 hu11=>?_
   refine⟨_,vc b11 0,_,vc b11 1,?_⟩;have c11:=hu11.oth c10 (by omega);have hall:Upd (fun b=>C b∨b=cb∨b=h.size∨h'.size≤b) h' h11:=((k8.wide.trans hu9 fun b hb=>.inl (.inl hb)).trans hu10 fun b hb=>.inl (.inr (.inl hb))).trans hu11 fun b hb=>.inl (.inr (.inr (.inl hb)))
   have ho11:OwnS Mu 2 dV C h11 s ((fs'++ [f']).map Fr.raw):=by
    rw[cd,co,j1];exact(ho9.upd hu10 fun b hb e=>by have e:b=cb:=e;rw[e]at hb;exact cu.cc hb).upd hu11 fun b hb e=>(hCo b hb).2 e
   have fo':f'.Ok W G x h11:=by
    have o:=keep hall (fun b hb=>hb) fo
    refine⟨?_,o.k,by show f.sp.len-1≤f.sp.cap-1;omega,o.kc,o.t,o.n0,o.n13⟩
    have op:=o.p;rw[hps]at op;have:=Sl.sub op (l:=1) (hi:=(p::ps).length) (m:=f.sp.cap) (c:=f.sp.cap-1) (by simp) (ao _) (by simp only[ax];omega);rw[rP,qG,bw (by simp)]at this;have e:(p::ps).length-1=f.sp.len-1:=by simp only[ax];omega
    rw[e]at this;exact this
   refine hs h11 (fs'++ [f']) p (f'.rem x++yR x fs') G C ?_ (vd x fs' f') ⟨⟨s,_,c11,ho11⟩,fun g hg=>?_,fun b hb=>bB (cu.lt b hb) hall.size,cu.dj,cu.cc,cu.cw,ci.2 ⟨lvs.1,cl ..,fun g hg g' hg'=>by rw[aB.1 hg'];exact lvs.2.2 g hg f (aB.2 rfl)⟩⟩ (fun b hb=>(hCo b hb).1) (fun b hb=>(hGo b hb).1) ?_
   ·rw[←hrem,hrs]
    unfold Fr.rem;rw[hps];rfl
   ·rcases bV.1 hg with hg|hg
    ·exact keep hall (fun b hb=>hb) (cu.ok g (du _ hg))
    ·rw[aB.1 hg];exact fo'
   ·refine hu.trans hall fun b hb=>?_
    rcases hb with h|h|h|h
    ·exact(hCo b h).1.imp .inl id
    ·exact .inl (.inr h)
    ·exact .inr (by omega)
    ·exact .inr (by omega)
  ·have hps:f.ps= []:=aH.1 (by omega)
   refine⟨_,rfl,f.sk,hv 1 _ rfl,?_⟩;refine aE (fun hk=>?_) fun hk=>?_
   ·
    rcases hks:f.ks with _|⟨kd,ks⟩
    ·rw[hks]at hkl;simp only[aZ]at hkl;omega
    have fok:=fo.k;rw[hks]at fok hkl;simp only[ax]at hkl;rw[co]at fok;obtain⟨ap,hap,_,hvp⟩:=fok.at0 (i:=0) (x:=GL kd) rfl;have hfn:0<f.n:=fo.n0 (by rw[hks];simp);have hf13:=fo.n13;refine⟨_,rfl,f.sk,hv 1 _ rfl,⟨by omega,by omega⟩,ap,hap,_,hvp,_,rfl,f.sk,hv 1 _ rfl,⟨by omega,by omega⟩,_,rfl,?_⟩
    let f':Fr:=⟨f.sp,⟨aY f.sk.a 1 f.sk.cap 1,f.sk.len-1,f.sk.cap-1⟩,f.n,f.ps,ks⟩
    refine Kk hst (y:=f'.raw) (j:=1) (by omega) rfl ha (by simp) fun h8 ho8 hu8=>?_
    have c8:=hu8.get aN cu.cc;have hall8:Upd (fun b=>C b∨b=cb∨b=h.size∨h'.size≤b) h' h8:=hu8.mono fun b hb=>.inl (.inl hb)
    have s8:=hu8.size;refine⟨_,rfl,s,vc c8 0,?_⟩;have fo8:=keep hall8 (fun b hb=>hb) fo
    obtain⟨tk,hkn⟩:=fo8.t kd (by rw[hks];exact ar ..);refine Dz tk (by omega) hkn fun h9 g hgn hgr hgc go k9=>?_
    have c9:=k9.get0 c8;have s9:=k9.size;refine⟨vc c9 0,bj ⟨vc ((Upd.hnew No h9 (Mu g.raw) dV).get0 c9) 0,?_⟩⟩;have hC9:∀b,C b→b<h9.size:=fun b hb=>by have:=cu.lt b (.inl hb);omega
    refine NV (M:=fun b=>C b∨h9.size≤b) (p:=g.raw) ((ho8.upd k9 fun _ _ h=>h).more fun b hb=>.inl hb) (fun b hb=>.inr hb) (by rw[ac,bF,aC];omega) fun s10 h10 ho10 hu10=>?_
    have s10':=hu10.size;have c10:=hu10.get c9 (by rintro(hx|hx);exact cu.cc hx;omega)
    refine⟨_,rfl,?_⟩;refine rQ (i:=0) (c':=Q7 s10 d) c10 (show 0<2 by decide) rfl fun h11 c11 hu11=>?_
    have s11:=hu11.size;have hall:Upd (fun b=>C b∨b=cb∨b=h.size∨h'.size≤b) h' h11:=((hall8.tr k9.wide).trans hu10 fun b hb=>hb.elim (fun h=>.inl (.inl h)) fun h=>.inr (by omega)).trans hu11 fun b hb=>.inl (.inr (.inl hb))
    have bz11:=hu11.oth (hu10.get (k9.get0 (hu8.get bz fun hx=>(hCo _ hx).2 rfl)) (by rintro(hx|hx);exact(hCo _ hx).2 rfl;omega)) (by omega)
    have hGl:∀b,G b→b<h'.size:=fun b hb=>cu.lt b (.inr hb)
    refine hI (fs'++ [f']++ [g],fun b=>G b∨(h8.size≤b∧b<h9.size),fun b=>(C b∨h9.size≤b)∧b<h10.size) () h11 ⟨⟨⟨s10,d,c11,?_⟩,fun g' hg'=>?_,fun b hb=>?_,fun b hb=>?_,fun hb=>?_,⟨fun b hb=>?_,cu.cw.2⟩,?_⟩,?_,fun b hb=>?_,fun b hb=>?_,bz11,?_⟩ ?_
    ·rw[cd,cd,co,j1,co,j1]
     exact ho10.within.upd hu11 fun b hb e=>by
      have e:b=cb:=e;rw[e]at hb;rcases hb.1 with h|h
      ·exact cu.cc h
      ·omega
    ·have hsubG:∀{q:Fr},q.Ok W G x h11→q.Ok W (fun b=>G b∨(h8.size≤b∧b<h9.size)) x h11:=fun o=>o.sub fun b hb=>.inl hb
     rcases bV.1 hg' with hg'|hg'
     ·rcases bV.1 hg' with hg'|hg'
      ·exact hsubG (keep hall (fun b hb=>hb) (cu.ok g' (du _ hg')))
      ·rw[aB.1 hg']
       have o:=keep hall (fun b hb=>hb) fo
       refine hsubG ⟨o.p,?_,o.pc,by show f.sk.len-1≤f.sk.cap-1;omega,fun q hq=>o.t q (by rw[hks];exact List.mem_cons_of_mem _ hq),fun _=>hfn,hf13⟩
       have op:=o.k;rw[hks,co]at op;have:=Sl.sub op (l:=1) (hi:=(GL kd::ks.map GL).length) (m:=f.sk.cap) (c:=f.sk.cap-1) (by simp) (ao _) (by simp only[ax,bF];omega);rw[rP,qG,bw (by simp)]at this;have e:(GL kd::ks.map GL).length-1=f.sk.len-1:=by simp only[ax,bF];omega
       rw[e]at this;exact this
     ·rw[aB.1 hg']
      have o1:=go.upd hu10 (fun b hb=>hb.elim (fun h=>.inl (cu.cw.1 b h)) .inr) fun b hb=>hb.elim (fun h=>.inl fun hg=>by have:=cu.lt b (.inl h);omega) .inr
      have o2:=o1.upd hu11 (fun b hb=>.inl (by have hb:b=cb:=hb;rw[hb];exact cu.cw.2)) fun b hb=>.inl fun hg=>by have hb:b=cb:=hb;omega
      exact o2.sub fun b hb=>.inr hb
    ·rcases hb with hb|hb|hb
     ·omega
     ·have:=hGl b hb;omega
     ·omega
    ·refine⟨fun hc=>?_,fun e=>?_⟩
     ·rcases hb with hb|hb
      ·rcases hc.1 with h|h
       ·exact(cu.dj b hb).1 h
       ·have:=hGl b hb;omega
      ·rcases hc.1 with h|h
       ·have:=cu.lt b (.inl h);omega
       ·omega
     ·subst e
      rcases hb with hb|hb
      ·exact(cu.dj _ hb).2 rfl
      ·omega
    ·rcases hb.1 with h|h
     ·exact cu.cc h
     ·omega
    ·rcases hb.1 with h|h
     ·exact cu.cw.1 b h
     ·exact hW0 b (by omega)
    ·refine ci.2 ⟨ci.2 ⟨lvs.1,cl ..,fun q hq q' hq'=>by rw[aB.1 hq'];exact lvs.2.2 q hq f (aB.2 rfl)⟩,cl ..,fun q hq q' hq'=>?_⟩
     rw[aB.1 hq',hgn];rcases bV.1 hq with hq|hq
     ·have:=lvs.2.2 q hq f (aB.2 rfl);omega
     ·rw[aB.1 hq];show f.n-1<f.n;omega
    ·rw[vd,vd,←hrem,hrs,hgr]
     unfold Fr.rem;rw[hps,hks,aO];simp;rfl
    ·refine⟨?_,?_⟩
     ·rcases hb.1 with h|h
      ·exact(hCo b h).1
      ·exact .inr (by omega)
     ·rcases hb.1 with h|h
      ·exact(hCo b h).2
      ·omega
    ·refine⟨?_,?_⟩
     ·rcases hb with h|h
      ·exact(hGo b h).1
      ·exact .inr (by omega)
     ·rcases hb with h|h
      ·exact(hGo b h).2
      ·omega
    ·refine hu.trans hall fun b hb=>?_
     rcases hb with h|h|h|h
     ·exact(hCo b h).1.imp .inl id
     ·exact .inl (.inr h)
     ·exact .inr (by omega)
     ·exact .inr (by omega)
    ·show zV x (fs'++ [f']++ [g])<zV x (fs'++ [f])
     rw[wR,wR,hcs];have e1:f.cost x=f'.cost x+cw x (f.n-1) kd.2:=by
      unfold Fr.cost;rw[hks,co,jl];have e0:(f'.ks.map fun k=>cw x (f'.n-1) k.2).sum=(ks.map fun k=>cw x (f.n-1) k.2).sum:=rfl
      omega
     omega
   ·
    have hks:f.ks= []:=aH.1 (by omega);refine⟨_,rfl,s,vc aN 0,_,rfl,s,vc aN 0,?_⟩;rw[eidx];refine⟨⟨by omega,by omega⟩,?_⟩
    simp only[Bd];refine⟨_,rfl,?_⟩;refine rQ (i:=0) (c':=Q7 ⟨aY s.a 0 s.cap 2,fs'.length,s.cap⟩ d) aN (show 0<2 by decide) rfl fun h8 c8 hu8=>?_
    have hpop:=OwnS.pop hst;rw[bF]at hpop;have hall:Upd (fun b=>C b∨b=cb∨b=h.size∨h'.size≤b) h' h8:=hu8.mono fun b hb=>.inl (.inr (.inl hb))
    refine hI (fs',G,C) () h8 ⟨⟨⟨_,d,c8,hpop.upd hu8 fun b hb e=>by have e:b=cb:=e;rw[e]at hb;exact cu.cc hb⟩,fun g hg=>keep hall (fun b hb=>hb) (cu.ok g (du _ hg)),fun b hb=>bB (cu.lt b hb) hall.size,cu.dj,cu.cc,cu.cw,lvs.1⟩,?_,hCo,hGo,hu8.oth bz (by omega),hu.trans hu8 fun b hb=>.inl (.inr hb)⟩ ?_
    ·rw[←hrem,hrs]
     unfold Fr.rem;rw[hps,hks];rfl
    ·show zV x fs'<zV x (fs'++ [f])
     rw[hcs];unfold Fr.cost;omega
 ·have h0:fs= []:=aH.1 (by omega)
  subst h0;refine⟨_,rfl,?_⟩;refine rQ (i:=1) (c':=Q7 s 0) aN (show 1<2 by decide) rfl fun h8 c8 hu8=>?_
  refine bo (c:=zPrL) (vs:=zPrL) (hu8.oth bz (by omega)) rfl fun h9 b9 hu9=>?_
  refine⟨_,vc b9 0,_,vc b9 1,hn h9 hrem.symm ((hu.trans hu8 fun b hb=>.inl (.inr hb)).trans hu9 fun b hb=>.inr (Nat.le_of_eq (Eq.symm hb)))⟩
end Go.Proofs
namespace Go.Proofs
open Go Go.Lift
def Below(W:Nat→Prop)(x:Hs)(h:ad)(m:Nat)(r:Option Addr)(l:List Pr):Prop:=(r=none∧l= [])∨∃b,r=some ⟨b,0,none⟩∧TrieAt W x h m b l
theorem Below.upd0{W:Nat→Prop}{x:Hs}{h h':ad}{m:Nat}{r:Option Addr}{l:List Pr}(k:Upd No h h')(t:Below W x h m r l):Below W x h' m r l:=t.imp id fun⟨b,e,t⟩=>⟨b,e,TrieAt.upd0 k t⟩
theorem Below.less{W W':Nat→Prop}{x:Hs}{h:ad}{m:Nat}{r:Option Addr}{l:List Pr}(hm:∀b,W' b→W b∨h.size≤b)(t:Below W x h m r l):Below W' x h m r l:=t.imp id fun⟨b,e,t⟩=>⟨b,e,TrieAt.less hm t⟩
theorem Below.updM{W M:Nat→Prop}{x:Hs}{h h':ad}{m:Nat}{r:Option Addr}{l:List Pr}(k:Upd M h h')(hm:∀b,M b→W b∨h.size≤b)(t:Below W x h m r l):Below W x h' m r l:=t.imp id fun⟨b,e,t⟩=>⟨b,e,TrieAt.updM k hm t⟩
theorem PQ(x:Hs):∀m,wl x m []= []
 |0=>rfl
 |m+1=>aH.1 (Nat.le_zero.1 (Ez x (m+1) []))
theorem HN{W:Nat→Prop}{x:Hs}{h:ad}{m:Nat}{r:Option Addr}{l:List Pr}(t:Below W x h m r l)(hm:m≤13)(hn:l.length≤100000){K:SliceV×SliceV→ad→Prop}
  (hk:∀h' f,Fr.rem x f=wl x m l→f.Ok W (fun y=>h.size≤y∧y<h'.size) x h'→Upd No h h'→K f.raw h'):HC PG rZ [.pointer r] [.agg [.slice,.slice]] K h:=by
 rcases t with⟨rfl,rfl⟩|⟨b,rfl,t⟩
 ·refine Ep none ?_
  unfold zv eP cJ MD QF;refine aG fun h1 b1 k1=>?_
  refine nP none ?_;unfold kP bG;refine aw.2 (oG none ?_);unfold lZ bG;refine aw.2 ?_;refine bo (c:= [.slice none 0 0,.slice none 0 0]) (vs:= [.slice none 0 0,.slice none 0 0]) b1 rfl fun h4 b4 hu4=>?_
  refine⟨⟨none,0,0⟩,vc b4 0,⟨none,0,0⟩,vc b4 1,?_⟩;refine hk h4 ⟨⟨none,0,0⟩,⟨none,0,0⟩,0,[],[]⟩ ?_ ⟨Sl.nil fO,Sl.nil py,ao _,ao _,fun k hk=>(by cases hk),fun h=>absurd rfl h,aR _⟩ (k1.own hu4 (ao _))
  rw[PQ];rfl
 ·exact Dz t hm hn fun h' f _ h2 _ h4 h5=>hk h' f h2 h4 h5
theorem HO{W:Nat→Prop}{x:Hs}{h:ad}{m:Nat}{r:Option Addr}{l:List Pr}(t:Below W x h m r l)(hm:m≤13)(hn:l.length≤100000)(hW:∀y,h.size≤y→W y){K:Option Addr→ad→Prop}
  (hk:∀h' cb f G C,h.size≤cb→(∀y,G y∨C y→h.size≤y)→CurW W G C x h' cb [f]→f.rem x=wl x m l→Upd No h h'→K (some ⟨cb,0,none⟩) h'):HC PG wG [.pointer r] [.c .ptr] K h:=by
 refine Ju r ?_;unfold Ct Ro D6;refine HN t hm hn fun h2 f hfr fo k2=>?_
 refine aG fun h3 b3 k3=>aG fun h4 b4 k4=>?_
 have z3:=aJ b3;have z4:=aJ b4;have s2:=k2.size;have s3:=k3.size;have o3:OwnS Mu 2 dV (fun y=>y=h2.size) h3 ⟨some (az h2),1,1⟩ [f.raw]:=⟨rfl,NA,ao _,.inr ⟨h2.size,[],rfl,rfl,b3,rfl⟩⟩
 refine hk h4 h3.size f (fun y=>h.size≤y∧y<h2.size) (fun y=>y=h2.size) (by omega) (fun y hy=>by rcases hy with h|h<;>omega) ⟨⟨_,0,b4,o3.upd k4 fun _ _ h=>h⟩,fun g hg=>?_,fun y hy=>by rcases hy with h|h<;>omega,fun y hy=>⟨by omega,by omega⟩,by omega,⟨fun y hy=>hW y (by omega),hW _ (by omega)⟩,cl ..⟩ hfr ((k2.tr k3).tr k4)
 rw[aB.1 hg];exact fo.upd (k3.tr k4) (fun _ h=>h.elim) fun _ h=>h.elim
theorem HP{W:Nat→Prop}{x:Hs}{h:ad}{m:Nat}{r:Option Addr}{l:List Pr}(t:Below W x h m r l)(hm:m≤13)(hn:l.length≤100000){K:Value→ad→Prop}
  (hk:∀fv h',Gives PG fv Pe l.length (fun xs=>xs=wl x m l) (fun y=>y<h'.size) h'→Upd No h h'→K fv h'):HC PG wH [.pointer r] [.c .raw] K h:=by
 refine Jv r ?_;unfold Cu;refine aG fun h1 b1 k1=>?_
 have z1:=aJ b1;refine hk _ h1 ?_ k1;have t1:=Below.less (W':=fun y=>h1.size≤y) (fun y hy=>.inr hy) (Below.upd0 k1 t)
 have hwl:=Ez x m l;refine⟨fun y hy=>hy,p6,#[],_,rfl,fun y J A M h4 K' ht hj hu hq ha hk'=>?_⟩
 refine Dr y (az h) ?_;unfold tF nv o9 av kU sP pO;have d1:=hu.get b1 (hq _ z1);have s4:=hu.size;have t4:Below (fun y=>h1.size≤y) x h4 m r l:=Below.updM hu (fun y hy=>.inl (by
  rcases bN y h1.size with hl|hl
  ·exact absurd hy (hq y hl)
  ·exact hl)) t1
 refine⟨_,aV d1,?_⟩;refine HO t4 hm hn (fun y hy=>bh s4 hy) fun h5 cb f G C hcb hGC cur hfr k5=>?_
 have hAlt:=ht.lt _ _ _ hj;have hA3:∀y,A y→h1.size≤y:=fun y hy=>by
  rcases bN y h1.size with hl|hl
  ·exact absurd hl (ha y hy)
  ·exact hl
 have s5:=k5.size;have hrem0:yR x [f]=wl x m l:=by rw[←hfr];simp[yR]
 refine LoopP.ghost (fun(g:List Pr×List Fr×(Nat→Prop)×(Nat→Prop)×(Nat→Prop)) (_:Unit) h'=>CurW (fun y=>h1.size≤y) g.2.2.2.1 g.2.2.2.2 x h' cb g.2.1∧J g.1 g.2.2.1 h'∧Upd A h4 h'∧(∀y,g.2.2.1 y→(A y∨h4.size≤y)∧¬g.2.2.2.1 y∧¬g.2.2.2.2 y∧y≠cb)∧(∀y,g.2.2.2.1 y∨g.2.2.2.2 y→h4.size≤y)∧g.1++yR x g.2.1=wl x m l∧h5.size≤h'.size) (fun g=>(yR x g.2.1).length) ([],[f],A,G,C)
  ⟨cur,ht.keep _ _ _ _ No hj k5 (fun _ _ h=>h),k5.wide,fun y hy=>⟨.inl hy,fun hx=>by have:=hAlt y hy;have:=hGC y (.inl hx);omega,fun hx=>by have:=hAlt y hy;have:=hGC y (.inr hx);omega,fun e=>by have:=hAlt y hy;omega⟩,hGC,by rw[hrem0];rfl,ao _⟩ ?_
 rintro I ⟨pre,fs,A1,G1,C1⟩ ⟨⟩ h' ⟨cu,hj',hu',hA1,hGC1,hrem,hsz⟩ hI;simp only at cu hj' hA1 hGC1 hrem;have hlt':=ht.lt _ _ _ hj';have hA1W:∀y,A1 y→h1.size≤y:=fun y hy=>(hA1 y hy).1.elim (hA3 y) fun h=>by omega
 have hd:∀y,A1 y→¬(C1 y∨y=cb):=fun y hy hx=>hx.elim (hA1 y hy).2.2.1 (hA1 y hy).2.2.2
 have hC4:∀y,C1 y∨y=cb→h4.size≤y:=fun y hy=>hy.elim (fun h=>hGC1 y (.inr h)) fun e=>by omega
 refine F4 cu (fun y hy=>by omega) (fun h6 hr0 hu6=>?_) fun h6 fs' p R G' C' hr1 hr2 cu6 hC' hG' hu6=>?_
 ·have hj6:=ht.keep _ _ _ _ _ hj' hu6 hd
  refine pN fun h7 b7 k7=>?_
  refine Join.intro (fun t h8=>t=true∧h8=h7) (fun R hR=>aw.2 (hR _ _ ⟨rfl,rfl⟩)) ?_
  rintro t h8 ⟨rfl,rfl⟩;refine aw.2 (hk' pre A1 h8 ?_ (ht.keep _ _ _ _ No hj6 k7 (fun _ _ h=>h)) ?_ fun y hy=>(hA1 y hy).1)
  ·rw[hr0,aW]at hrem
   exact hrem
  ·exact(hu'.trans hu6 fun y hy=>.inr (hC4 y hy)).tr k7.wide
 ·have hj6:=ht.keep _ _ _ _ _ hj' hu6 hd
  refine pN (p:=p) fun h7 b7 k7=>?_
  have hj7:=ht.keep _ _ _ _ No hj6 k7 (fun _ _ h=>h)
  have cu7:=cu6.upd k7 (fun _ h=>h.elim) (fun _ _ h=>h) (fun _ _ h=>h) fun h=>h
  have hu47:Upd A h4 h7:=(hu'.trans hu6 fun y hy=>.inr (hC4 y hy)).tr k7.wide
  have s6:=hu6.size;have s7:=k7.size;refine Join.intro (fun t h8=>t=false∧∃A3,J (pre++ [p]) A3 h8∧Upd A1 h7 h8∧∀y,A3 y→A1 y∨h7.size≤y) (fun R' hR=>?_) ?_
  ·refine al.2 ⟨_,vc b7 0,_,vc b7 1,?_⟩
   refine ht.step pre A1 h7 p _ hj7 ?_ fun h8 A3 hj8 hu8 hA8=>hR _ _ ⟨rfl,A3,hj8,hu8,hA8⟩
   have:=congrArg dT hrem;rw[hr1]at this;simp only[ac,ax]at this;omega
  ·rintro t h8 ⟨rfl,A3,hj8,hu8,hA8⟩
   have hG'1:∀y,G' y→¬A1 y:=fun y hy hx=>(hG' y hy).elim (hA1 y hx).2.1 fun h=>by have:=hlt' y hx;omega
   have hC'1:∀y,C' y→¬A1 y:=fun y hy hx=>(hC' y hy).elim (hA1 y hx).2.2.1 fun h=>by have:=hlt' y hx;omega
   have hcb6:cb<h6.size:=by obtain⟨s,d,hx,_⟩:=cu6.ex;exact aJ hx
   refine al.2 (hI (pre++ [p],fs',A3,G',C') () h8 ⟨?_,hj8,?_,fun y hy=>?_,fun y hy=>?_,?_,by have:=hu8.size;omega⟩ ?_)
   ·exact cu7.upd hu8 (fun y hy=>.inl (hA1W y hy)) hC'1 hG'1 fun hx=>(hA1 _ hx).2.2.2 rfl
   ·exact hu47.trans hu8 fun y hy=>(hA1 y hy).1
   ·rcases hA8 y hy with h|h
    ·exact⟨(hA1 y h).1,fun hx=>hG'1 y hx h,fun hx=>hC'1 y hx h,(hA1 y h).2.2.2⟩
    ·exact⟨.inr (by omega),fun hx=>by have:=cu6.lt y (.inr hx);omega,fun hx=>by have:=cu6.lt y (.inl hx);omega,by omega⟩
   ·rcases hy with hy|hy
    ·rcases hG' y hy with h|h
     ·exact hGC1 y (.inl h)
     ·omega
    ·rcases hC' y hy with h|h
     ·exact hGC1 y (.inr h)
     ·omega
   ·simp only
    rw[aq,hr2,←hrem,hr1];rfl
   ·simp only
    rw[hr1,hr2];simp
theorem vH{W W':Nat→Prop}{x:Hs}{h:ad}{m:Nat}{r:Option Addr}{l:List Pr}(t:Below W x h m r l)(hm:m≤13)(hr:dD l)(hn:l.length≤100000)(hW':∀y,W' y→y<h.size){K:SliceV→ad→Prop}
  (hk:∀s' h',Sl eC 2 W' h' s' l→s'.len≤s'.cap→Upd No h h'→K s' h'):HC PG rB [.pointer r] [.c .slice] K h:=by
 refine Df r ?_;unfold vW;refine HP t hm hn fun fv h2 hg k2=>?_
 refine zW hg (by omega) fun s3 h3 xs e ho k3=>?_
 subst e;have hwl:=Ez x m l;refine Lo (W':=W') (ho.sl (W:=No) fun _ _ _ h=>h) (fun y hy=>bB (hW' y hy) (k2.tr k3).size) (by omega) fun s4 h4 hs4 hc4 k4=>?_
 rw[P4 hr]at hs4;exact hk s4 h4 hs4 hc4 ((k2.tr k3).tr k4)
theorem HW{W W':Nat→Prop}{x:Hs}{h:ad}{t:Tr}{l:List Pr}(i:TreeIs W h 0 x t l)(hr:dD l)(hn:l.length≤60000)(hW':∀y,W' y→y<h.size){K:SliceV→ad→Prop}
  (hk:∀s' h',Sl eC 2 W' h' s' l→Upd No h h'→K s' h'):HC PG fR [An t] [.c .slice] K h:=by
 rcases i with⟨_,b,rfl,t⟩|⟨e,_⟩
 ·refine nL _ ?_
  unfold kN aM au gB OT LQ;refine aG fun h1 b1 k1=>⟨_,vc b1 0,al.2 ⟨_,vc b1 4,?_⟩⟩
  exact vH (W':=W') (.inr ⟨b,rfl,TrieAt.upd0 k1 t⟩) (ao _) hr (by omega) (fun y hy=>bB (hW' y hy) k1.size) fun s4 h4 hs4 _ k4=>hk s4 h4 hs4 (k1.tr k4)
 ·cases e
theorem Ll{W W':Nat→Prop}{x:Hs}{h:ad}{kind:Int}{t:Tr}{l:List Pr}(i:TreeIs W h kind x t l)(hr:dD l)(hf:Fit l)(hn:l.length≤60000)(hW':∀y,W' y→y<h.size){K:SliceV→ad→Prop}
  (hk:∀s' h',Sl eC 2 W' h' s' l→Upd No h h'→K s' h'):HC PG fR [An t] [.c .slice] K h:=by
 have i0:=i;rcases i with⟨rfl,_⟩|⟨rfl,_,_,_⟩
 ·exact HW i0 hr hn hW' hk
 ·exact Bg i0 hr hf hn fun s' h' ho k=>hk s' h' (ho.sl fun y hy _ hw=>by have:=hW' y hw;omega) k
end Go.Proofs
namespace Go.Proofs
open Go Go.Lift
abbrev tzL:List Nat:= [0,1,28,2,29,14,24,3,30,22,20,15,25,17,4,8,31,27,13,23,21,19,16,7,26,12,18,6,11,5,10,9]
def Tab(h:ad):Prop:=∀i,i<32→aN h ⟨0,i,none⟩=some (.int .u8 ((tzL.getD i 0:Nat):Int))
theorem Tab.upd{M:Nat→Prop}{h h':ad}(t:Tab h)(k:Upd M h h')(hm:¬M 0):Tab h':=fun i hi=>k.cell (t i hi) hm
theorem PZ:∀c:Fin 32,ee (IntKind.wrap .u32 (IntKind.wrap .u32 ((2^c.val:Nat):Int)*125613361)) (2^(min (27:Int).toNat (IntKind.bits .u32)))=((2^c.val*125613361%4294967296/134217728:Nat):Int)∧2^c.val*125613361%4294967296/134217728<32∧tzL.getD (2^c.val*125613361%4294967296/134217728) 0=c.val:=by decide+kernel
theorem NZ{a b:Nat}(ha:a<4294967296)(hb:b<4294967296):(aj (IntKind.bits .u32) (a:Int)&&&aj (IntKind.bits .u32) (b:Int)).toNat=a&&&b:=by
 rw[show IntKind.bits .u32=32 from rfl,eT,eT,BitVec.toNat_and,m7,m7,dw (show a<2^32 from ha),dw (show b<2^32 from hb)]
theorem QP{h:ad}(tb:Tab h){x c:Nat}(hx:x<4294967296)(hc:c<32)(hb:x.testBit c=true)(hl:∀j,j<c→x.testBit j=false){K:Int→ad→Prop}(hk:K (c:Int) h):HC PG hE [.int .u32 (x:Int)] [.c (.int .i64)] K h:=by
 refine p9 x ?_;unfold kQ cf dd;have hp:0<x:=by
  rcases Nat.eq_zero_or_pos x with e|e
  ·rw[e,ip]at hb;cases hb
  ·exact e
 refine CondP.intro (fun e=>?_) fun _=>?_
 ·have e:(x:Int)=0:=by simpa using e
  omega
 have ew:IntKind.wrap .u32 (0-(x:Int))=((4294967296-x:Nat):Int):=by rw[IntKind.wrap_u32];omega
 rw[ew,NZ hx (by omega),O3 hb hl hc hx];obtain⟨e1,e2,e3⟩:=PZ ⟨c,hc⟩;simp only at e1 e2 e3;simp only[Bd];rw[e1];refine⟨by decide,⟨by omega,by omega⟩,((tzL.getD (2^c*125613361%4294967296/134217728) 0:Nat):Int),?_,?_⟩
 ·rw[Nat.mul_one,bP,aD,aP];exact tb _ e2
 ·rw[e3,jm (by omega)];exact hk
def dk(d k:Nat):Nat:=(d>>>k)<<<k
theorem y9(d k i:Nat):(dk d k).testBit i=(decide (k≤i)&&d.testBit i):=by
 unfold dk;rw[Nat.testBit_shiftLeft];by_cases h:k≤i
 ·rw[decide_eq_true (show i≥k from h),Nat.testBit_shiftRight];congr 2;omega
 ·rw[decide_eq_false (show ¬i≥k from h)];rfl
theorem PM(d k:Nat):dk d k≤d:=by
 unfold dk;rw[Nat.shiftLeft_eq,Nat.shiftRight_eq_div_pow];exact Nat.div_mul_le_self ..
theorem Pf(d:Nat):dk d 0=d:=jf fun i=>by rw[y9];simp
theorem DL{d:Nat}(hd:d<4294967296){bb:Nat}{h:ad}(hb:h[bb]? =some (.cells #[.int .u32 (d:Int)] sI (0,0)))
  {BODY:Int→(Option Ex→ad→Prop)→ad→Prop} {N:ad→Prop} {X:Nat→ad→Prop} {R:ad→Prop} (Inv:Nat→ad→Prop) (M:Nat→Prop)
  (tab:∀k h1,Inv k h1→Tab h1) (h0:Inv 0 h) (stab:∀k h1 h2,Inv k h1→h.size≤h1.size→Upd (fun b=>b=bb∨h.size≤b) h1 h2→Inv k h2)
  (hM:∀b,M b→b≠bb∧b<h.size)
  (step:∀k c h1 (KK:Option Ex→ad→Prop),Inv k h1→k≤c→c<32→d.testBit c=true→(∀j,k≤j→j<c→d.testBit j=false)→(∀h2,Inv (c+1) h2→Upd M h1 h2→KK none h2)→BODY (c:Int) KK h1)
  (fin:∀k h1,Inv k h1→(∀j,k≤j→j<32→d.testBit j=false)→h1[h.size]? =some (.deferred (some []))→N h1):
  RangeP PG (.func (.func ix) #[] #[.pointer (some ⟨bb,0,none⟩)]) [.c (.int .i64)] h
   (fun DK bz (x:Int) k h67=>(h67[(bT h+1)]? =some DK∧At (Array.setIfInBounds h67 (bT h+1) bz) (fun h69=>BODY x k h69))) N X R:=by
 refine⟨fun lo hlo hround=>?_⟩
 refine⟨ix,#[],#[.pointer (some ⟨bb,0,none⟩)],rfl,?_⟩;have zb:=aJ hb;have k1:Upd No h ((h.push (.deferred (some []))).push (lo .ready none)):=(Upd.push No _ _).tr (Upd.push No _ _);have l2:((h.push (.deferred (some []))).push (lo .ready none))[h.size+1]? =some (lo .ready none):=by
  have:=uo (h.push (.deferred (some []))) (lo .ready none);rwa [Array.size_push]at this
 have l1:((h.push (.deferred (some []))).push (lo .ready none))[h.size]? =some (.deferred (some [])):=(Upd.push No _ _).get0 (uo h _);have b1:=k1.get0 hb;have i1:=stab 0 _ _ h0 (ao _) k1.wide;have z1:=aJ l2;generalize (h.push (.deferred (some []))).push (lo .ready none)=h1 at k1 l2 l1 b1 i1 z1;refine vB (.func (.yield (h.size+1)) #[] #[]) ⟨bb,0,none⟩ ?_;unfold m4 cy
 refine LoopP.ghost (fun(k:Nat) (_:Unit) h'=>Inv k h'∧h'[bb]? =some (.cells #[.int .u32 ((dk d k:Nat):Int)] sI (0,0))∧h'[h.size]? =some (.deferred (some []))∧h'[h.size+1]? =some (lo .ready none)∧k≤32) (fun k=>33-k) 0 ⟨i1,by rw[Pf];exact b1,l1,l2,aR _⟩ ?_
 rintro I k ⟨⟩ h' ⟨hi,hb',hd',hl',hk32⟩ hI;have zz:=aJ hl';have hdl:=fC (PM d k) hd;refine⟨_,aV hb',CondP.intro (fun e=>?_) fun e=>?_⟩
 ·have hne:0<dk d k:=by
   have:((dk d k:Nat):Int)≠0:=by simpa using e
   omega
  obtain⟨c,hc,hcb,hcl⟩:=Ns (n:=32) hdl hne;have hb2:=hcb;rw[y9,Bool.and_eq_true,decide_eq_true_iff]at hb2;refine⟨_,aV hb',QP (tab k _ hi) hdl hc hcb hcl ?_⟩;refine hround (c:Int) h' _ hl' ⟨hl',?_⟩;have kb:Upd (· =h.size+1) h' (h'.setIfInBounds (h.size+1) (lo .busy none)):=Upd.set _ _ rfl
  have lb:=iY (o:=lo .busy none) hl';have sb:=kb.size;refine bj ?_;generalize h'.setIfInBounds (h.size+1) (lo .busy none)=h2 at kb lb sb;refine step k c h2 _ (stab k _ _ hi (by omega) (kb.mono fun b hb=>.inl (.inr (by omega)))) hb2.1 hc hb2.2 (fun j h1 h2=>?_) fun h3 hi3 hu3=>?_
  ·have:=hcl j h2
   rw[y9,decide_eq_true h1]at this;simpa using this
  have lb3:=hu3.get lb fun e=>by have:=(hM _ e).2;omega
  have hb3:=hu3.get (kb.get hb' (show ¬bb=h.size+1 by omega)) fun e=>(hM _ e).1 rfl
  have hd3:=hu3.get (kb.get hd' (show ¬h.size=h.size+1 by omega)) fun e=>by have:=(hM _ e).2;omega
  refine⟨lb3,?_⟩;have k5:Upd (· =h.size+1) h3 (h3.setIfInBounds (h.size+1) (lo .ready none)):=Upd.set _ _ rfl
  have l5:=iY (o:=lo .ready none) lb3;have hb5:=k5.get hb3 (show ¬bb=h.size+1 by omega)
  have hd5:=k5.get hd3 (show ¬h.size=h.size+1 by omega)
  have s3:=hu3.size;have i5:=stab (c+1) _ _ hi3 (by omega) (k5.mono fun b hb=>.inl (.inr (by omega)))
  simp only[Option.isNone_none,if_true];refine al.2 ?_;generalize h3.setIfInBounds (h.size+1) (lo .ready none)=h5 at k5 l5 hb5 hd5 i5;refine⟨_,aV hb5,_,aV hb5,?_⟩;have ew:IntKind.wrap .u32 (((dk d k:Nat):Int)-1)=((dk d k-1:Nat):Int):=by rw[IntKind.wrap_u32];omega
  have ea:dk d k&&&(dk d k-1)=dk d (c+1):=by
   refine jf fun i=>?_
   rw[L1 hcb hcl,y9,y9];by_cases hci:c<i
   ·rw[decide_eq_true hci,decide_eq_true (show k≤i by omega),decide_eq_true (show c+1≤i by omega)];simp
   ·rw[decide_eq_false hci,decide_eq_false (show ¬c+1≤i by omega)];simp
  simp only[Bd];rw[ew,NZ hdl (by omega),ea];have e32:IntKind.wrap .u32 ((dk d (c+1):Nat):Int)=((dk d (c+1):Nat):Int):=by have:=PM d (c+1);rw[IntKind.wrap_u32];omega
  rw[e32];refine⟨gS hb5 (by simp),rH hb5 fun h6 hb6 hu6=>?_⟩
  have s5:=k5.size;refine hI (c+1) () h6 ⟨stab _ _ _ i5 (by omega) (hu6.mono fun b hb=>.inl (.inl hb)),hb6,hu6.oth hd5 (by omega),hu6.oth l5 (by omega),hc⟩ (by omega)
 ·have hz:dk d k=0:=by
   have:((dk d k:Nat):Int)=0:=by simpa using e
   omega
  have k5:Upd (· =h.size+1) h' (h'.setIfInBounds (h.size+1) (lo .exhausted none)):=Upd.set _ _ rfl
  refine⟨.ready,none,by decide,hl',?_⟩
  refine fin k _ (stab k _ _ hi (by omega) (k5.mono fun b hb=>.inl (.inr (by omega)))) (fun j h1 _=>?_) (k5.get hd' (show ¬h.size=h.size+1 by omega))
  have:=y9 d k j;rw[hz,ip,decide_eq_true h1]at this;simpa using this.symm
end Go.Proofs
namespace Go.Proofs
open Go Go.Lift
abbrev PI(n:Nat):List Value:= [.int .i64 (n:Int)]
theorem Nk(n:Nat):(PI n).length=1∧0<1:=⟨rfl,by omega⟩
theorem yD{h:ad}{b:Nat}{c:Array Value}{t:TypeId}(hb:h[b]? =some (.cells c t (0,0))):aN h ⟨b,0,none⟩=c[0]?:=aV hb
theorem A9{h:ad}{b:Nat}{c c':Array Value}{t:TypeId}{v:Value}{k:ad→Prop}(hb:h[b]? =some (.cells c t (0,0))) (hi:0<c.size) (e:c.setIfInBounds 0 v=c') (hk:∀h',h'[b]? =some (.cells c' t (0,0))→Upd (· =b) h h'→k h'):Wr h ⟨b,0,none⟩∧At (hset h ⟨b,0,none⟩ v) k:=
 ⟨gS hb hi,rH hb fun h' hb' hu=>hk h' (e▸hb') hu⟩
theorem jR{h:ad}{b:Nat}{cs:List Value}{t:TypeId}(hb:h[b]? =some (.cells cs.toArray t (0,0))):SRow h (some ⟨b,0,none⟩) cs.length cs:=
 ⟨rfl,.inr ⟨_,rfl,oQ hb fun i v hv=>by rw[aD,List.getElem?_toArray];exact hv⟩⟩
theorem BN{W:Nat→Prop}{x:Hs}{k:ByteArray}{h:ad}{s:SliceV}{way:List Nat}(hs:Sl PI 1 W h s way)(hl:way.length≤13)(hw:∀i c,way[i]? =some c→ck x i k=c) {K:Bool→ad→Prop} (hk:K true h):HC PG mr [.int .u64 (hO x k),.slice s.a s.len s.cap] [.c .bool] K h:=by
 refine Di (hO x k) s ?_;unfold vZ cf dd cy nn;have hlen:=hs.len;refine LoopP.ghost (fun(i:Nat) (t:Int) h'=>t=(i:Int)∧i≤way.length∧h'=h) (fun i=>way.length-i) 0 ⟨rfl,aR _,rfl⟩ ?_
 rintro I i t h' ⟨rfl,hi,rfl⟩ hI;refine aE (fun hlt=>?_) fun _=>hk
 have hlt:i<way.length:=by omega
 obtain⟨a,ha,_,hv⟩:=hs.at0 (af hlt);refine⟨⟨by omega,by omega⟩,a,ha,_,hv,Pj (x:=x) (k:=k) (lev:=i) (by omega) ?_⟩
 rw[hw i _ (af hlt),bne_self_eq_false];refine al.2 ?_;rw[cp hlt (by omega)];exact hI (i+1) _ _ ⟨rfl,hlt,rfl⟩ (by omega)
theorem LO{W:Nat→Prop}{h:ad}{s:SliceV}{l:List Pr}(hs:Sl eC 2 W h s l)(hr:dD l)(hn:l.length≤1000000){K:Bool→ad→Prop}(hk:K true h):HC PG th [.slice s.a s.len s.cap] [.c .bool] K h:=by
 refine FP s ?_;unfold yw cf dd bC;have hlen:=hs.len;refine LoopP.ghost (fun(i:Nat) (t:Int) h'=>t=((i+1:Nat):Int)∧h'=h) (fun i=>l.length-i) 0 ⟨rfl,rfl⟩ ?_
 rintro I i t h' ⟨rfl,rfl⟩ hI;refine aE (fun hlt=>?_) fun _=>hk
 have hlt:i+1<l.length:=by omega
 have e1:IntKind.wrap .i64 (((i+1:Nat):Int)-1)=(i:Int):=by rw[jm (by omega)];omega
 rw[e1];obtain⟨a,ha,_,hv⟩:=hs.at (af (show i<l.length by omega))
 obtain⟨a',ha',_,hv'⟩:=hs.at (af hlt);refine⟨⟨by omega,by omega⟩,a,ha,_,hv 0 _ rfl,⟨by omega,by omega⟩,a',ha',_,hv' 0 _ rfl,?_⟩
 have:=List.pairwise_iff_getElem.1 hr i (i+1) (by omega) hlt (by omega);have hb:Op.bytesLess l[i].1.toList l[i+1].1.toList=true:=this;rw[hb];refine al.2 ?_;rw[cp hlt (by omega)];exact hI (i+1) _ _ ⟨rfl,rfl⟩ (by omega)
theorem Lp(x:Hs)(lev:Nat)(l:List Pr):(fZ x lev l).length+(g6 x lev l).flatten.length=l.length:=by
 have h:=rV x lev l 32;have hle:(l.filter fun p=>decide (ck x lev p.1<32))=l:=g8.2 fun p _=>decide_eq_true (Ce ..)
 rw[hle]at h;have:∀n,(fm (fun c=>gd (part x lev c l)) n).length+(fm (fun c=>el (part x lev c l)) n).flatten.length=((fF n).map fun c=>(part x lev c l).length).sum:=by
  intro n;induction n with
  |zero=>simp[fm]
  |succ n ih=>
   rw[gb,gb,iV,cd,g4];simp only[ac,dX,co,j1,jl,tI,cU];generalize part x lev n l=q;have:(gd q).toList.length+(el q).toList.flatten.length=q.length:=by
    match q with
    | []=>simp[gd,el]
    | [a]=>simp[gd,el]
    |a::b::q=>simp[gd,el]
   omega
 have:=this 32;unfold fZ g6;omega
theorem Fc{β:Type}{g:Nat→Option β}{k:Nat}:∀{c:Nat},k≤c→(∀j,k≤j→j<c→g j=none)→fm g c=fm g k
 |0,h,_=>by rw[show k=0 by omega]
 |c+1,h,hn=>by
  rcases bN k (c+1)with hk|hk
  ·rw[gb,hn c (by omega) (by omega),Fc (by omega) fun j h1 h2=>hn j h1 (by omega)];simp
  ·rw[show k=c+1 by omega]
end Go.Proofs
namespace Go.Proofs
open Go Go.Lift
theorem Gy:∀F:Fo,(vu F).length=(F.toL.map fun n=>(ma n.2.1 n.2.2).length).sum
 | .nil=>rfl
 | .cons lab w kids rest=>by
  rw[DQ,Fo.toL_cons,co,jl,←Gy rest,ac,bF];rfl
def QA(n:Bn):Prop:=∀{W:Nat→Prop} {h:ad} {b:Nat} {sl:ByteArray},RxN W h b sl n.2.1 n.2.2→(ma n.2.1 n.2.2).length≤1000000000→∀{K:Int→ad→Prop},(∀h',Upd No h h'→K (((ma n.2.1 n.2.2).length:Nat):Int) h')→HC PG qS [.pointer (some ⟨b,0,none⟩)] [.c (.int .i64)] K h
theorem KE{lab:List UInt8}{w:Option ByteArray}{F:Fo}(hn:F.toL.length≤256)(ih:∀n∈F.toL,QA n):QA (lab,w,F):=by
 intro W h b sl r hl K hk;simp only at r hl hk;refine Hl (some ⟨b,0,none⟩) ?_;unfold Ae cf dd cy BR;have hpl:(ma w F).length=(w.map fun v=>(([]:List UInt8),v)).toList.length+(F.toL.map fun n=>(ma n.2.1 n.2.2).length).sum:=by
  rw[←Gy,←ac];rfl
 refine Join.intro (fun t h'=>t=(((w.map fun v=>(([]:List UInt8),v)).toList.length:Nat):Int)∧h'=h) (fun R hR=>?_) ?_
 ·refine Bp r fun v _=>?_
  cases w with
  |none=>exact al.2 (hR _ _ ⟨rfl,rfl⟩)
  |some u=>exact aw.2 (hR _ _ ⟨rfl,rfl⟩)
 ·rintro t h' ⟨rfl,rfl⟩
  generalize (w.map fun v=>(([]:List UInt8),v)).toList.length=c0 at hpl
  refine DF r hn fun s1 h1 ks ho1 hL1 k1=>?_
  have hs1:Sl ul 1 No h1 s1 ks:=ho1.sl fun _ _ _ h=>h
  have hlen:=hs1.len;rw[hL1.1]at hlen;refine LoopP.ghost (fun(i:Nat) (t:Int×Int) h2=>t.1=((c0+((F.toL.take i).map fun n=>(ma n.2.1 n.2.2).length).sum:Nat):Int)∧t.2=(i:Int)∧i≤F.toL.length∧Upd No h1 h2) (fun i=>F.toL.length-i) 0 ⟨by simp,rfl,aR _,Upd.refl _ _⟩ ?_
  rintro I i ⟨ta,ti⟩ h2 ⟨e1,e2,hi,hu⟩ hI;simp only at e1 e2;subst e1 e2;have hle:∀i,((F.toL.take i).map fun n=>(ma n.2.1 n.2.2).length).sum≤(F.toL.map fun n=>(ma n.2.1 n.2.2).length).sum:=fun i=>by
   conv=>rhs;rw[←aF i F.toL,cd,g4]
   omega
  refine aE (fun hlt=>?_) fun hge=>?_
  ·have hlt:i<F.toL.length:=by have:(i:Int)<(s1.len:Int):=hlt;omega
   obtain⟨kb,ksl,hki,_,hkn⟩:=(hL1.upd0 hu).at hlt;obtain⟨a,ha,_,hv⟩:=(hs1.upd hu fun _ h=>h.elim).at0 hki
   refine⟨⟨by simp only;omega,by simp only;omega⟩,a,ha,some ⟨kb,0,none⟩,hv,?_⟩
   have hst:((F.toL.take (i+1)).map fun n=>(ma n.2.1 n.2.2).length).sum=((F.toL.take i).map fun n=>(ma n.2.1 n.2.2).length).sum+(ma F.toL[i].2.1 F.toL[i].2.2).length:=by
    rw[bv hlt,cd,g4];simp
   have h1:=hle (i+1);refine ih _ (bI hlt) hkn (by omega) fun h3 hu3=>?_
   rw[cp hlt (by omega)];have e:IntKind.wrap .i64 (((c0+((F.toL.take i).map fun n=>(ma n.2.1 n.2.2).length).sum:Nat):Int)+((ma F.toL[i].2.1 F.toL[i].2.2).length:Int))=((c0+((F.toL.take (i+1)).map fun n=>(ma n.2.1 n.2.2).length).sum:Nat):Int):=by
    rw[jm (by omega)];omega
   rw[e];exact hI (i+1) _ _ ⟨rfl,rfl,hlt,hu.tr hu3⟩ (by omega)
  ·have hil:i=F.toL.length:=by have:¬(i:Int)<(s1.len:Int):=hge;omega
   subst hil;rw[bW,←hpl];exact hk h2 (k1.tr hu)
theorem BM:∀{F:Fo},gi F→∀n∈F.toL,QA n
 | .nil,_,n,hn=>by simp[Fo.toL]at hn
 | .cons lab w kids rest,h,n,hn=>by
  rcases aA.1 hn with rfl|hn
  ·exact KE (kM h.2.2.1) (BM h.2.2.1)
  ·exact BM h.2.2.2.2 n hn
theorem Gb{W:Nat→Prop}{x:Hs}{h:ad}{t:Tr}{l:List Pr}(i:TreeIs W h 1 x t l)(hr:dD l)(hn:l.length≤60000){K:Int→ad→Prop}(hk:∀h',Upd No h h'→K (l.length:Int) h'):HC PG gX [An t] [.c (.int .i64)] K h:=by
 refine pG t ?_;unfold mL aM au gB cy;rcases i with⟨e,_⟩|⟨_,b,rfl,t⟩
 ·cases e
 refine aG fun h1 b1 k1=>⟨_,vc b1 0,aw.2 ⟨_,vc b1 5,?_⟩⟩
 obtain⟨w,F,r1,r2,r3⟩:=(t.upd0 k1).ex;have hp:=AK r2 hr r3;have hpl:=congrArg dT hp;unfold Bb at hpl;rw[bF]at hpl;refine KE (lab:= []) (kM r2) (BM r2) r1 (by simp only;omega) fun h2 k2=>?_
 simp only;rw[hpl];exact hk h2 (k1.tr k2)
theorem Gc{t:Tr}{h:ad}{K:Int→ad→Prop}(hk:∀h',Upd No h h'→K t.1 h'):HC PG lL [An t] [.c (.int .i64)] K h:=by
 refine zl t ?_;unfold sm aM gB;exact aG fun h1 b1 k1=>⟨_,vc b1 0,hk h1 k1⟩
theorem Jo{h:ad}{K:Bool→ad→Prop}(hk:∀h',Upd No h h'→K true h'):HC PG uH [] [.c .bool] K h:=by
 refine Hv ?_;unfold Al dd aM ae au nv ml gB oe o9 yX cy bC zg0;have hx0:Hs:=⟨0,0,0⟩;refine EK (W:=fun y=>y<h.size) (x:=⟨0,0,0⟩) (fun _ h=>h) (.inr rfl) fun h2 t i2 k2=>?_
 refine aG fun h3 b3 k3=>?_
 refine bo (c:=dZ iP) (vs:=dZ t) b3 rfl fun h4 b4 hu4=>?_
 have k24:Upd No h2 h4:=k3.own hu4 (ao _);have k04:=k2.tr k24;have s2:=k2.size;have s4:=k24.size;have z4:=aJ b4;refine⟨_,vc b4 0,_,vc b4 1,_,vc b4 2,_,vc b4 3,_,vc b4 4,_,vc b4 5,?_⟩;refine Ga (W:=fun y=>y<h.size) (i2.upd0 k24) (fun y hy=>by omega) cE (aR _) (⟨#[97]⟩,⟨#[49]⟩) (by decide) (by decide) fun h12 u i12 _ k12=>?_
 refine aG fun h13 b13 k13=>?_
 refine bo (c:=dZ iP) (vs:=dZ u) b13 rfl fun h14 b14 hu14=>?_
 have k1214:Upd No h12 h14:=k13.own hu14 (ao _);have z14:=aJ b14;refine⟨_,vc b14 0,_,vc b14 1,_,vc b14 2,_,vc b14 3,_,vc b14 4,_,vc b14 5,?_⟩;have hri:dD (gD ((⟨#[97]⟩:ByteArray),(⟨#[49]⟩:ByteArray)) []):=cl ..;refine Bg (i12.upd0 k1214) hri (fun p hp=>by have:=aB.1 hp;subst this;exact⟨by decide,by decide⟩) (by decide) fun s22 h22 ho22 k22=>?_
 have hlen:=ho22.len;have hs22:=ho22.sl (W:=No) fun _ _ _ h=>h
 obtain⟨a,ha,_,hv⟩:=hs22.at (i:=0) (x:=((⟨#[97]⟩:ByteArray),(⟨#[49]⟩:ByteArray))) rfl;have e1:((s22.len:Int)==(1:Int))=true:=by rw[hlen];rfl
 refine aw.2 (aw.2 ?_);rw[e1];refine aw.2 ⟨⟨by omega,by rw[hlen];decide⟩,a,ha,⟨#[97]⟩,hv 0 _ rfl,?_⟩
 rw[beq_self_eq_true];have c22:=k22.get0 (k1214.get0 (k12.get0 b4));refine aw.2 ⟨_,vc c22 0,_,vc c22 1,_,vc c22 2,_,vc c22 3,_,vc c22 4,_,vc c22 5,?_⟩;have k422:=(k12.tr k1214).tr k22;refine Gb ((i2.upd0 k24).upd0 k422) cE (by decide) fun h32 k32=>aw.2 ?_
 have c32:=k32.get0 (k22.get0 b14);refine⟨_,vc c32 0,_,vc c32 1,_,vc c32 2,_,vc c32 3,_,vc c32 4,_,vc c32 5,Gc fun h40 k40=>?_⟩
 have eu:u.1=1:=by
  rcases i12 with⟨e,_⟩|⟨_,b,rfl,_⟩
  ·cases e
  ·rfl
 rw[eu];exact hk h40 (((k04.tr k422).tr k32).tr k40)
end Go.Proofs
namespace Go.Proofs
open Go Go.Lift
theorem MV(x:Hs)(lev:Nat)(l:List Pr):(fZ x lev l).length+(g6 x lev l).flatten.length=l.length:=by
 have h:=rV x lev l 32;have hle:(l.filter fun p=>decide (ck x lev p.1<32))=l:=g8.2 fun p _=>decide_eq_true (Ce ..)
 rw[hle]at h;have:∀n,(fm (fun c=>gd (part x lev c l)) n).length+(fm (fun c=>el (part x lev c l)) n).flatten.length=((fF n).map fun c=>(part x lev c l).length).sum:=by
  intro n;induction n with
  |zero=>simp[fm]
  |succ n ih=>
   rw[gb,gb,iV,cd,g4];simp only[ac,dX,co,j1,jl,tI,cU];generalize part x lev n l=q;have:(gd q).toList.length+(el q).toList.flatten.length=q.length:=by
    match q with
    | []=>simp[gd,el]
    | [a]=>simp[gd,el]
    |a::b::q=>simp[gd,el]
   omega
 have:=this 32;unfold fZ g6;omega
theorem IT{W:Nat→Prop}{x:Hs}{h:ad}{m:Nat}{ks:List (Option Addr)}:∀{ls:List (List Pr)},KidsAt W x h m ks ls→ks.length=ls.length∧∀i (hi:i<ls.length),∃kb,ks[i]? =some (some ⟨kb,0,none⟩)∧TrieAt W x h m kb ls[i]:=by
 induction ks with
 |nil=>intro ls;cases ls with
  |nil=>intro _;exact⟨rfl,fun i hi=>absurd hi (Nat.not_lt_zero _)⟩
  |cons a ls=>intro h;exact h.elim
 |cons k ks ihk=>intro ls;cases ls with
  |nil=>intro h;exact h.elim
  |cons a ls=>
   rintro⟨⟨kb,rfl,tk⟩,h⟩;obtain⟨e,hr⟩:=ihk h;refine⟨by simp[e],fun i hi=>?_⟩
   cases i with
   |zero=>exact⟨kb,rfl,tk⟩
   |succ i=>simp only[List.getElem?_cons_succ,List.getElem_cons_succ];exact hr i (by simpa using hi)
theorem O4{x:Hs}{W:Nat→Prop}:∀(m:Nat),m≤13→∀{b:Nat} {l:List Pr} {h:ad},TrieAt W x h m b l→l.length≤60000→∀{K:Int→ad→Prop},(∀h',Upd No h h'→K (l.length:Int) h')→HC PG qV [.pointer (some ⟨b,0,none⟩)] [.c (.int .i64)] K h:=by
 intro m;induction m with
 |zero=>
  intro _ b l h t hn K hk;refine uS _ ?_;unfold rp cf dd cy;have bk:∀{h'},Upd No h h'→BuckAt W h' b l:=fun k=>BuckAt.upd t k fun _ h=>h.elim
  obtain⟨sp,sk,ow,hb,hsp,hsk,_⟩:=(bk (Upd.refl No h)).ex;refine pd hb hsp (by omega) fun s1 h1 ho1 k1=>?_
  obtain⟨sp1,sk1,ow1,hb1,hsp1,hsk1,_⟩:=(bk k1).ex;refine AP hb1 hsk1 (by simp) fun s2 h2 ho2 k2=>?_
  have e2:=ho2.len;rw[aZ]at e2;refine LoopP.ghost (fun(_:Unit) (t:Int×Int) h'=>t=((s1.len:Int),0)∧h'=h2) (fun _=>0) () ⟨rfl,rfl⟩ ?_
  rintro I _ t h3 ⟨rfl,e⟩ hI;rw[e];refine aE (fun hlt=>absurd hlt (by simp only;omega)) fun _=>?_
  simp only;rw[ho1.len];exact hk h2 (k1.tr k2)
 |succ m ih=>
  intro hm b l h t hn K hk;refine uS _ ?_;unfold rp cf dd cy;obtain⟨sl,nd,hs0⟩:=t;have hs:∀c,c<32→SlotIs W x h m sl c (part x (12-m) c l):=hs0;have hd:∀{h'},Upd No h h'→∃d n sp sk ow,h'[b]? =some (.cells (fA d n sp sk false ow) bE (0,0))∧Sl eC 2 W h' sp (fZ x (12-m) l)∧Sl pz 1 W h' sk (fm sl.k 32):=fun{h'} k=>by
   obtain⟨d,n,sp,sk,ow,hb,bits,h3,h4,_⟩:=(nd.upd k fun _ h=>h.elim).ex
   refine⟨d,n,sp,sk,ow,hb,?_,h4⟩;rw[←AJ hs];exact h3
  have hka:KidsAt W x h m (fm sl.k 32) (g6 x (12-m) l):=E5 32 hs;have hml:∀L∈g6 x (12-m) l,L.length≤60000:=fun L hL=>by
   obtain⟨_,c,rfl⟩:=lK hL;exact bh mp hn
  have he:=MV x (12-m) l;obtain⟨hkl,hkt⟩:=IT hka;generalize fZ x (12-m) l=So at hd he;generalize g6 x (12-m) l=Ma at hml he hkl hkt;obtain⟨d,n,sp,sk,ow,hb,hsp,_⟩:=hd (Upd.refl No h);refine pd hb hsp (by omega) fun s1 h1 ho1 k1=>?_
  obtain⟨d1,n1,sp1,sk1,ow1,hb1,_,hsk1⟩:=hd k1;have hk32:=vO (g:=sl.k);refine AP hb1 hsk1 (by omega) fun s2 h2 ho2 k2=>?_
  have S2:Sl pz 1 No h2 s2 (fm sl.k 32):=ho2.sl fun _ _ _ h=>h
  have hlk:=S2.len;refine LoopP.ghost (fun(i:Nat) (t:Int×Int) h'=>t.1=((So.length+(Ma.take i).flatten.length:Nat):Int)∧t.2=(i:Int)∧i≤Ma.length∧Upd No h2 h') (fun i=>Ma.length-i) 0 ⟨by rw[ho1.len];simp,rfl,aR _,Upd.refl _ _⟩ ?_
  rintro I i ⟨tn,ti⟩ h3 ⟨e1,e2,hi,hu⟩ hI;simp only at e1 e2;subst e1 e2;refine aE (fun hlt=>?_) fun hge=>?_
  ·have hlt:i<Ma.length:=by simp only at hlt;omega
   obtain⟨kb,hk1,tk⟩:=hkt i hlt;obtain⟨a,ha,_,hv⟩:=(S2.upd hu fun _ h=>h.elim).at0 hk1
   refine⟨⟨by simp only;omega,by simp only;omega⟩,a,ha,some ⟨kb,0,none⟩,hv,?_⟩
   have hsp:(Ma.take i).flatten.length+Ma[i].length≤Ma.flatten.length:=by
    have e:Ma=Ma.take i++Ma[i]::Ma.drop (i+1):=by rw[List.getElem_cons_drop,aF]
    have:=congrArg (fun L=>(List.flatten L).length) e
    simp only[dX,fj,ac]at this;omega
   refine ih (by omega) (TrieAt.upd0 ((k1.tr k2).tr hu) tk) (hml _ (bI hlt)) fun h4 k4=>?_
   simp only;rw[cp hlt (by omega),jm (by omega)];refine hI (i+1) _ _ ⟨?_,rfl,hlt,hu.tr k4⟩ (by omega);rw[bv hlt,dX];simp only[fj,List.flatten_nil,aW,ac];omega
  ·have hil:i=Ma.length:=by simp only at hge;omega
   subst hil;simp only;rw[bW,he];exact hk h3 ((k1.tr k2).tr hu)
theorem OA{W:Nat→Prop}{x:Hs}{h:ad}{kind:Int}{t:Tr}{l:List Pr}(i:TreeIs W h kind x t l)(hr:dD l)(hn:l.length≤60000){K:Int→ad→Prop}(hk:∀h',Upd No h h'→K (l.length:Int) h'):HC PG gX [An t] [.c (.int .i64)] K h:=by
 rcases i with⟨rfl,b,rfl,tt⟩|⟨rfl,b,rfl,tt⟩
 ·refine pG _ ?_
  unfold mL aM au gB cy;refine aG fun h1 b1 k1=>⟨_,vc b1 0,al.2 ⟨_,vc b1 4,?_⟩⟩
  exact O4 13 (ao _) (TrieAt.upd0 k1 tt) hn fun h2 k2=>hk h2 (k1.tr k2)
 ·exact Gb (x:=x) (.inr ⟨rfl,b,rfl,tt⟩) hr hn hk
end Go.Proofs
namespace Go.Proofs
open Go Go.Lift
theorem Ka(n:Nat):IntKind.wrap .u64 (n:Int)=((n%18446744073709551616:Nat):Int):=by rw[IntKind.wrap_u64];omega
theorem xt{n:Nat}(h:n<18446744073709551616):IntKind.wrap .u64 (n:Int)=(n:Int):=by rw[Ka,dw h]
theorem BE{a b:Nat}(ha:a<18446744073709551616)(hb:b<18446744073709551616):BG a b=((a|||b:Nat):Int):=by
 unfold BG;rw[show IntKind.bits .u64=64 from rfl,eT,eT,BitVec.toNat_or,m7,m7,dw (show a<2^64 from ha),dw (show b<2^64 from hb)]
 exact xt (Nat.or_lt_two_pow (n:=64) ha hb)
theorem BF{n a b:Nat}(hb:b<2^n)(ha:a*2^n+b<18446744073709551616):BG ((a*2^n:Nat):Int) (b:Int)=((a*2^n+b:Nat):Int):=by
 rw[BE (by omega) (by omega),jZ a,Nat.two_pow_add_eq_or_of_lt hb]
def Ih(x:Nat):Nat:=x*2%18446744073709551616+x/9223372036854775808
def Bw:Nat→Nat→Nat
 |0,x=>x
 |n+1,x=>Ih (Bw n x)
theorem OH{n:Nat}(hn:n≤64){x a b:Nat}(hb:b<2^(64-n))(ha:a<2^n)(e:x=a*2^(64-n)+b):Bw n x=b*2^n+a:=by
 induction n generalizing a b with
 |zero=>
  have:a=0:=by simpa using ha
  subst this;rw[e];simp[Bw]
 |succ n ih=>
  have e1:(2:Nat)^(64-n)=2*2^(64-(n+1)):=by rw[show 64-n=(64-(n+1))+1 by omega,l6,jZ]
  have e2:(2:Nat)^(n+1)=2*2^n:=by rw[l6,jZ]
  have e3:(2:Nat)^(64-(n+1))*2^n=9223372036854775808:=by rw[←rq,show 64-(n+1)+n=63 by omega]
  have h1:a%2<2:=oJ _ (by omega);have h2:=Nat.div_add_mod a 2;have ha2:a/2<2^n:=by omega
  have hB:a%2*2^(64-(n+1))+b<2^(64-n):=by
   rw[e1];have:a%2*2^(64-(n+1))≤1*2^(64-(n+1)):=cg _ (by omega);omega
  have e4:x=a/2*2^(64-n)+(a%2*2^(64-(n+1))+b):=by
   rw[e,e1,←jj,←Nat.mul_assoc,←ie,jZ (a/2) 2,h2]
  have:=ih (by omega) hB ha2 e4;show Ih (Bw n x)=_
  rw[this,ie,Nat.mul_assoc,e3,e2];unfold Ih;have hb2:b*2^n+2^n≤2^(64-(n+1))*2^n:=by
   rw[←jd];exact cg _ hb
  rw[e3]at hb2;have e5:b*(2*2^n)=2*(b*2^n):=by rw[Nat.mul_left_comm]
  rw[e5];generalize b*2^n=B at hb2;generalize 2^n=N at ha2 hb2;have:a%2=0∨a%2=1:=by omega
  rcases this with h|h<;>rw[h]at h2⊢<;>omega
theorem OG(n:Nat){x:Nat}(hx:x<18446744073709551616):Bw n x<18446744073709551616:=by
 induction n with
 |zero=>exact hx
 |succ n ih=>show Ih _<_;unfold Ih;omega
theorem Rc{n:Nat}(h:n<64):Hh (IntKind.wrap .u64 (n:Int)) 63=(n:Int):=by
 rw[xt (by omega)];unfold Hh;have:∀n:Fin 64,(aj (IntKind.bits .u64) ((n.val:Nat):Int)&&&aj (IntKind.bits .u64) 63).toNat=n.val:=by decide
 rw[this ⟨n,h⟩];exact xt (by omega)
theorem OF{n x:Nat}(hn:n<64)(hx:x<18446744073709551616):Bv (x:Int) (n:Int)=((Bw n x:Nat):Int):=by
 unfold Bv;rw[Rc hn];rw[show((64:Int)-(n:Int))=((64-n:Nat):Int) by omega,xt (by omega)]
 simp only[show IntKind.bits .u64=64 from rfl,aP,bA (tH hn),bA (Nat.sub_le 64 n)]
 have e3:(2:Nat)^(64-n)*2^n=18446744073709551616:=by rw[←rq,show 64-n+n=64 by omega]
 have hd:=Nat.div_add_mod x (2^(64-n));have hm:x%2^(64-n)<2^(64-n):=oJ _ (Nat.two_pow_pos _);have ha:x/2^(64-n)<2^n:=by
  rw[Nat.div_lt_iff_lt_mul (Nat.two_pow_pos _),jZ,e3];exact hx
 rw[jZ]at hd;rw[OH (tH hn) hm ha hd.symm];rw[show((x:Int)*2^n)=((x*2^n:Nat):Int) by rw[Int.natCast_mul,Int.natCast_pow];rfl,Ka]
 rw[show ee (x:Int) (2^(64-n))=((x/2^(64-n):Nat):Int) by rw[show((2:Int)^(64-n))=((2^(64-n):Nat):Int) by rw[Int.natCast_pow];rfl];exact Int.ofNat_fdiv x _▸rfl]
 have hb2:x%2^(64-n)*2^n+2^n≤2^(64-n)*2^n:=by
  rw[←jd];exact cg _ hm
 rw[e3]at hb2;have e6:x*2^n%18446744073709551616=x%2^(64-n)*2^n:=by
  rw[←e3,Nat.mul_mod_mul_right]
 rw[e6];exact BF ha (by omega)
end Go.Proofs
namespace Go.Proofs
open Go Go.Lift
def CU(s:ByteArray)(i:Nat):Nat:=if h:i<s.size then(s[i]'h).toNat else 0
def hv(s:ByteArray):Nat→Nat→Nat
 |_,0=>0
 |p,c+1=>hv s (p+1) c*256+CU s p
theorem NS(s:ByteArray)(i:Nat):CU s i<256:=by
 unfold CU;split
 ·exact UInt8.toNat_lt _
 ·omega
theorem K3(s:ByteArray)(i:Nat):Hf s i=(CU s i:Int):=by
 unfold Hf CU;by_cases h:i<s.size
 ·rw[dif_pos h,getElem?_pos s i h]
 ·rw[dif_neg h,getElem?_neg s i h];rfl
theorem Ck{s:ByteArray}{i:Nat}(h:s.size≤i):CU s i=0:=dif_neg (by omega)
theorem D9(s:ByteArray):∀(c p:Nat),hv s p c<256^c
 |0,_=>by show(0:Nat)<1;omega
 |c+1,p=>by
  have:=D9 s c (p+1);have:=NS s p;rw[l6];show hv s (p+1) c*256+CU s p<_
  omega
theorem KJ{s:ByteArray}:∀{c p:Nat},s.size≤p→hv s p c=0
 |0,_,_=>rfl
 |c+1,p,h=>by
  show hv s (p+1) c*256+CU s p=0
  rw[KJ (by omega),Ck h]
theorem E9{s:ByteArray}{d:Nat}:∀{c p:Nat},s.size≤p+c→hv s p (c+d)=hv s p c
 |0,p,h=>by rw[KJ (by omega)];rfl
 |c+1,p,h=>by
  rw[show c+1+d=(c+d)+1 by omega]
  show hv s (p+1) (c+d)*256+_=hv s (p+1) c*256+_
  rw[E9 (by omega)]
theorem Pl{s:ByteArray}{a b i:Nat}(hb:b≤s.size):CU (s.extract a b) i=if a+i<b then CU s (a+i)else 0:=by
 unfold CU;have e:(s.extract a b).size=b-a:=by rw[fc];omega
 by_cases h:a+i<b
 ·rw[if_pos h,dif_pos (by omega),dif_pos (by omega),ByteArray.getElem_extract]
 ·rw[if_neg h,dif_neg (by omega)]
theorem Ja{s:ByteArray}{a:Nat}:∀{c p b:Nat},b≤s.size→(b=s.size∨a+p+c≤b)→hv (s.extract a b) p c=hv s (a+p) c
 |0,_,_,_,_=>rfl
 |c+1,p,b,hb,h=>by
  show hv _ (p+1) c*256+_=hv s (a+p+1) c*256+_
  rw[Ja hb (h.imp id fun h=>by omega),Pl hb,jj]
  congr 1
  split
  ·rfl
  ·exact(Ck (by omega)).symm
theorem Pv{s:ByteArray}:∀{k c:Nat},k+c≤8→wj s k ((hv s k c*2^(8*k):Nat):Int)=((hv s 0 (k+c):Nat):Int)
 |0,c,_=>by
  show((hv s 0 c*2^(8*0):Nat):Int)=_
  rw[aD];simp
 |k+1,c,h=>by
  have hb:=NS s k;have hc:=D9 s c (k+1);have e8:(2:Nat)^(8*(k+1))=256*2^(8*k):=by rw[show 8*(k+1)=8+8*k by omega,rq]
  have hle:256^c*2^(8*(k+1))≤18446744073709551616:=by
   rw[show(256:Nat)=2^8 from rfl,←Nat.pow_mul,←rq]
   exact Nat.pow_le_pow_right (by omega) (show 8*c+8*(k+1)≤64 by omega)
  have hA:hv s (k+1) c*2^(8*(k+1))+2^(8*(k+1))≤18446744073709551616:=by
   rw[←jd];exact bh (cg _ hc) hle
  have hB:CU s k*2^(8*k)<2^(8*(k+1)):=by rw[e8];exact Nat.mul_lt_mul_of_pos_right hb (Nat.two_pow_pos _)
  have hsum:hv s (k+1) c*2^(8*(k+1))+CU s k*2^(8*k)=hv s k (c+1)*2^(8*k):=by
   rw[e8,←Nat.mul_assoc,←ie];rfl
  have hin:(if k=0 then IntKind.wrap .u64 (Hf s 0)else PC (Hf s k) ((8*k:Nat):Int))=((CU s k*2^(8*k):Nat):Int):=by
   split
   ·rename_i e
    subst e;rw[K3,IntKind.wrap_u64];simp;omega
   ·unfold PC
    rw[K3,aP,show IntKind.bits .u64=64 from rfl,bA (by omega)]
    have e1:IntKind.wrap .u64 ((CU s k:Nat):Int)=((CU s k:Nat):Int):=by rw[IntKind.wrap_u64];omega
    rw[e1,show((CU s k:Int)*2^(8*k))=((CU s k*2^(8*k):Nat):Int) by rw[Int.natCast_mul,Int.natCast_pow];rfl,IntKind.wrap_u64]
    omega
  show wj s k (BG _ (if k=0 then _ else _))=_
  rw[hin,BF hB (by omega),hsum,Pv (by omega),show k+(c+1)=k+1+c by omega]
theorem F3{s:ByteArray}(h:s.size≤8):vF s=((hv s 0 8:Nat):Int):=by
 have:=Pv (s:=s) (k:=s.size) (c:=0) (by omega);rw[show hv s s.size 0=0 from rfl,Nat.zero_mul]at this
 unfold vF;rw[show((0:Nat):Int)=0 from rfl]at this
 rw[this,cU];have e:=E9 (s:=s) (d:=8-s.size) (c:=s.size) (p:=0) (by omega);rw[show s.size+(8-s.size)=8 by omega]at e
 rw[e]
def nJ:Nat→ByteArray→Nat→Q4→Nat×Q4
 |0,_,a,q=>(a,q)
 |n+1,s,a,q=>if a+8≤s.size then nJ n s (a+8) (pL (hv s a 8:Nat) q)else(a,q)
theorem Gd:∀{n:Nat} {s:ByteArray} {a:Nat} {q:Q4},a≤s.size→zG n (s.extract a s.size) q=(s.extract (nJ n s a q).1 s.size,(nJ n s a q).2)
 |0,_,_,_,_=>rfl
 |n+1,s,a,q,h=>by
  have e:(s.extract a s.size).size=s.size-a:=by rw[fc];omega
  show(if 8≤(s.extract a s.size).size then _ else _)=_
  rw[e];by_cases hc:a+8≤s.size
  ·rw[if_pos (show 8≤s.size-a by omega),ByteArray.extract_extract,ByteArray.extract_extract]
   rw[show nJ (n+1) s a q=nJ n s (a+8) (pL (hv s a 8:Nat) q)from if_pos hc]
   rw[show min (a+(s.size-a)) s.size=s.size by omega,show min (a+8) s.size=a+8 by omega,cU]
   rw[F3 (by rw[fc];omega),Ja (by omega) (.inr (by omega)),cU];exact Gd hc
  ·rw[if_neg (show ¬8≤s.size-a by omega),show nJ (n+1) s a q=(a,q)from if_neg hc]
theorem Ei:∀{n:Nat} {s:ByteArray} {a:Nat} {q:Q4},s.size≤a+n→a≤s.size→s.size<(nJ n s a q).1+8∧(nJ n s a q).1≤s.size
 |0,_,_,_,h,h'=>⟨by show _<_+8;simp only[nJ];omega,h'⟩
 |n+1,s,a,q,h,h'=>by
  by_cases hc:a+8≤s.size
  ·rw[show nJ (n+1) s a q=nJ n s (a+8) (pL (hv s a 8:Nat) q)from if_pos hc]
   exact Ei (by omega) hc
  ·rw[show nJ (n+1) s a q=(a,q)from if_neg hc]
   exact⟨by simp only;omega,h'⟩
theorem OB{k0 k1:Int}{s:ByteArray}:H1 k0 k1 s=(let g:=nJ s.size s 0 (dz k0 8317987319222330741,dz k1 7237128888997146477,dz k0 7816392313619706465,dz k1 8387220255154660723)
  Pb (pL ((hv s g.1 8+s.size%256*72057594037927936:Nat):Int) g.2)):=by
 unfold H1 QS;generalize (dz k0 8317987319222330741,dz k1 7237128888997146477,dz k0 7816392313619706465,dz k1 8387220255154660723)=q;have e:=Gd (n:=s.size) (s:=s) (a:=0) (q:=q) (aR _);rw[ByteArray.extract_zero_size]at e;rw[e];have⟨h1,h2⟩:=Ei (n:=s.size) (s:=s) (a:=0) (q:=q) (by omega) (aR _);generalize nJ s.size s 0 q=g at h1 h2;obtain⟨a,r⟩:=g;simp only at h1 h2⊢
 rw[F3 (by rw[fc];omega),Ja (ao _) (.inl rfl),cU];congr 2
 have hc:hv s a 8<2^56:=by
  have e:=E9 (s:=s) (d:=1) (c:=7) (p:=a) (by omega);rw[show(7+1:Nat)=8 from rfl]at e
  rw[e];exact D9 s 7 a
 have hsh:PC (s.size:Int) 56=((s.size%256*2^56:Nat):Int):=by
  unfold PC;rw[show min ((56:Int)).toNat (IntKind.bits .u64)=56 from rfl,Ka]
  rw[show(((s.size%18446744073709551616:Nat):Int)*2^56)=((s.size%18446744073709551616*72057594037927936:Nat):Int) by rw[Int.natCast_mul];rfl,Ka]
  omega
 have hm:s.size%256*2^56+hv s a 8<18446744073709551616:=by omega
 have hcc:∀{a b:Nat},a<18446744073709551616→b<18446744073709551616→BG a b=BG b a:=fun ha hb=>by rw[BE ha hb,BE hb ha,Nat.or_comm]
 rw[hsh,hcc (Nat.lt_trans hc (by decide)) (fC (Nat.le_add_right _ _) hm),BF hc hm,Nat.add_comm]
end Go.Proofs
