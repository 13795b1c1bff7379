/- A part of the proof that the named laws of this program answer true, whatever the input. -/
import Derived.Test.YtncppacbfagpgaaGreatDoorPart4
import Derived.Test.YtncppacbfagpgaaGreatDoorPart5
import Derived.Test.YtncppacbfagpgaaGreatDoorPart2
open ByteArray renaming size_extract→gC
open Iff renaming rfl→zO
open Int renaming toNat_natCast→aU
open List renaming mem_range→g9,mem_append→bC,mem_singleton→aD,flatMap_cons→aN,length_append→ac,mem_filter→di,map_append→cO,pairwise_cons→aF,mem_cons_self→au,length_cons→ar,flatMap_append→bI,append_assoc→aq,mem_cons→aC,length_map→cC,mem_map→fC,length_singleton→aK,length_nil→aM,map_cons→fi,map_nil→iK,mem_append_right→de,pairwise_append→cx,drop_one→ye,tail_cons→wK,take_of_length_le→bD,pairwise_singleton→cD,mem_append_left→cI,length_eq_zero_iff→aA,mem_cons_of_mem→aE,append_nil→aL,not_mem_nil→im,filter_nil→kz,filter_cons→bJ,filter_append→eN,cons_append→cM,getElem?_cons_zero→cL,getElem?_eq_getElem→af,length_filter_le→eh,length_take→aQ,take_succ_eq_append_getElem→bj
open Nat renaming le_refl→aj,lt_of_lt_of_le→aG,zero_le→aS,le_trans→aX,lt_or_ge→bR
open Option renaming some→bO
namespace Go.Proofs
open Go Go.Lift
theorem X8{β:Type}{g:Nat→Option β}{n:Nat}{y:β}:y∈fm g n↔∃c,c<n∧g c=some y:=by
 unfold fm;rw[List.mem_filterMap];exact⟨fun⟨c,a,h2⟩=>⟨c,g9.1 a,h2⟩,fun⟨c,a,h2⟩=>⟨c,g9.2 a,h2⟩⟩
def wl(x:Hs):Nat→List Pr→List Pr
 |0,l=>l
 |m+1,l=>iw x (12-m) l++(mu x (12-m) l).flatMap (wl x m)
theorem Nk(x:Hs)(m:Nat)(l:List Pr):wl x (m+1) l=iw x (12-m) l++(mu x (12-m) l).flatMap (wl x m):=rfl
theorem Jk{x:Hs}{p:Pr}:∀(m:Nat) {l:List Pr},p∈wl x m l↔p∈l
 |0,_=>zO
 |m+1,l=>by
  rw[Nk,bC,List.mem_flatMap];constructor
  ·rintro(h|⟨L,d,h⟩)
   ·exact tI h
   ·obtain⟨_,c,rfl⟩:=rp d
    exact(nF.1 ((Jk m).1 h)).1
  ·intro h
   have hm:p∈part x (12-m) (ck x (12-m) p.1) l:=nF.2 ⟨h,rfl⟩;have hc:=zT x (12-m) p.1;rcases d:part x (12-m) (ck x (12-m) p.1) l with _|⟨a,_|⟨b,r⟩⟩
   ·rw[d]at hm;cases hm
   ·left
    rw[d]at hm;rw[aD.1 hm];unfold iw;exact X8.2 ⟨_,hc,by show km (part x (12-m) (ck x (12-m) p.1) l)=_;rw[d];rfl⟩
   ·right
    refine⟨a::b::r,?_,(Jk m).2 (by rw[←d];exact hm)⟩;unfold mu;exact X8.2 ⟨_,hc,by show fZ (part x (12-m) (ck x (12-m) p.1) l)=_;rw[d];rfl⟩
theorem Qp{f:List Pr→List Pr}(h:∀l,(f l).length≤l.length):∀ls:List (List Pr),(ls.flatMap f).length≤ls.flatten.length
 | []=>aj _
 |l::ls=>by
  have a:=h l;have h2:=Qp h ls;rw[aN,List.flatten_cons,ac,ac];omega
theorem Nl(x:Hs):∀(m:Nat) (l:List Pr),(wl x m l).length≤l.length
 |0,_=>aj _
 |m+1,l=>by
  rw[Nk,ac];have a:=yg x (12-m) l;have h2:=Qp (Nl x m) (mu x (12-m) l);omega
theorem abr{x:Hs}{m:Nat}{l:List Pr}(c:bM l):BO (wl x m l)=l:=by
 refine yj (FE _) c fun p=>?_
 rw[UM];constructor
 ·intro h;exact(Jk m).1 (MF h)
 ·intro h
  have d:p∈(wl x m l).filter fun q=>decide (q.1=p.1):=di.2 ⟨(Jk m).2 h,decide_eq_true rfl⟩
  have a:mw (wl x m l) p.1≠none:=by
   unfold mw;intro e;rw[List.getLast?_eq_none_iff]at e;rw[e]at d;cases d
  cases hl:mw (wl x m l) p.1 with
  |none=>exact absurd hl a
  |some q=>
   have b:=Wd hl;have h2:=(Jk m).1 (MF hl);have g:(p.1,q.2)∈l:=by rw[←b];exact h2
   have f:=IX c (k:=p.1) (v:=p.2) (w:=q.2) h g;rw[Prod.ext b f.symm]
def cw(x:Hs):Nat→List Pr→Nat
 |0,_=>2
 |m+1,l=>2+((mu x (12-m) l).map (cw x m)).sum
structure Fr where
 sp:SliceV
 sk:SliceV
 n:Nat
 ps:List Pr
 ks:List (Nat×List Pr)
abbrev Xb(v:SliceV×SliceV):List Value:= [sv v.1,sv v.2]
theorem Yn(x:SliceV×SliceV):(Xb x).length=2∧0<2:=⟨rfl,by omega⟩
def Fr.raw(f:Fr):SliceV×SliceV:=(f.sp,f.sk)
def Fr.rem(x:Hs)(f:Fr):List Pr:=f.ps++f.ks.flatMap fun k=>wl x (f.n-1) k.2
def Fr.cost(x:Hs)(f:Fr):Nat:=1+(f.ks.map fun k=>cw x (f.n-1) k.2).sum
def FQ(x:Hs)(l:List Fr):List Pr:=l.reverse.flatMap (Fr.rem x)
def Hb(x:Hs)(l:List Fr):Nat:=(l.map (Fr.cost x)).sum
theorem Bw(x:Hs)(l:List Fr)(f:Fr):FQ x (l++ [f])=f.rem x++FQ x l:=by unfold FQ;rw[List.reverse_append];rfl
theorem Dn(x:Hs)(l:List Fr)(f:Fr):Hb x (l++ [f])=Hb x l+f.cost x:=by unfold Hb;rw[cO,List.sum_append];simp
abbrev P6(k:Nat×List Pr):Option Addr:=some ⟨k.1,0,none⟩
structure Fr.Ok(W G:Nat→Prop)(x:Hs)(h:ad)(f:Fr):Prop where
 p:Sl ey 2 (fun y=>¬G y) h f.sp f.ps
 k:Sl uy 1 (fun y=>¬G y) h f.sk (f.ks.map P6)
 pc:f.sp.len≤f.sp.cap
 kc:f.sk.len≤f.sk.cap
 t:∀k∈f.ks,TrieAt W x h (f.n-1) k.1 k.2∧k.2.length≤100000
 n0:f.ks≠[]→0<f.n
 n13:f.n≤13
theorem Fr.Ok.upd{W G M:Nat→Prop}{x:Hs}{h h':ad}{f:Fr}(o:f.Ok W G x h)(k:Upd M h h')(d:∀b,M b→W b∨h.size≤b)(a:∀b,M b→¬G b∨h.size≤b):f.Ok W G x h':=
 ⟨o.p.upd k a,o.k.upd k a,o.pc,o.kc,fun q c=>⟨TrieAt.updM k d (o.t q c).1,(o.t q c).2⟩,o.n0,o.n13⟩
theorem Fr.Ok.sub{W G G':Nat→Prop}{x:Hs}{h:ad}{f:Fr}(o:f.Ok W G x h)(d:∀b,G b→G' b):f.Ok W G' x h:=
 ⟨o.p.less fun b c=>.inl fun a=>c (d b a),o.k.less fun b c=>.inl fun a=>c (d b a),o.pc,o.kc,o.t,o.n0,o.n13⟩
abbrev ac1(s:SliceV)(d:Int):Array Value:= #[sv s,.int .i64 d]
structure CurW(W G C:Nat→Prop)(x:Hs)(h:ad)(cb:Nat)(fs:List Fr):Prop where
 ex:∃s d,h[cb]? =some (.cells (ac1 s d) Cc (0,0))∧OwnS Xb 2 eS C h s (fs.map Fr.raw)
 ok:∀f∈fs,f.Ok W G x h
 lt:∀b,(C b∨G b)→b<h.size
 dj:∀b,G b→¬C b∧b≠cb
 cc:¬C cb
 cw:(∀b,C b→W b)∧W cb
 lv:fs.Pairwise fun f g=>g.n<f.n
theorem CurW.upd{W G C M:Nat→Prop}{x:Hs}{h h':ad}{a:Nat}{i:List Fr}(c:CurW W G C x h a i)(k:Upd M h h')(q:∀b,M b→W b∨h.size≤b)(m:∀b,C b→¬M b)(p:∀b,G b→¬M b)(g:¬M a):CurW W G C x h' a i:=by
 obtain⟨s,d,n,h2⟩:=c.ex;exact⟨⟨s,d,k.get n g,h2.upd k m⟩,fun f j=>(c.ok f j).upd k q fun b e=>.inl fun o=>p b o e,fun b e=>aG (c.lt b e) k.size,c.dj,c.cc,c.cw,c.lv⟩
theorem Yb:∀{a:List Fr} {n:Nat},a.Pairwise (fun f g=>g.n<f.n)→(∀f∈a,f.n≤n)→a.length≤n+1
 | [],_,_,_=>aS _
 |f::a,n,b,hn=>by
  have b:=aF.1 b;have d:=hn f (au ..);rcases a with _|⟨g,a⟩
  ·simp
  ·have c:=b.1 g (au ..)
   have:=Yb (n:=f.n-1) b.2 fun g c=>by have:=b.1 g c;omega
   rw[ar];omega
theorem Us{α:Type}{f:α→List Value}{c:Nat}{t:TypeId}{M:Nat→Prop}{h:ad}{s:SliceV}{P Q:List α}{x y:α}{j:Nat}{v:Value}(m:OwnS f c t M h s (P++x::Q))(I:j<c)(E:f y=(f x).set j v){a:Addr}(A:s.a=some a){i:Nat}(hi:i=P.length){G:ad→Prop}(B:∀h',OwnS f c t M h' s (P++y::Q)→Upd M h h'→G h'):
  Wr h (adr (adr a (i*c)) j)∧At (hset h (adr (adr a (i*c)) j) v) G:=by
 subst hi;have q:=m.ne;have e:=m.len;have k:=m.cap;rcases m.blk with J|⟨b,d,g,w,hc,C⟩
 ·rw[ac,ar]at e;omega
 rw[A]at g;cases g;have F:(P.flatMap f).length=P.length*c:=ni q P;rw[bI,aN]at hc;have H:=(q x).1;have D:adr (adr ⟨b,0,none⟩ (P.length*c)) j=⟨b,P.length*c+j,none⟩:=by rw[cd,cd,Nat.zero_add]
 rw[D];have o:P.length*c+j<(P.flatMap f++(f x++Q.flatMap f)++d).toArray.size:=by
  simp only[List.size_toArray,ac];omega
 refine⟨ip hc o,wr hc fun h' n p=>B h' ⟨by rw[e];simp,q,k,.inr ⟨b,d,A,w,?_,C⟩⟩ (p.mono fun z u=>.inl (by have u:z=b:=u;rw[u];exact w))⟩
 rw[n];congr 3
 rw[bI,aN,E];apply Array.toList_inj.1;rw[Array.toList_setIfInBounds];simp only[aq];rw[List.set_append_right _ _ (by omega),show P.length*c+j-(P.flatMap f).length=j by omega,List.set_append_left _ _ (by omega)]
theorem MH{W:Nat→Prop}{x:Hs}{h:ad}{m:Nat}:∀{ks:List (Option Addr)} {ls:List (List Pr)},KidsAt W x h m ks ls→∃q:List (Nat×List Pr),ks=q.map P6∧ls=q.map (·.2)∧∀k∈q,TrieAt W x h m k.1 k.2
 | [],[],_=>⟨[],rfl,rfl,fun k b=>by cases b⟩
 |_::_,[],h=>h.elim
 | [],_::_,h=>h.elim
 |k::ks,l::ls,b=>by
  obtain⟨⟨c,e,t⟩,g⟩:=b;obtain⟨q,d,i,f⟩:=MH g;refine⟨(c,l)::q,by rw[e,d];rfl,by rw[i];rfl,fun k' a=>?_⟩
  rcases aC.1 a with rfl|a
  ·exact t
  ·exact f k' a
theorem L4{W:Nat→Prop}{x:Hs}{h:ad}{m b:Nat}{l:List Pr}(t:TrieAt W x h m b l)(hm:m≤13)(T:l.length≤100000){K:SliceV×SliceV→ad→Prop}
  (w:∀h' f,f.n=m→Fr.rem x f=wl x m l→f.cost x+1=cw x m l→f.Ok W (fun y=>h.size≤y∧y<h'.size) x h'→Upd No h h'→K f.raw h'):HC PG yu [.pointer (some ⟨b,0,none⟩)] [.agg [.slice,.slice]] K h:=by
 refine M9 (some ⟨b,0,none⟩) ?_;unfold Gz bV df Ue acb;refine aP fun j b1 k1=>?_
 have t1:=TrieAt.upd0 k1 (TrieAt.less (W':=Pro W h j) Pro.hm t);obtain⟨d,n,sp,sk,V,ow,A,q,z,u,p,hlp,hq,H,Z,B,L⟩:∃d n sp sk V ow A,∃q:List (Nat×List Pr),j[b]? =some (.cells (gc d n sp sk V ow) bP (0,0))∧Sl ey 2 (Pro W h j) j sp A∧Sl uy 1 (Pro W h j) j sk (q.map P6)∧A.length≤100000∧q.length≤32∧(A++q.flatMap fun k=>wl x (m-1) k.2)=wl x m l∧2+(q.map fun k=>cw x (m-1) k.2).sum=cw x m l∧(∀k∈q,TrieAt (Pro W h j) x j (m-1) k.1 k.2∧k.2.length≤100000)∧(q≠[]→0<m):=by
  cases m with
  |zero=>
   obtain⟨sp,sk,ow,z,u,p,_⟩:=BuckAt.ex t1;exact⟨0,0,sp,sk,true,ow,l,[],z,u,p,T,by simp,by simp[wl],by simp[cw],fun k w=>(by cases w),fun h=>absurd rfl h⟩
  |succ m=>
   obtain⟨s,Y,G⟩:=t1;have G:∀c,c<32→SlotIs (Pro W h j) x j m s c (part x (12-m) c l):=G;obtain⟨d,n,sp,sk,ow,z,bits,u,p,_⟩:=Y.ex;have P:=SH (W:=Pro W h j) (x:=x) (h:=j) (m:=m) (lev:=12-m) (s:=s) (l:=l) 32 G;obtain⟨q,U,D,e3⟩:=MH P;have D:mu x (12-m) l=q.map (·.2):=D
   have F:=H0 G;have X:=yg x (12-m) l;have Q:=AN (g:=s.k);have hql:q.length=(fm s.k 32).length:=by rw[U,cC]
   refine⟨d,n,sp,sk,false,ow,fm s.p 32,q,z,u,by rw[←U];exact p,by rw[F];omega,by omega,?_,?_,fun k w=>⟨e3 k w,?_⟩,fun _=>Nat.succ_pos _⟩
   ·rw[Nk,F,D,List.flatMap_map];rfl
   ·show _=2+_
    rw[D,List.map_map];rfl
   ·have:k.2∈mu x (12-m) l:=by rw[D];exact fC.2 ⟨k,w,rfl⟩
    obtain⟨_,c,hc⟩:=rp this;rw[hc];exact aX li T
 refine rO z u (by omega) fun I h2 C i=>?_
 refine US (i.get0 z) (p.upd i fun _ h=>h.elim) (by rw[cC];omega) fun N h3 E v=>?_
 have b3:=v.get0 (i.get0 b1);have z1:=k1.size;have z2:=i.size;have z3:=v.size;have zb:=aY b1;refine cF (c:= [.slice none 0 0,.slice none 0 0]) (vs:= [sv I,sv N]) b3 rfl fun R S o=>?_
 refine⟨I,vc S 0,N,vc S 1,?_⟩;have z4:=o.size;have O:Upd No h R:=((k1.tr i).tr v).own o (aj _);refine w R ⟨I,N,m,A,q⟩ rfl H (by unfold Fr.cost;simp only;omega) ⟨?_,?_,C.cap,E.cap,fun k w=>⟨TrieAt.less (W:=Pro W h j) (fun y a=>.inl (.inl a)) (TrieAt.updM (M:=(· =h.size)) o (fun y a=>.inl (.inr (by have a:y=h.size:=a;omega))) (TrieAt.upd0 (i.tr v) (B k w).1)),(B k w).2⟩,L,hm⟩ O
 ·exact(((C.upd v fun _ _ h=>h).within).upd o fun y a e=>by have e:y=h.size:=e;have:=a.1;omega).sl fun y a _ J=>J ⟨by have:=a.1;omega,by have:=a.2;omega⟩
 ·exact(E.within.upd o fun y a e=>by have e:y=h.size:=e;have:=a.1;omega).sl fun y a _ J=>J ⟨by have:=a.1;omega,by have:=a.2;omega⟩
end Go.Proofs
namespace Go.Proofs
open Go Go.Lift
theorem YW{M:Nat→Prop}{h:ad}{so:SliceV}{out:List (SliceV×SliceV)}{p:SliceV×SliceV}{K:SliceV→ad→Prop}(f:OwnS Xb 2 eS M h so out)(hM:∀b,h.size≤b→M b)(g:out.length+1≤1000000000)
  (e:∀s' h',OwnS Xb 2 eS M h' s' (out++ [p])→Upd M h h'→K s' h'):
  ∃xs,SRow (hnew h (Xb p) eS) (some (ay h)) (1*2) xs∧AppP (some [.slice none 0 0,.slice none 0 0]) 2 48 eS so.a so.len so.cap 1 xs (hnew h (Xb p) eS) K:=by
 have k:=Upd.hnew No h (Xb p) eS;have d:OwnS Xb 2 eS (fun _=>True) (hnew h (Xb p) eS) ⟨some (ay h),1,1⟩ [p]:=⟨rfl,Yn,aj _,.inr ⟨h.size,[],rfl,trivial,co ..,rfl⟩⟩
 refine⟨_,(d.sl (W:=No) fun _ _ _ h=>h).srow,?_⟩
 refine AppP.own (ys:= [p]) (f.upd k fun _ _ h=>h) rfl rfl rfl rfl (by omega) (by simp only[aK];omega) (hM _ (by rw[jV];omega)) fun s' h' a c=>?_
 exact e s' h' a ((Upd.hnew M h _ _).tr c)
set_option maxHeartbeats 2000000 in
theorem O3{W G0 C0:Nat→Prop}{x:Hs}{h:ad}{J:Nat}{X:List Fr}(cur:CurW W G0 C0 x h J X)(hW0:∀b,h.size≤b→W b){K:(ByteArray×ByteArray)×Bool→ad→Prop}
  (hn:∀h',FQ x X= []→Upd (fun b=>C0 b∨b=J) h h'→K (((⟨#[]⟩:ByteArray),(⟨#[]⟩:ByteArray)),false) h')
  (hs:∀h' u p R G' C',FQ x X=p::R→FQ x u=R→CurW W G' C' x h' J u→(∀b,C' b→C0 b∨h.size≤b)→(∀b,G' b→G0 b∨h.size≤b)→Upd (fun b=>C0 b∨b=J) h h'→K (p,true) h'):
  HC PG qS [.pointer (some ⟨J,0,none⟩)] [.agg [.str,.str],.c .bool] K h:=by
 refine Dr (some ⟨J,0,none⟩) ?_;unfold wy bE bT bK df nv az av lO iU dy adi acb;refine aP fun h1 b1 k1=>ag.2 ?_
 have z1:=aY b1;obtain⟨s00,d00,hc0,_⟩:=cur.ex;have zc:=aY hc0;have s1:=k1.size;have cur1:=cur.upd k1 (fun _ h=>h.elim) (fun _ _ h=>h) (fun _ _ h=>h) fun h=>h
 refine LoopP.ghost (fun(g:List Fr×(Nat→Prop)×(Nat→Prop)) (_:Unit) h'=>CurW W g.2.1 g.2.2 x h' J g.1∧FQ x g.1=FQ x X∧(∀b,g.2.2 b→(C0 b∨h.size≤b)∧b≠h.size)∧(∀b,g.2.1 b→(G0 b∨h.size≤b)∧b≠h.size)∧h'[h.size]? =some (.cells zPrL.toArray al (0,0))∧Upd (fun b=>C0 b∨b=J) h h') (fun g=>Hb x g.1) (X,G0,C0)
  ⟨cur1,rfl,fun b t=>⟨.inl t,by have:=cur.lt b (.inl t);omega⟩,fun b t=>⟨.inl t,by have:=cur.lt b (.inr t);omega⟩,b1,k1.wide⟩ ?_
 rintro I ⟨fs,G,C⟩ ⟨⟩ h' ⟨v,N,E,U,bz,hu⟩ hI;simp only at v N E U;obtain⟨s,d,aJ,P⟩:=v.ex;have hlen:=P.len;rw[cC]at hlen;have hzs:h.size<h'.size:=aY bz;have zcb:=aY aJ;refine⟨_,rfl,s,vc aJ 0,?_⟩;refine ax (fun hpos=>?_) fun hnp=>?_
 ·obtain⟨u,f,rfl⟩:∃u f,fs=u++ [f]:=by
   rcases Et fs with rfl|⟨l',y,e⟩
   ·simp only[aM]at hlen;omega
   ·exact⟨l',y,e⟩
  rw[cO,fi,iK]at P;rw[ac,aK]at hlen;have h14:=Yb (n:=13) v.lv fun f hf=>(v.ok f hf).n13
  rw[ac,aK]at h14;have eidx:IntKind.wrap .i64 ((s.len:Int)-1)=((u.length:Nat):Int):=by rw[eJ (by omega)];omega
  obtain⟨a,ha,hv⟩:=jf P (i:=u.length) (by rw[cC]);have Z:=v.ok f (de _ (aD.2 rfl));have hpl:=Z.p.len;have hkl:=Z.k.len;rw[cC]at hkl;have hpc:=Z.pc;have hkc:=Z.kc;have hcap:=P.cap;refine⟨_,rfl,s,vc aJ 0,_,rfl,s,vc aJ 0,?_⟩;rw[eidx];refine⟨⟨by omega,by omega⟩,a,ha,_,rfl,f.sp,hv 0 _ rfl,?_⟩
  have keep:∀{h2:ad} {M:Nat→Prop},Upd M h' h2→(∀b,M b→C b∨b=J∨b=h.size∨h'.size≤b)→∀{g:Fr},g.Ok W G x h'→g.Ok W G x h2:=fun{h2 M} k hM {g} o=>o.upd k (fun b t=>by
   rcases hM b t with h|h|h|h
   ·exact .inl (v.cw.1 b h)
   ·exact .inl (by rw[h];exact v.cw.2)
   ·exact .inl (by rw[h];exact hW0 _ (aj _))
   ·exact .inr h) fun b t=>by
   rcases hM b t with h|h|h|h
   ·exact .inl fun L=>(v.dj b L).1 h
   ·exact .inl fun L=>(v.dj b L).2 h
   ·exact .inl fun L=>(U b L).2 h
   ·exact .inr h
  have S:=cx.1 v.lv;have hrs:=Bw x u f;have hcs:=Dn x u f;refine ax (fun hp=>?_) fun hp=>?_
  ·
   rcases O:f.ps with _|⟨p,ps⟩
   ·rw[O]at hpl;simp only[aM]at hpl;omega
   have fop:=Z.p;rw[O]at fop hpl;simp only[ar]at hpl;obtain⟨ap,hap,_,hvp⟩:=fop.at (i:=0) (x:=p) rfl;refine⟨_,rfl,f.sp,hv 0 _ rfl,⟨by omega,by omega⟩,ap,hap,p.1,hvp 0 _ rfl,p.2,hvp 1 _ rfl,?_⟩
   refine NV (p:=p) fun h8 b8 k8=>?_
   have z8:=aY b8;have hst8:=P.upd k8 fun _ _ h=>h
   obtain⟨a',ha',hv8⟩:=jf hst8 (i:=u.length) (by rw[cC]);rw[ha]at ha';cases ha';refine⟨_,rfl,f.sp,hv8 0 _ rfl,⟨by omega,by omega⟩,_,rfl,?_⟩
   let Q:Fr:=⟨⟨aW f.sp.a 1 f.sp.cap 2,f.sp.len-1,f.sp.cap-1⟩,f.sk,f.n,ps,f.ks⟩
   refine Us hst8 (y:=Q.raw) (j:=0) (by omega) rfl ha (by simp) fun h9 ho9 T=>?_
   have c9:=T.get (k8.get0 aJ) v.cc;refine⟨_,rfl,s,vc c9 0,_,rfl,?_⟩;refine vz (i:=1) (c':=ac1 s (s.len:Int)) c9 (show 1<2 by decide) rfl fun h10 c10 z=>?_
   have hCh:∀b,C b→b<h'.size:=fun b t=>v.lt b (.inl t)
   have b9:=T.get b8 fun hx=>by have:=hCh _ hx;omega
   have b10:=z.oth b9 (by omega);refine⟨_,vc b10 0,_,vc b10 1,?_⟩;have bz10:=z.oth (T.get (k8.get0 bz) fun hx=>(E _ hx).2 rfl) (by omega)
   refine cF (c:=zPrL) (vs:= [.string p.1,.string p.2]) bz10 rfl fun H b11 A=>?_
   refine⟨_,vc b11 0,_,vc b11 1,?_⟩;have c11:=A.oth c10 (by omega);have w:Upd (fun b=>C b∨b=J∨b=h.size∨h'.size≤b) h' H:=((k8.wide.trans T fun b t=>.inl (.inl t)).trans z fun b t=>.inl (.inr (.inl t))).trans A fun b t=>.inl (.inr (.inr (.inl t)))
   have ho11:OwnS Xb 2 eS C H s ((u++ [Q]).map Fr.raw):=by
    rw[cO,fi,iK];exact(ho9.upd z fun b t e=>by have e:b=J:=e;rw[e]at t;exact v.cc t).upd A fun b t e=>(E b t).2 e
   have fo':Q.Ok W G x H:=by
    have o:=keep w (fun b t=>t) Z
    refine⟨?_,o.k,by show f.sp.len-1≤f.sp.cap-1;omega,o.kc,o.t,o.n0,o.n13⟩
    have op:=o.p;rw[O]at op;have:=Sl.sub op (l:=1) (hi:=(p::ps).length) (m:=f.sp.cap) (c:=f.sp.cap-1) (by simp) (aj _) (by simp only[ar];omega);rw[ye,wK,bD (by simp)]at this;have e:(p::ps).length-1=f.sp.len-1:=by simp only[ar];omega
    rw[e]at this;exact this
   refine hs H (u++ [Q]) p (Q.rem x++FQ x u) G C ?_ (Bw x u Q) ⟨⟨s,_,c11,ho11⟩,fun g L=>?_,fun b t=>aG (v.lt b t) w.size,v.dj,v.cc,v.cw,cx.2 ⟨S.1,cD ..,fun g L g' D=>by rw[aD.1 D];exact S.2.2 g L f (aD.2 rfl)⟩⟩ (fun b t=>(E b t).1) (fun b t=>(U b t).1) ?_
   ·rw[←N,hrs]
    unfold Fr.rem;rw[O];rfl
   ·rcases bC.1 L with L|L
    ·exact keep w (fun b t=>t) (v.ok g (cI _ L))
    ·rw[aD.1 L];exact fo'
   ·refine hu.trans w fun b t=>?_
    rcases t with h|h|h|h
    ·exact(E b h).1.imp .inl id
    ·exact .inl (.inr h)
    ·exact .inr (by omega)
    ·exact .inr (by omega)
  ·have O:f.ps= []:=aA.1 (by omega)
   refine⟨_,rfl,f.sk,hv 1 _ rfl,?_⟩;refine ax (fun hk=>?_) fun hk=>?_
   ·
    rcases F:f.ks with _|⟨kd,ks⟩
    ·rw[F]at hkl;simp only[aM]at hkl;omega
    have fok:=Z.k;rw[F]at fok hkl;simp only[ar]at hkl;rw[fi]at fok;obtain⟨ap,hap,_,hvp⟩:=fok.at0 (i:=0) (x:=P6 kd) rfl;have hfn:0<f.n:=Z.n0 (by rw[F];simp);have hf13:=Z.n13;refine⟨_,rfl,f.sk,hv 1 _ rfl,⟨by omega,by omega⟩,ap,hap,_,hvp,_,rfl,f.sk,hv 1 _ rfl,⟨by omega,by omega⟩,_,rfl,?_⟩
    let Q:Fr:=⟨f.sp,⟨aW f.sk.a 1 f.sk.cap 1,f.sk.len-1,f.sk.cap-1⟩,f.n,f.ps,ks⟩
    refine Us P (y:=Q.raw) (j:=1) (by omega) rfl ha (by simp) fun h8 ho8 B=>?_
    have c8:=B.get aJ v.cc;have V:Upd (fun b=>C b∨b=J∨b=h.size∨h'.size≤b) h' h8:=B.mono fun b t=>.inl (.inl t)
    have s8:=B.size;refine⟨_,rfl,s,vc c8 0,?_⟩;have fo8:=keep V (fun b t=>t) Z
    obtain⟨tk,hkn⟩:=fo8.t kd (by rw[F];exact au ..);refine L4 tk (by omega) hkn fun h9 g hgn hgr hgc go k9=>?_
    have c9:=k9.get0 c8;have s9:=k9.size;refine⟨vc c9 0,bG ⟨vc ((Upd.hnew No h9 (Xb g.raw) eS).get0 c9) 0,?_⟩⟩;have hC9:∀b,C b→b<h9.size:=fun b t=>by have:=v.lt b (.inl t);omega
    refine YW (M:=fun b=>C b∨h9.size≤b) (p:=g.raw) ((ho8.upd k9 fun _ _ h=>h).more fun b t=>.inl t) (fun b t=>.inr t) (by rw[ac,cC,aK];omega) fun aaT h10 ho10 z=>?_
    have s10':=z.size;have c10:=z.get c9 (by rintro(hx|hx);exact v.cc hx;omega)
    refine⟨_,rfl,?_⟩;refine vz (i:=0) (c':=ac1 aaT d) c10 (show 0<2 by decide) rfl fun H c11 A=>?_
    have s11:=A.size;have w:Upd (fun b=>C b∨b=J∨b=h.size∨h'.size≤b) h' H:=((V.tr k9.wide).trans z fun b t=>t.elim (fun h=>.inl (.inl h)) fun h=>.inr (by omega)).trans A fun b t=>.inl (.inr (.inl t))
    have bz11:=A.oth (z.get (k9.get0 (B.get bz fun hx=>(E _ hx).2 rfl)) (by rintro(hx|hx);exact(E _ hx).2 rfl;omega)) (by omega)
    have hGl:∀b,G b→b<h'.size:=fun b t=>v.lt b (.inr t)
    refine hI (u++ [Q]++ [g],fun b=>G b∨(h8.size≤b∧b<h9.size),fun b=>(C b∨h9.size≤b)∧b<h10.size) () H ⟨⟨⟨aaT,d,c11,?_⟩,fun g' D=>?_,fun b t=>?_,fun b t=>?_,fun t=>?_,⟨fun b t=>?_,v.cw.2⟩,?_⟩,?_,fun b t=>?_,fun b t=>?_,bz11,?_⟩ ?_
    ·rw[cO,cO,fi,iK,fi,iK]
     exact ho10.within.upd A fun b t e=>by
      have e:b=J:=e;rw[e]at t;rcases t.1 with h|h
      ·exact v.cc h
      ·omega
    ·have Y:∀{q:Fr},q.Ok W G x H→q.Ok W (fun b=>G b∨(h8.size≤b∧b<h9.size)) x H:=fun o=>o.sub fun b t=>.inl t
     rcases bC.1 D with D|D
     ·rcases bC.1 D with D|D
      ·exact Y (keep w (fun b t=>t) (v.ok g' (cI _ D)))
      ·rw[aD.1 D]
       have o:=keep w (fun b t=>t) Z
       refine Y ⟨o.p,?_,o.pc,by show f.sk.len-1≤f.sk.cap-1;omega,fun q hq=>o.t q (by rw[F];exact aE _ hq),fun _=>hfn,hf13⟩
       have op:=o.k;rw[F,fi]at op;have:=Sl.sub op (l:=1) (hi:=(P6 kd::ks.map P6).length) (m:=f.sk.cap) (c:=f.sk.cap-1) (by simp) (aj _) (by simp only[ar,cC];omega);rw[ye,wK,bD (by simp)]at this;have e:(P6 kd::ks.map P6).length-1=f.sk.len-1:=by simp only[ar,cC];omega
       rw[e]at this;exact this
     ·rw[aD.1 D]
      have o1:=go.upd z (fun b t=>t.elim (fun h=>.inl (v.cw.1 b h)) .inr) fun b t=>t.elim (fun h=>.inl fun L=>by have:=v.lt b (.inl h);omega) .inr
      have o2:=o1.upd A (fun b t=>.inl (by have t:b=J:=t;rw[t];exact v.cw.2)) fun b t=>.inl fun L=>by have t:b=J:=t;omega
      exact o2.sub fun b t=>.inr t
    ·rcases t with t|t|t
     ·omega
     ·have:=hGl b t;omega
     ·omega
    ·refine⟨fun hc=>?_,fun e=>?_⟩
     ·rcases t with t|t
      ·rcases hc.1 with h|h
       ·exact(v.dj b t).1 h
       ·have:=hGl b t;omega
      ·rcases hc.1 with h|h
       ·have:=v.lt b (.inl h);omega
       ·omega
     ·subst e
      rcases t with t|t
      ·exact(v.dj _ t).2 rfl
      ·omega
    ·rcases t.1 with h|h
     ·exact v.cc h
     ·omega
    ·rcases t.1 with h|h
     ·exact v.cw.1 b h
     ·exact hW0 b (by omega)
    ·refine cx.2 ⟨cx.2 ⟨S.1,cD ..,fun q hq q' hq'=>by rw[aD.1 hq'];exact S.2.2 q hq f (aD.2 rfl)⟩,cD ..,fun q hq q' hq'=>?_⟩
     rw[aD.1 hq',hgn];rcases bC.1 hq with hq|hq
     ·have:=S.2.2 q hq f (aD.2 rfl);omega
     ·rw[aD.1 hq];show f.n-1<f.n;omega
    ·rw[Bw,Bw,←N,hrs,hgr]
     unfold Fr.rem;rw[O,F,aN];simp;rfl
    ·refine⟨?_,?_⟩
     ·rcases t.1 with h|h
      ·exact(E b h).1
      ·exact .inr (by omega)
     ·rcases t.1 with h|h
      ·exact(E b h).2
      ·omega
    ·refine⟨?_,?_⟩
     ·rcases t with h|h
      ·exact(U b h).1
      ·exact .inr (by omega)
     ·rcases t with h|h
      ·exact(U b h).2
      ·omega
    ·refine hu.trans w fun b t=>?_
     rcases t with h|h|h|h
     ·exact(E b h).1.imp .inl id
     ·exact .inl (.inr h)
     ·exact .inr (by omega)
     ·exact .inr (by omega)
    ·show Hb x (u++ [Q]++ [g])<Hb x (u++ [f])
     rw[Dn,Dn,hcs];have e1:f.cost x=Q.cost x+cw x (f.n-1) kd.2:=by
      unfold Fr.cost;rw[F,fi,List.sum_cons];have e0:(Q.ks.map fun k=>cw x (Q.n-1) k.2).sum=(ks.map fun k=>cw x (f.n-1) k.2).sum:=rfl
      omega
     omega
   ·
    have F:f.ks= []:=aA.1 (by omega);refine⟨_,rfl,s,vc aJ 0,_,rfl,s,vc aJ 0,?_⟩;rw[eidx];refine⟨⟨by omega,by omega⟩,?_⟩
    simp only[Bd];refine⟨_,rfl,?_⟩;refine vz (i:=0) (c':=ac1 ⟨aW s.a 0 s.cap 2,u.length,s.cap⟩ d) aJ (show 0<2 by decide) rfl fun h8 c8 B=>?_
    have hpop:=OwnS.pop P;rw[cC]at hpop;have w:Upd (fun b=>C b∨b=J∨b=h.size∨h'.size≤b) h' h8:=B.mono fun b t=>.inl (.inr (.inl t))
    refine hI (u,G,C) () h8 ⟨⟨⟨_,d,c8,hpop.upd B fun b t e=>by have e:b=J:=e;rw[e]at t;exact v.cc t⟩,fun g L=>keep w (fun b t=>t) (v.ok g (cI _ L)),fun b t=>aG (v.lt b t) w.size,v.dj,v.cc,v.cw,S.1⟩,?_,E,U,B.oth bz (by omega),hu.trans B fun b t=>.inl (.inr t)⟩ ?_
    ·rw[←N,hrs]
     unfold Fr.rem;rw[O,F];rfl
    ·show Hb x u<Hb x (u++ [f])
     rw[hcs];unfold Fr.cost;omega
 ·have h0:fs= []:=aA.1 (by omega)
  subst h0;refine⟨_,rfl,?_⟩;refine vz (i:=1) (c':=ac1 s 0) aJ (show 1<2 by decide) rfl fun h8 c8 B=>?_
  refine cF (c:=zPrL) (vs:=zPrL) (B.oth bz (by omega)) rfl fun h9 b9 T=>?_
  refine⟨_,vc b9 0,_,vc b9 1,hn h9 N.symm ((hu.trans B fun b t=>.inl (.inr t)).trans T fun b t=>.inr (Nat.le_of_eq (Eq.symm t)))⟩
end Go.Proofs
namespace Go.Proofs
open Go Go.Lift
def Below(W:Nat→Prop)(x:Hs)(h:ad)(m:Nat)(r:Option Addr)(l:List Pr):Prop:=(r=none∧l= [])∨∃b,r=some ⟨b,0,none⟩∧TrieAt W x h m b l
theorem Below.upd0{W:Nat→Prop}{x:Hs}{h h':ad}{m:Nat}{r:Option Addr}{l:List Pr}(k:Upd No h h')(t:Below W x h m r l):Below W x h' m r l:=t.imp id fun⟨b,e,t⟩=>⟨b,e,TrieAt.upd0 k t⟩
theorem Below.less{W W':Nat→Prop}{x:Hs}{h:ad}{m:Nat}{r:Option Addr}{l:List Pr}(hm:∀b,W' b→W b∨h.size≤b)(t:Below W x h m r l):Below W' x h m r l:=t.imp id fun⟨b,e,t⟩=>⟨b,e,TrieAt.less hm t⟩
theorem Below.updM{W M:Nat→Prop}{x:Hs}{h h':ad}{m:Nat}{r:Option Addr}{l:List Pr}(k:Upd M h h')(hm:∀b,M b→W b∨h.size≤b)(t:Below W x h m r l):Below W x h' m r l:=t.imp id fun⟨b,e,t⟩=>⟨b,e,TrieAt.updM k hm t⟩
theorem abb(x:Hs):∀m,wl x m []= []
 |0=>rfl
 |m+1=>aA.1 (Nat.le_zero.1 (Nl x (m+1) []))
theorem Rv{W:Nat→Prop}{x:Hs}{h:ad}{m:Nat}{r:Option Addr}{l:List Pr}(t:Below W x h m r l)(hm:m≤13)(j:l.length≤100000){K:SliceV×SliceV→ad→Prop}
  (a:∀h' f,Fr.rem x f=wl x m l→f.Ok W (fun y=>h.size≤y∧y<h'.size) x h'→Upd No h h'→K f.raw h'):HC PG yu [.pointer r] [.agg [.slice,.slice]] K h:=by
 rcases t with⟨rfl,rfl⟩|⟨b,rfl,t⟩
 ·refine M9 none ?_
  unfold Gz bV df Ue acb;refine aP fun n b1 k1=>?_
  refine xf none ?_;unfold sE bK;refine aw.2 (yE none ?_);unfold tU bK;refine aw.2 ?_;refine cF (c:= [.slice none 0 0,.slice none 0 0]) (vs:= [.slice none 0 0,.slice none 0 0]) b1 rfl fun e g d=>?_
  refine⟨⟨none,0,0⟩,vc g 0,⟨none,0,0⟩,vc g 1,?_⟩;refine a e ⟨⟨none,0,0⟩,⟨none,0,0⟩,0,[],[]⟩ ?_ ⟨Sl.nil fU,Sl.nil uX,aj _,aj _,fun k a=>(by cases a),fun h=>absurd rfl h,aS _⟩ (k1.own d (aj _))
  rw[abb];rfl
 ·exact L4 t hm j fun h' f _ h2 _ e i=>a h' f h2 e i
theorem Rw{W:Nat→Prop}{x:Hs}{h:ad}{m:Nat}{r:Option Addr}{l:List Pr}(t:Below W x h m r l)(hm:m≤13)(n:l.length≤100000)(k:∀y,h.size≤y→W y){K:Option Addr→ad→Prop}
  (o:∀h' cb f G C,h.size≤cb→(∀y,G y∨C y→h.size≤y)→CurW W G C x h' cb [f]→f.rem x=wl x m l→Upd No h h'→K (some ⟨cb,0,none⟩) h'):HC PG C7 [.pointer r] [.c .ptr] K h:=by
 refine Tt r ?_;unfold Km adi;refine Rv t hm n fun h2 f d q j=>?_
 refine aP fun i b3 c=>aP fun p e b=>?_
 have A:=aY b3;have v:=aY e;have w:=j.size;have z:=c.size;have u:OwnS Xb 2 eS (fun y=>y=h2.size) i ⟨some (ay h2),1,1⟩ [f.raw]:=⟨rfl,Yn,aj _,.inr ⟨h2.size,[],rfl,rfl,b3,rfl⟩⟩
 refine o p i.size f (fun y=>h.size≤y∧y<h2.size) (fun y=>y=h2.size) (by omega) (fun y a=>by rcases a with h|h<;>omega) ⟨⟨_,0,e,u.upd b fun _ _ h=>h⟩,fun g s=>?_,fun y a=>by rcases a with h|h<;>omega,fun y a=>⟨by omega,by omega⟩,by omega,⟨fun y a=>k y (by omega),k _ (by omega)⟩,cD ..⟩ d ((j.tr c).tr b)
 rw[aD.1 s];exact q.upd (c.tr b) (fun _ h=>h.elim) fun _ h=>h.elim
theorem Rx{W:Nat→Prop}{x:Hs}{h:ad}{m:Nat}{r:Option Addr}{l:List Pr}(t:Below W x h m r l)(hm:m≤13)(hn:l.length≤100000){K:Value→ad→Prop}
  (hk:∀fv h',Gives PG fv abT l.length (fun xs=>xs=wl x m l) (fun y=>y<h'.size) h'→Upd No h h'→K fv h'):HC PG Da [.pointer r] [.c .raw] K h:=by
 refine Tu r ?_;unfold Ko;refine aP fun D b1 k1=>?_
 have z1:=aY b1;refine hk _ D ?_ k1;have t1:=Below.less (W':=fun y=>D.size≤y) (fun y a=>.inr a) (Below.upd0 k1 t)
 have hwl:=Nl x m l;refine⟨fun y a=>a,vF,#[],_,rfl,fun y J A M T K' v hj hu hq ha hk'=>?_⟩
 refine LR y (ay h) ?_;unfold zJ nv av lO wT rC;have d1:=hu.get b1 (hq _ z1);have s4:=hu.size;have t4:Below (fun y=>D.size≤y) x T m r l:=Below.updM hu (fun y a=>.inl (by
  rcases bR y D.size with H|H
  ·exact absurd a (hq y H)
  ·exact H)) t1
 refine⟨_,bm d1,?_⟩;refine Rw t4 hm hn (fun y a=>aX s4 a) fun h5 V f G C hcb L cur hfr k5=>?_
 have n:=v.lt _ _ _ hj;have hA3:∀y,A y→D.size≤y:=fun y a=>by
  rcases bR y D.size with H|H
  ·exact absurd H (ha y a)
  ·exact H
 have s5:=k5.size;have F:FQ x [f]=wl x m l:=by rw[←hfr];simp[FQ]
 refine LoopP.ghost (fun(g:List Pr×List Fr×(Nat→Prop)×(Nat→Prop)×(Nat→Prop)) (_:Unit) h'=>CurW (fun y=>D.size≤y) g.2.2.2.1 g.2.2.2.2 x h' V g.2.1∧J g.1 g.2.2.1 h'∧Upd A T h'∧(∀y,g.2.2.1 y→(A y∨T.size≤y)∧¬g.2.2.2.1 y∧¬g.2.2.2.2 y∧y≠V)∧(∀y,g.2.2.2.1 y∨g.2.2.2.2 y→T.size≤y)∧g.1++FQ x g.2.1=wl x m l∧h5.size≤h'.size) (fun g=>(FQ x g.2.1).length) ([],[f],A,G,C)
  ⟨cur,v.keep _ _ _ _ No hj k5 (fun _ _ h=>h),k5.wide,fun y a=>⟨.inl a,fun hx=>by have:=n y a;have:=L y (.inl hx);omega,fun hx=>by have:=n y a;have:=L y (.inr hx);omega,fun e=>by have:=n y a;omega⟩,L,by rw[F];rfl,aj _⟩ ?_
 rintro I ⟨pre,fs,A1,G1,C1⟩ ⟨⟩ h' ⟨cu,u,Z,b,i,c,hsz⟩ hI;simp only at cu u b i c;have z:=v.lt _ _ _ u;have hA1W:∀y,A1 y→D.size≤y:=fun y a=>(b y a).1.elim (hA3 y) fun h=>by omega
 have hd:∀y,A1 y→¬(C1 y∨y=V):=fun y a hx=>hx.elim (b y a).2.2.1 (b y a).2.2.2
 have X:∀y,C1 y∨y=V→T.size≤y:=fun y a=>a.elim (fun h=>i y (.inr h)) fun e=>by omega
 refine O3 cu (fun y a=>by omega) (fun h6 hr0 j=>?_) fun h6 fs' p R G' C' O Y q hC' hG' j=>?_
 ·have E:=v.keep _ _ _ _ _ u j hd
  refine tl fun U b7 P=>?_
  refine Join.intro (fun t o=>t=true∧o=U) (fun R hR=>aw.2 (hR _ _ ⟨rfl,rfl⟩)) ?_
  rintro t o ⟨rfl,rfl⟩;refine aw.2 (hk' pre A1 o ?_ (v.keep _ _ _ _ No E P (fun _ _ h=>h)) ?_ fun y a=>(b y a).1)
  ·rw[hr0,aL]at c
   exact c
  ·exact(Z.trans j fun y a=>.inr (X y a)).tr P.wide
 ·have E:=v.keep _ _ _ _ _ u j hd
  refine tl (p:=p) fun U b7 P=>?_
  have hj7:=v.keep _ _ _ _ No E P (fun _ _ h=>h)
  have cu7:=q.upd P (fun _ h=>h.elim) (fun _ _ h=>h) (fun _ _ h=>h) fun h=>h
  have hu47:Upd A T U:=(Z.trans j fun y a=>.inr (X y a)).tr P.wide
  have s6:=j.size;have s7:=P.size;refine Join.intro (fun t o=>t=false∧∃S,J (pre++ [p]) S o∧Upd A1 U o∧∀y,S y→A1 y∨U.size≤y) (fun R' hR=>?_) ?_
  ·refine ag.2 ⟨_,vc b7 0,_,vc b7 1,?_⟩
   refine v.step pre A1 U p _ hj7 ?_ fun o S Q k N=>hR _ _ ⟨rfl,S,Q,k,N⟩
   have:=congrArg List.length c;rw[O]at this;simp only[ac,ar]at this;omega
  ·rintro t o ⟨rfl,S,Q,k,N⟩
   have w:∀y,G' y→¬A1 y:=fun y a hx=>(hG' y a).elim (b y hx).2.1 fun h=>by have:=z y hx;omega
   have B:∀y,C' y→¬A1 y:=fun y a hx=>(hC' y a).elim (b y hx).2.2.1 fun h=>by have:=z y hx;omega
   have hcb6:V<h6.size:=by obtain⟨s,d,hx,_⟩:=q.ex;exact aY hx
   refine ag.2 (hI (pre++ [p],fs',S,G',C') () o ⟨?_,Q,?_,fun y a=>?_,fun y a=>?_,?_,by have:=k.size;omega⟩ ?_)
   ·exact cu7.upd k (fun y a=>.inl (hA1W y a)) B w fun hx=>(b _ hx).2.2.2 rfl
   ·exact hu47.trans k fun y a=>(b y a).1
   ·rcases N y a with h|h
    ·exact⟨(b y h).1,fun hx=>w y hx h,fun hx=>B y hx h,(b y h).2.2.2⟩
    ·exact⟨.inr (by omega),fun hx=>by have:=q.lt y (.inr hx);omega,fun hx=>by have:=q.lt y (.inl hx);omega,by omega⟩
   ·rcases a with a|a
    ·rcases hG' y a with h|h
     ·exact i y (.inl h)
     ·omega
    ·rcases hC' y a with h|h
     ·exact i y (.inr h)
     ·omega
   ·simp only
    rw[aq,Y,←c,O];rfl
   ·simp only
    rw[O,Y];simp
theorem B8{W W':Nat→Prop}{x:Hs}{h:ad}{m:Nat}{r:Option Addr}{l:List Pr}(t:Below W x h m r l)(hm:m≤13)(p:bM l)(j:l.length≤100000)(b:∀y,W' y→y<h.size){K:SliceV→ad→Prop}
  (k:∀s' h',Sl ey 2 W' h' s' l→s'.len≤s'.cap→Upd No h h'→K s' h'):HC PG uk [.pointer r] [.c .slice] K h:=by
 refine LA r ?_;unfold Cl;refine Rx t hm j fun z h2 s f=>?_
 refine Qz s (by omega) fun w v xs e q d=>?_
 subst e;have o:=Nl x m l;refine Vz (W':=W') (q.sl (W:=No) fun _ _ _ h=>h) (fun y u=>aG (b y u) (f.tr d).size) (by omega) fun i n a c g=>?_
 rw[abr p]at a;exact k i n a c ((f.tr d).tr g)
theorem RD{W W':Nat→Prop}{x:Hs}{h:ad}{t:Tr}{l:List Pr}(i:TreeIs W h 0 x t l)(k:bM l)(n:l.length≤60000)(c:∀y,W' y→y<h.size){K:SliceV→ad→Prop}
  (g:∀s' h',Sl ey 2 W' h' s' l→Upd No h h'→K s' h'):HC PG rR [yY t] [.c .slice] K h:=by
 rcases i with⟨_,b,rfl,t⟩|⟨e,_⟩
 ·refine EJ _ ?_
  unfold xk aI aB o9 acA;refine aP fun o b1 k1=>⟨_,vc b1 0,ag.2 ⟨_,vc b1 4,?_⟩⟩
  exact B8 (W':=W') (.inr ⟨b,rfl,TrieAt.upd0 k1 t⟩) (aj _) k (by omega) (fun y m=>aG (c y m) k1.size) fun f j a _ d=>g f j a (k1.tr d)
 ·cases e
end Go.Proofs
namespace Go.Proofs
open Go.Lift
abbrev Ch:=ByteArray×ByteArray×ByteArray×Bool×Bool
abbrev Fv(c:Ch):List Value:= [.string c.1,.string c.2.1,.string c.2.2.1,.bool c.2.2.2.1,.bool c.2.2.2.2]
def Lr(p:Pr):Ch:=(p.1,p.2,⟨#[]⟩,true,false)
def Zq(p:Pr):Ch:=(p.1,⟨#[]⟩,p.2,false,true)
def jN:List Pr→List Pr→List Ch
 | [],B=>B.map Zq
 |a::A,[]=>Lr a::jN A []
 |a::A,b::B=>if kl a.1 b.1 then Lr a::jN A (b::B)else if kl b.1 a.1 then Zq b::jN (a::A) B else if a.2=b.2 then jN A B else(a.1,a.2,b.2,true,true)::jN A B
termination_by A B=>A.length+B.length
theorem kE(B:List Pr):jN [] B=B.map Zq:=by unfold jN;rfl
theorem yB:∀A:List Pr,jN A []=A.map Lr
 | []=>by rw[kE];rfl
 |a::A=>by unfold jN;rw[yB A];rfl
theorem uK(a b:Pr)(A B:List Pr):jN (a::A) (b::B)=if kl a.1 b.1 then Lr a::jN A (b::B)else if kl b.1 a.1 then Zq b::jN (a::A) B else if a.2=b.2 then jN A B else(a.1,a.2,b.2,true,true)::jN A B:=by
 conv=>lhs;unfold jN
theorem Jr{a b:ByteArray}(h:kl a b):¬kl b a:=fun k=>bZ _ (gD h k)
theorem wh{a:Pr}{A:List Pr}:∀{B:List Pr},(∀q∈B,kl a.1 q.1)→jN (a::A) B=Lr a::jN A B
 | [],_=>by rw[yB,yB];rfl
 |b::B,h=>by rw[uK,if_pos (h b (au ..))]
theorem wg{b:Pr}{B:List Pr}:∀{A:List Pr},(∀q∈A,kl b.1 q.1)→jN A (b::B)=Zq b::jN A B
 | [],_=>by rw[kE,kE];rfl
 |a::A,h=>by
  have h:=h a (au ..);rw[uK,if_neg (Jr h),if_pos h]
theorem EA:∀A:List Pr,jN A A= []
 | []=>by rw[kE];rfl
 |a::A=>by rw[uK,if_neg (bZ _),if_neg (bZ _),if_pos rfl,EA A]
def Ai(a b:Pr):List Ch:=if a.2=b.2 then[]else[(a.1,a.2,b.2,true,true)]
theorem uJ{a b:Pr}(e:a.1=b.1)(A B:List Pr):jN (a::A) (b::B)=Ai a b++jN A B:=by
 rw[uK,e,if_neg (bZ _),if_neg (bZ _)];unfold Ai;split
 ·rfl
 ·rw[←e];rfl
theorem BH:∀{A B:List Pr} {c:Ch},c∈jN A B→∃p,p∈A++B∧c.1=p.1
 | [],B,c,h=>by
  rw[kE]at h;obtain⟨p,d,e⟩:=fC.1 h;exact⟨p,d,by rw[←e];rfl⟩
 |a::A,[],c,h=>by
  rw[yB]at h;obtain⟨p,d,e⟩:=fC.1 h;exact⟨p,cI _ d,by rw[←e];rfl⟩
 |a::A,b::B,c,h=>by
  rw[uK]at h;by_cases f:kl a.1 b.1
  ·rw[if_pos f]at h
   rcases aC.1 h with h|h
   ·exact⟨a,au ..,by rw[h];rfl⟩
   ·obtain⟨p,d,e⟩:=BH h
    exact⟨p,aE _ d,e⟩
  ·rw[if_neg f]at h
   by_cases h2:kl b.1 a.1
   ·rw[if_pos h2]at h
    rcases aC.1 h with h|h
    ·exact⟨b,de _ (au ..),by rw[h];rfl⟩
    ·obtain⟨p,d,e⟩:=BH h
     refine⟨p,?_,e⟩;rcases bC.1 d with d|d
     ·exact cI _ d
     ·exact de _ (aE _ d)
   ·rw[if_neg h2]at h
    have g:c∈jN A B→∃p,p∈a::A++b::B∧c.1=p.1:=fun h=>by
     obtain⟨p,d,e⟩:=BH h;refine⟨p,?_,e⟩;rcases bC.1 d with d|d
     ·exact cI _ (aE _ d)
     ·exact de _ (aE _ d)
    split at h
    ·exact g h
    ·rcases aC.1 h with h|h
     ·exact⟨a,au ..,by rw[h]⟩
     ·exact g h
termination_by A B=>A.length+B.length
theorem qj{P:List Pr→List Pr→Prop}(nil:P [] [])(d:∀a A B,bM (a::A)→bM B→(∀q∈B,kl a.1 q.1)→P A B→P (a::A) B)
  (c:∀b A B,bM A→bM (b::B)→(∀q∈A,kl b.1 q.1)→P A B→P A (b::B))(same:∀a b A B,a.1=b.1→bM (a::A)→bM (b::B)→P A B→P (a::A) (b::B)):
  ∀{A B:List Pr},bM A→bM B→P A B
 | [],[],_,_=>nil
 | [],b::B,hA,hB=>c b [] B hA hB (fun _ h=>absurd h im) (qj nil d c same hA (aF.1 hB).2)
 |a::A,[],hA,hB=>d a A [] hA hB (fun _ h=>absurd h im) (qj nil d c same (aF.1 hA).2 hB)
 |a::A,b::B,hA,hB=>by
  have g:=aF.1 hA;have i:=aF.1 hB;by_cases k:kl a.1 b.1
  ·refine d a A (b::B) hA hB (fun q f=>?_) (qj nil d c same g.2 hB)
   rcases aC.1 f with f|f
   ·rw[f];exact k
   ·exact gD k (i.1 q f)
  ·by_cases h2:kl b.1 a.1
   ·refine c b (a::A) B hA hB (fun q f=>?_) (qj nil d c same hA i.2)
    rcases aC.1 f with f|f
    ·rw[f];exact h2
    ·exact gD h2 (g.1 q f)
   ·have e:a.1=b.1:=Decidable.byContradiction fun j=>h2 (qQ k j)
    exact same a b A B e hA hB (qj nil d c same g.2 i.2)
termination_by A B=>A.length+B.length
abbrev Gl(l:List Ch):Prop:=l.Pairwise fun p q=>kl p.1 q.1
theorem y8{A B:List Pr}(f:bM A)(g:bM B):Gl (jN A B):=by
 refine qj (P:=fun A B=>Gl (jN A B)) ?_ (fun a A B f _ h i=>?_) (fun b A B _ g h i=>?_) (fun a b A B e f g i=>?_) f g
 ·rw[kE];exact .nil
 ·rw[wh h]
  refine aF.2 ⟨fun c hc=>?_,i⟩
  obtain⟨p,d,e⟩:=BH hc;rw[e];rcases bC.1 d with d|d
  ·exact(aF.1 f).1 p d
  ·exact h p d
 ·rw[wg h]
  refine aF.2 ⟨fun c hc=>?_,i⟩
  obtain⟨p,d,e⟩:=BH hc;rw[e];rcases bC.1 d with d|d
  ·exact h p d
  ·exact(aF.1 g).1 p d
 ·rw[uJ e]
  unfold Ai;split
  ·exact i
  ·refine aF.2 ⟨fun c hc=>?_,i⟩
   obtain⟨p,d,j⟩:=BH hc;rw[j];rcases bC.1 d with d|d
   ·exact(aF.1 f).1 p d
   ·rw[e];exact(aF.1 g).1 p d
theorem Te(g:ByteArray→Bool){A B:List Pr}(f:bM A)(k:bM B):jN (A.filter fun p=>g p.1) (B.filter fun p=>g p.1)=(jN A B).filter fun c=>g c.1:=by
 refine qj (P:=fun A B=>jN (A.filter fun p=>g p.1) (B.filter fun p=>g p.1)=(jN A B).filter fun c=>g c.1) ?_ (fun a A B f _ h i=>?_) (fun b A B _ k h i=>?_) (fun a b A B e f k i=>?_) f k
 ·rw[kz,kE];rfl
 ·rw[wh h,bJ,bJ,←i]
  show jN (if g a.1=true then _ else _) _=if g a.1=true then _ else _
  by_cases d:g a.1=true
  ·rw[if_pos d,if_pos d,wh fun q j=>h q (di.1 j).1]
  ·rw[if_neg d,if_neg d]
 ·rw[wg h,bJ,bJ,←i]
  show jN _ (if g b.1=true then _ else _)=if g b.1=true then _ else _
  by_cases d:g b.1=true
  ·rw[if_pos d,if_pos d,wg fun q j=>h q (di.1 j).1]
  ·rw[if_neg d,if_neg d]
 ·rw[uJ e,eN,←i,bJ,bJ,←e]
  unfold Ai;by_cases d:g a.1=true
  ·rw[if_pos d,if_pos d,uJ e]
   unfold Ai;split
   ·rfl
   ·rw[bJ,if_pos d];rfl
  ·rw[if_neg d,if_neg d]
   split
   ·rfl
   ·rw[bJ,if_neg d];rfl
theorem Ib{A2 B2:List Pr}:∀{A1 B1:List Pr},bM A1→bM B1→(∀p∈A1,∀q∈A2,kl p.1 q.1)→(∀p∈A1,∀q∈B2,kl p.1 q.1)→(∀p∈B1,∀q∈A2,kl p.1 q.1)→(∀p∈B1,∀q∈B2,kl p.1 q.1)→
  jN (A1++A2) (B1++B2)=jN A1 B1++jN A2 B2:=by
 intro A1 B1 k m;refine qj (P:=fun A1 B1=>(∀p∈A1,∀q∈A2,kl p.1 q.1)→(∀p∈A1,∀q∈B2,kl p.1 q.1)→(∀p∈B1,∀q∈A2,kl p.1 q.1)→(∀p∈B1,∀q∈B2,kl p.1 q.1)→jN (A1++A2) (B1++B2)=jN A1 B1++jN A2 B2) ?_ (fun a A B k _ h i=>?_) (fun b A B _ m h i=>?_) (fun a b A B e k m i=>?_) k m
 ·intro _ _ _ _;rw[kE];rfl
 ·intro f h2 d g
  rw[cM,wh h,wh (fun q j=>(bC.1 j).elim (h q) (h2 a (au ..) q)),i (fun p c=>f p (aE _ c)) (fun p c=>h2 p (aE _ c)) d g];rfl
 ·intro f h2 d g
  rw[cM,wg h,wg (fun q j=>(bC.1 j).elim (h q) (d b (au ..) q)),i f h2 (fun p c=>d p (aE _ c)) (fun p c=>g p (aE _ c))];rfl
 ·intro f h2 d g
  rw[cM,cM,uJ e,uJ e,i (fun p c=>f p (aE _ c)) (fun p c=>h2 p (aE _ c)) (fun p c=>d p (aE _ c)) (fun p c=>g p (aE _ c)),aq]
theorem w9{A B:List Pr}(c:bM A)(d:bM B):(jN A B).length≤A.length+B.length:=by
 refine qj (P:=fun A B=>(jN A B).length≤A.length+B.length) ?_ (fun a A B c _ h i=>?_) (fun b A B _ d h i=>?_) (fun a b A B e c d i=>?_) c d
 ·rw[kE];exact aj _
 ·rw[wh h];simp only[ar];omega
 ·rw[wg h];simp only[ar];omega
 ·rw[uJ e,ac,ar,ar]
  have:(Ai a b).length≤1:=by unfold Ai;split<;>simp
  omega
theorem GW{α:Type}(g:α→Nat)(n:Nat):∀L:List α,((L.filter fun x=>decide (g x<n))++L.filter fun x=>decide (g x=n)).Perm (L.filter fun x=>decide (g x<n+1))
 | []=>.refl _
 |a::L=>by
  have i:=GW g n L;rw[bJ,bJ,bJ];by_cases b:g a<n
  ·rw[if_pos (decide_eq_true b),if_neg (by simp;omega),if_pos (by simp;omega)]
   exact i.cons a
  ·by_cases h2:g a=n
   ·rw[if_neg (by simp;omega),if_pos (by simpa using h2),if_pos (by simp;omega)]
    exact List.perm_middle.trans (i.cons a)
   ·rw[if_neg (by simp;omega),if_neg (by simpa using h2),if_neg (by simp;omega)]
    exact i
end Go.Proofs
namespace Go.Proofs
open Go Go.Lift
theorem YK(x:Ch):(Fv x).length=5∧0<5:=⟨rfl,by omega⟩
abbrev adt(x:Hs)(s:SliceV):Array Value:= #[.int .u64 x.k0,.int .u64 x.k1,.int .u64 x.mask,sv s]
structure SetAt(C:Nat→Prop)(h:ad)(sb:Nat)(x:Hs)(L:List Ch):Prop where
 ex:∃s,h[sb]? =some (.cells (adt x s) CH (0,0))∧OwnS Fv 5 cl C h s L
 lt:∀b,C b→b<h.size
 ne:¬C sb
theorem SetAt.upd{C M:Nat→Prop}{h h':ad}{a:Nat}{x:Hs}{L:List Ch}(st:SetAt C h a x L)(k:Upd M h h')(c:∀b,C b→¬M b)(e:¬M a):SetAt C h' a x L:=by
 obtain⟨s,d,h2⟩:=st.ex;exact⟨⟨s,k.get d e,h2.upd k c⟩,fun b f=>aG (st.lt b f) k.size,st.ne⟩
theorem SetAt.upd0{C:Nat→Prop}{h h':ad}{a:Nat}{x:Hs}{L:List Ch}(st:SetAt C h a x L)(k:Upd No h h'):SetAt C h' a x L:=st.upd k (fun _ _ h=>h) fun h=>h
abbrev WN(C:Nat→Prop)(h:ad)(a:Nat)(x:Hs)(L:List Ch)(G:ad→Prop):Prop:=∀h' C',SetAt C' h' a x L→(∀b,C' b→C b∨h.size≤b)→Upd (fun b=>C b∨b=a) h h'→G h'
theorem RJ{C:Nat→Prop}{h:ad}{j:Nat}{x:Hs}{L:List Ch}{s:SliceV}{c:Ch}(st:SetAt C h j x L)(d:h[j]? =some (.cells (adt x s) CH (0,0))) (p:OwnS Fv 5 cl C h s L) (w:L.length+1≤100000000) {G:ad→Prop} (o:WN C h j x (L++ [c]) G):
  At (hnew h [.string c.1,.string c.2.1,.string c.2.2.1,.bool c.2.2.2.1,.bool c.2.2.2.2] cl) (fun f=>aJ f (adr ⟨j,0,none⟩ 3)=some (.slice s.a s.len s.cap)∧∃xs,SRow f (some (ay h)) (1*5) xs∧
   AppP (some [.string (⟨#[]⟩:ByteArray),.string (⟨#[]⟩:ByteArray),.string (⟨#[]⟩:ByteArray),.bool false,.bool false]) 5 56 cl s.a s.len s.cap 1 xs f (fun k h2=>∃a:Addr,some (⟨j,0,none⟩:Addr)=some a∧(Wr h2 (adr a 3)∧At (hset h2 (adr a 3) (.slice k.a k.len k.cap)) G))):=by
 refine aP fun f b1 k1=>⟨vc (k1.get0 d) 3,?_⟩
 have v:=aY b1;have y:=k1.size;have u:=aY d;have m:OwnS Fv 5 cl (fun _=>True) f ⟨some (ay h),1,1⟩ [c]:=⟨rfl,YK,aj _,.inr ⟨h.size,[],rfl,trivial,b1,rfl⟩⟩
 refine⟨_,(m.sl (W:=No) fun _ _ _ h=>h).srow,?_⟩
 refine AppP.own (M:=fun b=>C b∨f.size≤b) (ys:= [c]) ((p.upd k1 fun _ _ h=>h).more fun _ h=>.inl h) rfl rfl rfl rfl (by omega) (by simp only[aK];omega) (.inr (aj _)) fun k h2 n i=>?_
 have b2:=i.get (k1.get0 d) fun h=>h.elim st.ne fun h=>by omega
 have t:=i.size;refine⟨_,rfl,vz (c':=adt x k) b2 (by simp) rfl fun q b3 g=>?_⟩
 refine o q (fun b=>(C b∨f.size≤b)∧b<h2.size) ⟨⟨k,b3,(n.within).upd g fun b d e=>?_⟩,fun b d=>aG d.2 g.size,fun d=>?_⟩ (fun b d=>d.1.imp id fun h=>by omega) ?_
 ·have e:b=j:=e
  rw[e]at d;exact d.1.elim st.ne fun h=>by omega
 ·exact d.1.elim st.ne fun h=>by omega
 ·exact((k1.wide.trans i fun b d=>d.elim (fun h=>.inl (.inl h)) fun h=>.inr (by omega)).trans g fun b d=>.inl (.inr d))
theorem Uo{W:Nat→Prop}{h:ad}{s:SliceV}{p:Pr}{l:List Pr}(a:Sl ey 2 W h s (p::l))(hc:s.len≤s.cap):Sl ey 2 W h ⟨aW s.a 1 s.cap 2,s.len-1,s.cap-1⟩ l:=by
 have b:=a.len;rw[ar]at b;have:=Sl.sub a (l:=1) (hi:=s.len) (m:=s.cap) (c:=s.cap-1) (by omega) (by rw[ar];omega) hc;rw[show((p::l).drop 1).take (s.len-1)=l by rw[List.drop_succ_cons,List.drop_zero];exact bD (by omega)]at this
 exact this
theorem Ee{C:Nat→Prop}{h:ad}{j:Nat}{x:Hs}{L:List Ch}{s s':SliceV}{A B:List Pr}(st:SetAt C h j x L)(hs:Sl ey 2 (fun b=>C b∨b=j) h s A)(hs':Sl ey 2 (fun b=>C b∨b=j) h s' B)(hc:s.len≤s.cap)(hc':s'.len≤s'.cap)
  (hn:L.length+A.length+B.length≤100000000){K:Unit→ad→Prop}(hk:WN C h j x (L++jN A B) (K ())):HC PG jw [.pointer (some ⟨j,0,none⟩),.slice s.a s.len s.cap,.slice s'.a s'.len s'.cap] [] K h:=by
 refine Gx (some ⟨j,0,none⟩) s s' ?_;unfold yU bT bK az dy Rs lH;have hss:=hs.less (W':=fun b=>C b∨b=j∨h.size≤b) fun b J=>J.elim (fun h=>.inl (.inl h)) fun h=>h.elim (fun h=>.inl (.inr h)) .inr
 have hss':=hs'.less (W':=fun b=>C b∨b=j∨h.size≤b) fun b J=>J.elim (fun h=>.inl (.inl h)) fun h=>h.elim (fun h=>.inl (.inr h)) .inr
 refine LoopP.ghost (fun(g:List Pr×List Pr×List Ch×(Nat→Prop)) (t:SliceV×SliceV) h'=>SetAt g.2.2.2 h' j x g.2.2.1∧(∀b,g.2.2.2 b→C b∨h.size≤b)∧Upd (fun b=>C b∨b=j) h h'∧Sl ey 2 (fun b=>C b∨b=j∨h.size≤b) h' t.1 g.1∧Sl ey 2 (fun b=>C b∨b=j∨h.size≤b) h' t.2 g.2.1∧t.1.len≤t.1.cap∧t.2.len≤t.2.cap∧g.2.2.1++jN g.1 g.2.1=L++jN A B∧g.2.2.1.length+g.1.length+g.2.1.length≤L.length+A.length+B.length)
  (fun g=>g.1.length+g.2.1.length) (A,B,L,C) ⟨st,fun _ h=>.inl h,Upd.refl _ _,hss,hss',hc,hc',rfl,aj _⟩ ?_
 rintro I ⟨A1,B1,L1,Q⟩ ⟨t1,t2⟩ Y ⟨o,y,P,k,m,F,H,he,G⟩ hI;simp only at o y k m F H he G;have O:t1.len=A1.length:=k.len;have l2:t2.len=B1.length:=m.len;obtain⟨sl,p,S⟩:=o.ex;have go:∀(c:List Ch) (A2 B2:List Pr) (X W:SliceV) (h2:ad) (C2:Nat→Prop),SetAt C2 h2 j x (L1++c)→(∀b,C2 b→Q b∨Y.size≤b)→Upd (fun b=>Q b∨b=j) Y h2→jN A1 B1=c++jN A2 B2→Sl ey 2 (fun b=>C b∨b=j∨h.size≤b) Y X A2→Sl ey 2 (fun b=>C b∨b=j∨h.size≤b) Y W B2→X.len≤X.cap→W.len≤W.cap→c.length+A2.length+B2.length≤A1.length+B1.length→A2.length+B2.length<A1.length+B1.length→I (X,W) h2:=by
  intro c A2 B2 X W h2 C2 st2 hC2 T e q M w1 w2 hl d;have hm:∀b,Q b∨b=j→(C b∨b=j∨h.size≤b)∨Y.size≤b:=fun b J=>.inl (J.elim (fun h=>(y b h).imp id .inr) fun h=>.inr (.inl h))
  refine hI (A2,B2,L1++c,C2) (X,W) h2 ⟨st2,fun b J=>?_,?_,q.upd T hm,M.upd T hm,w1,w2,?_,?_⟩ d
  ·rcases hC2 b J with h|h
   ·exact y b h
   ·exact .inr (aX P.size h)
  ·exact P.trans T fun b J=>J.elim (fun h=>(y b h).imp .inl id) fun h=>.inl (.inr h)
  ·show(L1++c)++jN A2 B2=_
   rw[aq,←e,he]
  ·show(L1++c).length+A2.length+B2.length≤_
   rw[ac];omega
 refine Join.intro (fun t h'=>h'=Y∧(t=true↔A1≠[]∨B1≠[])) (fun R u=>?_) ?_
 ·refine ax (fun hp=>u _ _ ⟨rfl,?_⟩) fun hp=>u _ _ ⟨rfl,?_⟩
  ·have hp:(t1.len:Int)>0:=hp
   simp only[true_iff];left;intro e;rw[e]at O;simp only[aM]at O;omega
  ·have hp:¬(t1.len:Int)>0:=hp
   have e1:A1= []:=aA.1 (by omega);show decide ((t2.len:Int)>0)=true↔_
   rw[decide_eq_true_iff];constructor
   ·intro h;right;intro e;rw[e]at l2;simp only[aM]at l2;omega
   ·intro h
    rcases h with h|h
    ·exact absurd e1 h
    ·have:=List.length_pos_iff.2 h;omega
 rintro t h2 ⟨rfl,Z⟩;refine CondP.intro (fun e=>?_) fun e=>?_
 rotate_left
 ·have hn:A1= []∧B1= []:=by
   rw[e]at Z;constructor
   ·exact Decidable.byContradiction fun h=>absurd (Z.2 (.inl h)) (by simp)
   ·exact Decidable.byContradiction fun h=>absurd (Z.2 (.inr h)) (by simp)
  obtain⟨rfl,rfl⟩:=hn;rw[kE,iK,aL]at he;subst he;exact hk h2 Q o y P
 have hne:=Z.1 e;clear Z e;refine Join.intro (fun t h'=>h'=h2∧((t=true∧∃a A',A1=a::A'∧jN A1 B1=Lr a::jN A' B1)∨(t=false∧∃b D,B1=b::D∧(A1= []∨∃a A',A1=a::A'∧¬kl a.1 b.1)))) (fun R u=>?_) ?_
 ·rcases B1 with _|⟨b,D⟩
  ·rcases A1 with _|⟨a,A'⟩
   ·exact absurd hne (by simp)
   rw[show(((t2.len:Nat):Int)==0)=true by rw[l2];rfl]
   refine aw.2 (u _ _ ⟨rfl,.inl ⟨rfl,a,A',rfl,?_⟩⟩);rw[yB,yB];rfl
  ·rw[ar]at l2
   rw[show(((t2.len:Nat):Int)==0)=false by rw[beq_eq_false_iff_ne];omega]
   refine ag.2 ?_;rcases A1 with _|⟨a,A'⟩
   ·rw[aM]at O
    rw[decide_eq_false (show ¬((t1.len:Int)>0) by omega)]
    exact ag.2 (u _ _ ⟨rfl,.inr ⟨rfl,b,D,rfl,.inl rfl⟩⟩)
   ·rw[ar]at O
    rw[decide_eq_true (show((t1.len:Int)>0) by omega)]
    refine aw.2 ?_;obtain⟨E,f,_,q⟩:=k.at (i:=0) (x:=a) rfl;obtain⟨V,n,_,M⟩:=m.at (i:=0) (x:=b) rfl;refine⟨⟨by first|omega|(simp only;omega),by first|omega|(simp only;omega)⟩,E,f,a.1,q 0 _ rfl,⟨by first|omega|(simp only;omega),by first|omega|(simp only;omega)⟩,V,n,b.1,M 0 _ rfl,u _ _ ⟨rfl,?_⟩⟩
    by_cases d:kl a.1 b.1
    ·exact .inl ⟨d,a,A',rfl,by rw[uK,if_pos d]⟩
    ·exact .inr ⟨by unfold kl at d;simpa using d,b,D,rfl,.inr ⟨a,A',rfl,d⟩⟩
 rintro t h3 ⟨rfl,⟨rfl,a,A',rfl,ec⟩|⟨rfl,b,D,rfl,hA⟩⟩
 ·refine aw.2 (Join.plain ?_)
  rw[ar]at O;obtain⟨E,f,_,q⟩:=k.at (i:=0) (x:=a) rfl;refine⟨_,rfl,sl,vc p 3,⟨by first|omega|(simp only;omega),by first|omega|(simp only;omega)⟩,E,f,a.1,q 0 _ rfl,⟨by first|omega|(simp only;omega),by first|omega|(simp only;omega)⟩,E,f,a.2,q 1 _ rfl,?_⟩
  refine RJ (c:=Lr a) o p S (by simp only[ar]at G;omega) fun h4 C4 st4 hC4 hu4=>?_
  refine⟨⟨by first|omega|(simp only;omega),by first|omega|(simp only;omega)⟩,?_⟩
  simp only[Bd];exact go [Lr a] A' B1 _ _ h4 C4 st4 hC4 hu4 ec (Uo k F) m (by show t1.len-1≤t1.cap-1;omega) H (by simp only[ar,aM];omega) (by rw[ar];omega)
 refine ag.2 ?_;rw[ar]at l2;obtain⟨V,n,_,M⟩:=m.at (i:=0) (x:=b) rfl;refine Join.intro (fun t h'=>h'=h3∧((t=true∧jN A1 (b::D)=Zq b::jN A1 D)∨(t=false∧∃a A',A1=a::A'∧jN A1 (b::D)=Ai a b++jN A' D))) (fun R u=>?_) ?_
 ·rcases hA with rfl|⟨a,A',rfl,hna⟩
  ·rw[show(((t1.len:Nat):Int)==0)=true by rw[O];rfl]
   refine aw.2 (u _ _ ⟨rfl,.inl ⟨rfl,?_⟩⟩);rw[kE,kE];rfl
  ·rw[ar]at O
   rw[show(((t1.len:Nat):Int)==0)=false by rw[beq_eq_false_iff_ne];omega]
   obtain⟨E,f,_,q⟩:=k.at (i:=0) (x:=a) rfl;refine ag.2 ⟨⟨by first|omega|(simp only;omega),by first|omega|(simp only;omega)⟩,V,n,b.1,M 0 _ rfl,⟨by first|omega|(simp only;omega),by first|omega|(simp only;omega)⟩,E,f,a.1,q 0 _ rfl,u _ _ ⟨rfl,?_⟩⟩
   by_cases d:kl b.1 a.1
   ·exact .inl ⟨d,by rw[uK,if_neg hna,if_pos d]⟩
   ·refine .inr ⟨by unfold kl at d;simpa using d,a,A',rfl,?_⟩
    rw[uK,if_neg hna,if_neg d];unfold Ai;split<;>rfl
 rintro t h4 ⟨rfl,⟨rfl,ec⟩|⟨rfl,a,A',rfl,ec⟩⟩
 ·refine aw.2 (Join.plain ?_)
  refine⟨_,rfl,sl,vc p 3,⟨by first|omega|(simp only;omega),by first|omega|(simp only;omega)⟩,V,n,b.1,M 0 _ rfl,⟨by first|omega|(simp only;omega),by first|omega|(simp only;omega)⟩,V,n,b.2,M 1 _ rfl,?_⟩
  refine RJ (c:=Zq b) o p S (by simp only[ar]at G;omega) fun U N z w v=>?_
  refine⟨⟨by first|omega|(simp only;omega),by first|omega|(simp only;omega)⟩,?_⟩
  simp only[Bd];exact go [Zq b] A1 D _ _ U N z w v ec k (Uo m H) F (by show t2.len-1≤t2.cap-1;omega) (by simp only[ar,aM];omega) (by rw[ar];omega)
 rw[ar]at O;obtain⟨E,f,_,q⟩:=k.at (i:=0) (x:=a) rfl;have hcl:(Ai a b).length≤1:=by unfold Ai;split<;>simp
 refine ag.2 (Join.intro (fun _ U=>∃N,SetAt N U j x (L1++Ai a b)∧(∀b,N b→Q b∨h4.size≤b)∧Upd (fun b=>Q b∨b=j) h4 U) (fun R u=>?_) ?_)
 ·refine⟨⟨by first|omega|(simp only;omega),by first|omega|(simp only;omega)⟩,E,f,a.2,q 1 _ rfl,⟨by first|omega|(simp only;omega),by first|omega|(simp only;omega)⟩,V,n,b.2,M 1 _ rfl,?_⟩
  have eb:(a.2.toList==b.2.toList)=decide (a.2=b.2):=ge;rw[eb];by_cases e:a.2=b.2
  ·rw[decide_eq_true e]
   refine ag.2 (u _ _ ⟨Q,?_,fun _ h=>.inl h,Upd.refl _ _⟩)
   unfold Ai;rw[if_pos e,aL];exact o
  ·rw[decide_eq_false e]
   refine aw.2 ⟨_,rfl,sl,vc p 3,⟨by first|omega|(simp only;omega),by first|omega|(simp only;omega)⟩,E,f,a.1,q 0 _ rfl,⟨by first|omega|(simp only;omega),by first|omega|(simp only;omega)⟩,E,f,a.2,q 1 _ rfl,⟨by first|omega|(simp only;omega),by first|omega|(simp only;omega)⟩,V,n,b.2,M 1 _ rfl,?_⟩
   refine RJ (c:=(a.1,a.2,b.2,true,true)) o p S (by simp only[ar]at G;omega) fun U N z w v=>u _ _ ⟨N,?_,w,v⟩
   unfold Ai;rw[if_neg e];exact z
 ·rintro _ U ⟨N,z,w,v⟩
  refine⟨⟨by first|omega|(simp only;omega),by first|omega|(simp only;omega)⟩,?_⟩
  simp only[Bd];refine⟨⟨by first|omega|(simp only;omega),by first|omega|(simp only;omega)⟩,?_⟩
  exact go (Ai a b) A' D _ _ U N z w v ec (Uo k F) (Uo m H) (by show t1.len-1≤t1.cap-1;omega) (by show t2.len-1≤t2.cap-1;omega) (by rw[ar,ar];omega) (by rw[ar,ar];omega)
end Go.Proofs
namespace Go.Proofs
open Go Go.Lift
theorem XA{t:Tr}{h:ad}{K:Int→ad→Prop}(b:∀h',Upd No h h'→K t.1 h'):HC PG tK [yY t] [.c (.int .i64)] K h:=by
 refine Gn t ?_;unfold yL aI o9;exact aP fun a b1 k1=>⟨_,vc b1 0,b a k1⟩
end Go.Proofs
namespace Go.Proofs
open Go Go.Lift
theorem MD:∀{x y:List UInt8} {i:Nat} {a b:UInt8},(∀j,j<i→x[j]? =y[j]?)→x[i]? =some a→y[i]? =some b→a≠b→Op.bytesLess x y=decide (a.toNat<b.toNat)
 | [],_,_,_,_,_,h,_,_=>by simp at h
 |_::_,[],_,_,_,_,_,h,_=>by simp at h
 |c::x,d::y,0,a,b,_,h1,h2,hne=>by
  simp only[cL,bO.injEq]at h1 h2;subst h1 h2;simp only[Op.bytesLess];rw[beq_false_of_ne hne];simp[UInt8.lt_iff_toNat_lt]
 |c::x,d::y,i+1,a,b,he,h1,h2,hne=>by
  have e:=he 0 (by omega);simp only[cL,bO.injEq]at e;subst e;simp only[List.getElem?_cons_succ]at h1 h2;simp only[Op.bytesLess];rw[MD (i:=i) (fun j f=>by simpa using he (j+1) (by omega)) h1 h2 hne]
  simp[UInt8.lt_irrefl]
theorem MC:∀{x y:List UInt8} {i:Nat},(∀j,j<i→x[j]? =y[j]?)→i≤x.length→i≤y.length→(i=x.length∨i=y.length)→Op.bytesLess x y=decide (x.length<y.length)
 | [],[],_,_,_,_,_=>by simp[Op.bytesLess]
 | [],_::_,_,_,_,_,_=>by simp[Op.bytesLess]
 |_::_,[],_,_,_,_,_=>by simp[Op.bytesLess]
 |c::x,d::y,0,_,_,_,h=>by simp at h
 |c::x,d::y,i+1,he,h1,h2,h3=>by
  have e:=he 0 (by omega);simp only[cL,bO.injEq]at e;subst e;simp only[Op.bytesLess];rw[MC (i:=i) (fun j a=>by simpa using he (j+1) (by omega)) (by simpa using h1) (by simpa using h2) (by simpa using h3)]
  simp[UInt8.lt_irrefl]
theorem PE{a b:ByteArray}(B:a.size≤1000000){h:ad}{K:Bool→ad→Prop}(w:K (decide (kl a b)) h):HC PG zv [.string a,.string b] [.c .bool] K h:=by
 refine TH a b ?_;unfold KF;have z:a.data.toList.length=a.size:=by simp
 have A:b.data.toList.length=b.size:=by simp
 have g:∀{p:Prop} [Decidable p],Op.bytesLess a.data.toList b.data.toList=decide p→K (decide p) h:=fun{p} _ e=>by
  have:decide (kl a b)=decide p:=by
   rw[←e,←ByteArray.toList_eq,←ByteArray.toList_eq];exact Bool.eq_iff_iff.2 (by rw[decide_eq_true_iff];exact zO)
  rw[←this];exact w
 refine LoopP.ghost (fun(i:Nat) (t:Int) h'=>t=(i:Int)∧i≤a.size∧i≤b.size∧h'=h∧∀j,j<i→a.data.toList[j]? =b.data.toList[j]?) (fun i=>a.size-i) 0 ⟨rfl,aS _,aS _,rfl,fun j o=>absurd o (Nat.not_lt_zero _)⟩ ?_
 rintro I i t h' ⟨rfl,y,x,rfl,k⟩ v;refine Join.intro (fun t h2=>t=decide (i<a.size∧i<b.size)∧h2=h') (fun R s=>?_) ?_
 ·refine ax (fun c=>s _ _ ⟨?_,rfl⟩) fun m=>s _ _ ⟨?_,rfl⟩
  ·rw[decide_eq_decide];omega
  ·rw[eq_comm,decide_eq_false_iff_not];omega
 ·rintro t h2 ⟨rfl,rfl⟩
  refine ax (fun c=>?_) fun m=>?_
  ·have n:a.data.toList[i]? =some a[i]:=by rw[←Qn,getElem?_pos a i c.1]
   have u:b.data.toList[i]? =some b[i]:=by rw[←Qn,getElem?_pos b i c.2]
   refine⟨a[i],by omega,by rw[aU,getElem?_pos a i c.1],b[i],by omega,by rw[aU,getElem?_pos b i c.2],?_⟩
   refine CondP.intro (fun f=>?_) fun d=>?_
   ·refine⟨a[i],by omega,by rw[aU,getElem?_pos a i c.1],b[i],by omega,by rw[aU,getElem?_pos b i c.2],?_⟩
    refine g ?_;rw[MD k n u fun e=>by rw[e]at f;simp at f]
    rw[decide_eq_decide];omega
   ·have d:a[i]=b[i]:=by
     have:((a[i].toNat:Int))=(b[i].toNat:Int):=by simpa using d
     exact UInt8.toNat_inj.1 (by omega)
    rw[cS c.1 (by omega)];refine v (i+1) _ _ ⟨rfl,by omega,by omega,rfl,fun j o=>?_⟩ (by omega)
    rcases bR j i with q|q
    ·exact k j q
    ·have:j=i:=by omega
     subst this;rw[n,u,d]
  ·refine g ?_
   rw[MC k (by omega) (by omega) (by omega),decide_eq_decide];omega
theorem PH{W:Nat→Prop}{h:ad}{s:SliceV}{l:List Pr}(z:Sl ey 2 W h s l)(E:l.length≤1000000)(k:ByteArray){K:SliceV→ad→Prop}
  (B:∀s' h',OwnS ey 2 bU (fun y=>h.size≤y) h' s' (l.filter fun p=>decide (p.1≠k))→Upd No h h'→K s' h'):HC PG zw [.slice s.a s.len s.cap,.string k] [.c .slice] K h:=by
 refine TJ s k ?_;unfold KH bT nv az av lO iU;have x:=z.len;refine LoopP.ghost (fun(i:Nat) (t:SliceV×Int) h'=>t.2=(i:Int)∧i≤l.length∧OwnS ey 2 bU (fun y=>h.size≤y) h' t.1 ((l.take i).filter fun p=>decide (p.1≠k))∧Upd No h h') (fun i=>l.length-i) 0 ⟨rfl,aS _,by simpa using OwnS.nil fU,Upd.refl _ _⟩ ?_
 rintro I i ⟨so,G⟩ h' ⟨w,hi,g,f⟩ A;simp only at w g;subst w;refine ax (fun b=>?_) fun m=>?_
 ·have b:i<l.length:=by have:(i:Int)<(s.len:Int):=b;omega
  obtain⟨a,D,_,hv⟩:=(z.upd f fun _ h=>h.elim).at (af b)
  have o:((l.take i).filter fun p=>decide (p.1≠k)).length≤l.length:=aX (eh ..) (by rw[aQ];omega)
  refine Join.intro (fun t h2=>OwnS ey 2 bU (fun y=>h.size≤y) h2 t ((l.take (i+1)).filter fun p=>decide (p.1≠k))∧Upd No h h2) (fun R d=>⟨⟨by simp only;omega,by simp only;omega⟩,a,D,l[i].1,hv 0 _ rfl,l[i].2,hv 1 _ rfl,?_⟩) ?_
  ·refine tl (p:=l[i]) fun h2 b2 j=>⟨_,vc b2 0,?_⟩
   have c:=g.upd j fun _ _ h=>h
   rw[bj b,eN,bJ,kz]at d;rw[ge];by_cases e:l[i].1=k
   ·rw[decide_eq_true e]
    rw[decide_eq_false (not_not_intro e)]at d;rw[if_neg (by simp),aL]at d;exact ag.2 (d _ _ ⟨c,f.tr j⟩)
   ·rw[decide_eq_false e]
    rw[decide_eq_true e,if_pos rfl]at d;refine aw.2 ⟨_,vc b2 0,_,vc b2 1,bG ?_⟩;refine ws (p:=l[i]) c (fun y v=>aX (f.tr j).size v) (aX (Nat.add_le_add_right o 1) (by omega)) fun H F u q=>d _ _ ⟨u,(f.tr j).trans q fun y v=>.inr v⟩
  ·rintro t h2 ⟨c,n⟩
   rw[cS b (by omega)];exact A (i+1) _ _ ⟨rfl,b,c,n⟩ (by omega)
 ·have C:i=l.length:=by have:¬(i:Int)<(s.len:Int):=m;omega
  rw[bD (by omega)]at g;exact B _ _ g f
theorem Uy{W:Nat→Prop}{h:ad}{s:SliceV}{l:List Pr}(hs:Sl ey 2 W h s l)(hr:bM l)(hn:l.length≤1000000)(p:Pr)(hp:p.1.size≤1000000){K:SliceV→ad→Prop}
  (V:∀s' h',OwnS ey 2 bU (fun y=>h.size≤y) h' s' (iq p l)→Upd No h h'→K s' h'):HC PG BF [.slice s.a s.len s.cap,.agg #[.string p.1,.string p.2]] [.c .slice] K h:=by
 refine WT s p ?_;unfold Nf bT nv az av lO iU wT DQ;refine aP fun h1 b1 k1=>⟨p.1,vc b1 0,?_⟩
 refine PH (hs.upd k1 fun _ h=>h.elim) hn p.1 fun s4 u T k4=>?_
 rw[←MJ hr]at V;have hrf:bM (l.filter fun q=>decide (q.1≠p.1)):=hr.sublist List.filter_sublist
 have hnl:(l.filter fun q=>decide (q.1≠p.1)).length≤1000000:=aX (eh ..) hn
 have F:∀q∈l.filter fun q=>decide (q.1≠p.1),q.1≠p.1:=fun q v=>of_decide_eq_true (di.1 v).2
 generalize l.filter (fun q=>decide (q.1≠p.1))=L at V T hrf hnl F
 have C:=k1.tr k4;have D:Sl ey 2 No u s4 L:=T.sl fun _ _ _ h=>h
 have hlen:=D.len;have z4:=C.size;refine LoopP.ghost (fun(g:Nat×Bool) (t:SliceV×Bool×Int) h'=>t.2.2=(g.1:Int)∧t.2.1=g.2∧g.1≤L.length∧(∃out,OwnS ey 2 bU (fun y=>u.size≤y) h' t.1 out∧out.length≤g.1+1∧(g.2=false→out=L.take g.1∧∀q∈L.take g.1,kl q.1 p.1)∧(g.2=true→out=iq p (L.take g.1)∧∃q∈L.take g.1,kl p.1 q.1))∧Upd No u h') (fun g=>L.length-g.1) (0,false) ⟨rfl,rfl,aS _,⟨[],OwnS.nil fU,by simp,fun _=>⟨by simp,by simp⟩,fun h=>by cases h⟩,Upd.refl _ _⟩ ?_
 rintro I ⟨i,pl⟩ ⟨so,Z,ti⟩ h' ⟨e1,e2,hi,⟨out,H,P,X,U⟩,w⟩ hI;simp only at e1 e2 hi H P X U;subst e1 e2;have b':=w.get0 (k4.get0 b1);refine ax (fun f=>?_) fun hge=>?_
 ·have f:i<L.length:=by have:(i:Int)<(s4.len:Int):=f;omega
  obtain⟨a,ha,_,hv⟩:=(D.upd w fun _ h=>h.elim).at (af f)
  have d:=bj f;have M:L[i]∈L:=List.getElem_mem f;refine Join.intro (fun t h2=>(∃out,OwnS ey 2 bU (fun y=>u.size≤y) h2 t.1 out∧out.length≤i+1+1∧(t.2=false→out=L.take (i+1)∧∀q∈L.take (i+1),kl q.1 p.1)∧(t.2=true→out=iq p (L.take (i+1))∧∃q∈L.take (i+1),kl p.1 q.1))∧Upd No u h2) (fun R hR=>⟨⟨by simp only;omega,by simp only;omega⟩,a,ha,L[i].1,hv 0 _ rfl,L[i].2,hv 1 _ rfl,?_⟩) ?_
  ·refine tl (p:=L[i]) fun h2 b2 Y=>?_
   have o:=H.upd Y fun _ _ h=>h
   have m:=w.tr Y;have zb:=aY b2;have z2:=w.size;have hoM:=(H.within.upd Y fun _ _ h=>h).more (M':=fun y=>(u.size≤y∧y<h'.size)∨h2.size≤y) fun y b=>.inl b
   have c2:=Y.get0 b';refine Join.intro (fun t x=>(∃out,OwnS ey 2 bU (fun y=>u.size≤y) x t.1 out∧out.length≤i+1∧(t.2=false→out=L.take i∧∀q∈L.take (i+1),kl q.1 p.1)∧(t.2=true→out++ [L[i]]=iq p (L.take (i+1))∧∃q∈L.take (i+1),kl p.1 q.1))∧x[h'.size]? =some (.cells #[.string L[i].1,.string L[i].2] bU (0,0))∧Upd No u x) (fun R2 z=>?_) ?_
   ·refine Join.intro (fun t x=>t=(!Z&&decide (kl p.1 L[i].1))∧x=h2) (fun R3 G=>?_) ?_
    ·cases Z with
     |false=>exact aw.2 ⟨p.1,vc c2 0,L[i].1,vc b2 0,PE hp (G _ _ ⟨by simp,rfl⟩)⟩
     |true=>exact ag.2 (G _ _ ⟨by simp,rfl⟩)
    ·rintro t x ⟨rfl,rfl⟩
     cases Z with
     |true=>
      obtain⟨e,q,v,N⟩:=U rfl;refine ag.2 (z _ _ ⟨⟨out,o,P,fun h=>(by cases h),fun _=>?_⟩,b2,m⟩)
      rw[d,e];exact⟨(Qf ⟨q,v,N⟩).symm,q,cI _ v,N⟩
     |false=>
      obtain⟨e,c⟩:=X rfl;subst e;by_cases k:kl p.1 L[i].1
      ·rw[decide_eq_true k]
       refine aw.2 ⟨p.1,vc c2 0,p.2,vc c2 1,bG ?_⟩;refine ws (p:=p) hoM (fun y b=>.inr b) (by rw[aQ];omega) fun s5 h5 n j=>z _ _ ⟨⟨_,n.more (fun y b=>by rcases b with b|b<;>omega),by rw[ac,aQ,aK];omega,fun h=>(by cases h),fun _=>?_⟩,j.get b2 (by rintro(hx|hx)<;>omega),m.trans j fun y b=>.inr (by rcases b with b|b<;>omega)⟩
       ·rw[d,Eh c]
        refine⟨?_,L[i],de _ (aD.2 rfl),k⟩;rw[aq,Qd (l:= [L[i]]) fun q v=>by rw[aD.1 v];exact k]
        rfl
      ·rw[decide_eq_false k]
       have v:kl L[i].1 p.1:=qQ k fun e=>F _ M e.symm
       refine ag.2 (z _ _ ⟨⟨_,o,by rw[aQ];omega,fun _=>⟨rfl,fun q Q=>?_⟩,fun h=>(by cases h)⟩,b2,m⟩)
       rw[d]at Q;rcases bC.1 Q with h|h
       ·exact c q h
       ·rw[aD.1 h];exact v
   ·rintro⟨t1,t2⟩ x ⟨⟨out3,S,hol3,J,E⟩,b3,O⟩
    simp only at S J E;refine⟨_,vc b3 0,_,vc b3 1,bG ?_⟩;refine ws (p:=L[i]) S (fun y b=>aX O.size b) (by omega) fun s5 h5 n j=>hR _ _ ⟨⟨_,n,by rw[ac,aK];omega,fun h=>?_,fun h=>E h⟩,O.trans j fun y b=>.inr b⟩
    obtain⟨e,c⟩:=J h;exact⟨by rw[e,d],c⟩
  ·rintro⟨t1,t2⟩ h2 ⟨o,m⟩
   rw[cS f (by omega)];exact hI (i+1,t2) _ _ ⟨rfl,rfl,f,o,m⟩ (by simp only;omega)
 ·have hil:i=L.length:=by have:¬(i:Int)<(s4.len:Int):=hge;omega
  subst hil;rw[List.take_length]at X U;cases Z with
  |true=>
   obtain⟨e,_⟩:=U rfl;subst e;exact ag.2 (V _ _ (H.more fun y b=>aX z4 b) (C.tr w))
  |false=>
   obtain⟨e,c⟩:=X rfl;subst e;refine aw.2 ⟨p.1,vc b' 0,p.2,vc b' 1,bG ?_⟩;refine ws (p:=p) H (fun y b=>aX w.size b) (by omega) fun s5 h5 n j=>V _ _ ?_ ((C.tr w).trans j fun y b=>.inr (aX z4 b))
   have:=Eh (p:=p) (A:=out) (B:= []) c;rw[aL]at this;rw[this];exact n.more fun y b=>aX z4 b
end Go.Proofs
namespace Go.Proofs
open Go Go.Lift
abbrev Rt:=Int×Int×Int×Int×SliceV
abbrev ou(r:Rt):List Value:= [.int .i64 r.1,.int .u64 r.2.1,.int .u64 r.2.2.1,.int .u64 r.2.2.2.1,.slice r.2.2.2.2.a r.2.2.2.2.len r.2.2.2.2.cap]
abbrev OX(r:Rt):Value:=.agg #[.int .i64 r.1,.int .u64 r.2.1,.int .u64 r.2.2.1,.int .u64 r.2.2.2.1,.slice r.2.2.2.2.a r.2.2.2.2.len r.2.2.2.2.cap]
abbrev IT:Rt:=(0,0,0,0,⟨none,0,0⟩)
def hx(a v:Int):Int:=if a=0 then v else 0
def RefIs(W:Nat→Prop)(h:ad)(a:Int)(x:Hs)(r:Rt)(l:List Pr):Prop:=∃s,r=(a,hx a x.k0,hx a x.k1,hx a x.mask,s)∧Sl ey 2 W h s l∧s.len≤s.cap
theorem RefIs.upd0{W:Nat→Prop}{h h':ad}{a:Int}{x:Hs}{r:Rt}{l:List Pr}(k:Upd No h h')(i:RefIs W h a x r l):RefIs W h' a x r l:=
 let⟨s,e,b⟩:=i;⟨s,e,b.1.upd k fun _ h=>h.elim,b.2⟩
theorem RefIs.less{W W':Nat→Prop}{h:ad}(hm:∀b,W' b→W b∨h.size≤b){a:Int}{x:Hs}{r:Rt}{l:List Pr}(i:RefIs W h a x r l):RefIs W' h a x r l:=
 let⟨s,e,c⟩:=i;⟨s,e,c.1.less hm,c.2⟩
theorem RefIs.updM{W M:Nat→Prop}{h h':ad}(k:Upd M h h')(hm:∀b,M b→W b∨h.size≤b){a:Int}{x:Hs}{r:Rt}{l:List Pr}(i:RefIs W h a x r l):RefIs W h' a x r l:=
 let⟨s,e,c⟩:=i;⟨s,e,c.1.upd k hm,c.2⟩
theorem ZZ{W:Nat→Prop}{x:Hs}{h:ad}{a:Int}(g:a=0∨a=1){K:Rt×Int→ad→Prop}(j:∀h' r,RefIs W h' a x r []→Upd No h h'→K (r,0) h'):HC PG F9 [.int .i64 a,.agg #[.int .u64 x.k0,.int .u64 x.k1,.int .u64 x.mask]] [.agg [.int .i64,.int .u64,.int .u64,.int .u64,.slice],.c (.int .i64)] K h:=by
 refine WR a (x.k0,x.k1,x.mask) ?_;unfold Nc aI ae bV df AA KW;refine aP fun n b1 k1=>aP fun h2 b2 m=>?_
 have i:=m.get0 b1;have k:=k1.size;have e:=k1.tr m;rcases g with rfl|rfl
 ·refine aw.2 ⟨_,vc i 0,_,vc i 1,_,vc i 2,?_⟩
  refine cF (c:=ou IT) (vs:=ou (0,x.k0,x.k1,x.mask,⟨none,0,0⟩)) b2 rfl fun f b d=>?_
  exact⟨_,vc b 0,_,vc b 1,_,vc b 2,_,vc b 3,⟨none,0,0⟩,vc b 4,j f (0,x.k0,x.k1,x.mask,⟨none,0,0⟩) ⟨_,rfl,Sl.nil fU,aj _⟩ (e.own d k)⟩
 ·refine ag.2 (aw.2 ?_)
  refine cF (c:=ou IT) (vs:=ou (1,0,0,0,⟨none,0,0⟩)) b2 rfl fun f b d=>?_
  exact⟨_,vc b 0,_,vc b 1,_,vc b 2,_,vc b 3,⟨none,0,0⟩,vc b 4,j f (1,0,0,0,⟨none,0,0⟩) ⟨_,rfl,Sl.nil fU,aj _⟩ (e.own d k)⟩
theorem VQ{k v:ByteArray}(b:k.size≤256)(h2:v.size≤4096){h:ad}{K:Int→ad→Prop}(a:K 0 h):HC PG AZ [.string k,.string v] [.c (.int .i64)] K h:=by
 refine QT k v ?_;unfold Hq;refine ax (fun h=>absurd h (by omega)) fun _=>ax (fun h=>absurd h (by omega)) fun _=>a
theorem XR{W:Nat→Prop}{x:Hs}{h:ad}{a:Int}{r:Rt}{l:List Pr}(i:RefIs W h a x r l)(D:∀y,W y→y<h.size)(F:bM l)(E:l.length≤1000000)(p:Pr)(w:p.1.size≤256)(t:p.2.size≤4096){K:Rt×Int→ad→Prop}
  (C:∀h' r',RefIs W h' a x r' (iq p l)→Upd No h h'→K (r',0) h'):HC PG De [OX r,.agg #[.string p.1,.string p.2]] [.agg [.int .i64,.int .u64,.int .u64,.int .u64,.slice],.c (.int .i64)] K h:=by
 refine TB r p ?_;unfold Kw aI ae bV df KW BQ av iU dy wT rC Ns;refine aP fun A b1 k1=>aP fun h2 b2 u=>aP fun P b3 o=>?_
 have J:=aY b1;have O:=aY b2;have Q:=aY b3;have N:h.size≤A.size:=k1.size;have M:A.size≤h2.size:=u.size;have S:=o.size;have n:=(k1.tr u).tr o;have B:=o.get0 (u.get0 b1);have q:=o.get0 b2;obtain⟨s,rfl,H,_⟩:=i;refine⟨_,vc q 0,_,vc q 1,VQ w t (ag.2 ?_)⟩;refine⟨s,vc B 4,p.1,vc q 0,p.2,vc q 1,?_⟩;refine Uy (H.upd n fun _ h=>h.elim) F E p (by omega) fun f L v d=>?_
 refine vz (i:=4) (c':=(ou (a,hx a x.k0,hx a x.k1,hx a x.mask,f)).toArray) (d.get0 B) (show 4<5 by decide) rfl fun R m b=>?_
 refine⟨_,vc m 0,_,vc m 1,_,vc m 2,_,vc m 3,f,vc m 4,?_⟩;refine cF (c:=ou IT) (vs:=ou (a,hx a x.k0,hx a x.k1,hx a x.mask,f)) (b.oth (d.get0 b3) (by omega)) rfl fun G g k=>?_
 refine⟨_,vc g 0,_,vc g 1,_,vc g 2,_,vc g 3,f,vc g 4,?_⟩;have j:=(v.upd b fun y z e=>by have e:y=h.size:=e;omega).upd k fun y z e=>by have e:y=h2.size:=e;omega
 refine C G (a,hx a x.k0,hx a x.k1,hx a x.mask,f) ⟨f,rfl,j.sl fun y z _ I=>by have:=D y I;omega,j.cap⟩ (((n.tr d).own b (aj _)).own k (by omega))
def Ef(r q:Rt):Bool:=(r.1==q.1)&&((r.2.1==q.2.1)&&((r.2.2.1==q.2.2.1)&&((r.2.2.2.1==q.2.2.2.1)&&true)))
theorem D6{r q:Rt}{h:ad}{K:Bool→ad→Prop}(c:∀h',Upd No h h'→K (Ef r q) h'):HC PG zq [OX r,OX q] [.c .bool] K h:=by
 refine TC r q ?_;unfold Ky aI cg BQ;refine aP fun d b1 k1=>aP fun h2 b2 b=>?_
 have a:=b.get0 b1;refine⟨_,vc a 0,_,vc b2 0,?_⟩;have:=c h2 (k1.tr b);unfold Ef at this;rcases hb:(r.1==q.1)with _|_
 ·rw[hb]at this
  exact ag.2 this
 ·rw[hb]at this
  exact aw.2 ⟨_,lJ a 1 0,_,lJ a 1 1,_,lJ a 1 2,_,lJ b2 1 0,_,lJ b2 1 1,_,lJ b2 1 2,this⟩
theorem UQ{W W':Nat→Prop}{h h':ad}{c a:Int}{x d:Hs}{t u:Tr}{r q:Rt}{l l':List Pr}(i:TreeIs W h c x t l)(e:TreeIs W h a d u l')(j:RefIs W' h' c x r l)(f:RefIs W' h' a d q l'):jK t u=Ef r q:=by
 obtain⟨s,rfl,_⟩:=j;obtain⟨s',rfl,_⟩:=f;rcases i with⟨rfl,b,rfl,_⟩|⟨rfl,b,rfl,_⟩<;>rcases e with⟨rfl,b',rfl,_⟩|⟨rfl,b',rfl,_⟩<;>simp[jK,Ef,hx,Bool.and_assoc]
def yz(s:ByteArray):ByteArray:=s.extract 0 (min s.size 30)
theorem wd(s:ByteArray):(yz s).size≤30:=by unfold yz;rw[gC];omega
end Go.Proofs
