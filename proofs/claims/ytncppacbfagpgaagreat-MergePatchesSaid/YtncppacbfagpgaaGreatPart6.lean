/- A part of the proof that the named laws of this program answer true, whatever the input. -/
import Derived.Test.YtncppacbfagpgaaGreatPart4
import Derived.Test.YtncppacbfagpgaaGreatPart5
import Derived.Test.YtncppacbfagpgaaGreatPart2
open ByteArray renaming size_extract→qz
open Iff renaming rfl→w9
open Int renaming toNat_natCast→aX
open List renaming mem_range→gN,mem_append→bi,mem_singleton→aB,flatMap_cons→aI,length_append→ac,mem_filter→de,map_append→dA,pairwise_cons→aG,mem_cons_self→ao,length_cons→ak,flatMap_append→bO,append_assoc→al,mem_cons→az,length_map→cV,mem_map→iH,length_singleton→aR,length_nil→aJ,map_cons→eP,map_nil→ji,mem_append_right→cO,pairwise_append→cg,take_of_length_le→bm,pairwise_singleton→cq,mem_append_left→cA,length_eq_zero_iff→aw,mem_cons_of_mem→aC,append_nil→aK,not_mem_nil→gu,filter_nil→pb,filter_cons→bJ,filter_append→gg,cons_append→cH,getElem?_cons_zero→cM,getElem?_eq_getElem→ai,length_filter_le→eT,length_take→aQ,take_succ_eq_append_getElem→ce
open Nat renaming le_refl→aq,lt_of_lt_of_le→aE,zero_le→bw,le_trans→bc,lt_or_ge→ct
open Option renaming some→bR
namespace Go.Proofs
open Go Go.Lift
theorem Rd{β:Type}{g:Nat→Option β}{n:Nat}{y:β}:y∈fm g n↔∃c,c<n∧g c=some y:=by
 unfold fm;rw[List.mem_filterMap];exact⟨fun⟨c,h1,h2⟩=>⟨c,gN.1 h1,h2⟩,fun⟨c,h1,h2⟩=>⟨c,gN.2 h1,h2⟩⟩
def wl(x:Hs):Nat→List Pr→List Pr
 |0,l=>l
 |m+1,l=>kN x (12-m) l++(pH x (12-m) l).flatMap (wl x m)
theorem H6(x:Hs)(m:Nat)(l:List Pr):wl x (m+1) l=kN x (12-m) l++(pH x (12-m) l).flatMap (wl x m):=rfl
theorem Fe{x:Hs}{p:Pr}:∀(m:Nat) {l:List Pr},p∈wl x m l↔p∈l
 |0,_=>w9
 |m+1,l=>by
  rw[H6,bi,List.mem_flatMap];constructor
  ·rintro(h|⟨L,hL,h⟩)
   ·exact sQ h
   ·obtain⟨_,c,rfl⟩:=qR hL
    exact(mX.1 ((Fe m).1 h)).1
  ·intro h
   have hm:p∈part x (12-m) (ck x (12-m) p.1) l:=mX.2 ⟨h,rfl⟩;have hc:=ya x (12-m) p.1;rcases hL:part x (12-m) (ck x (12-m) p.1) l with _|⟨a,_|⟨b,r⟩⟩
   ·rw[hL]at hm;cases hm
   ·left
    rw[hL]at hm;rw[aB.1 hm];unfold kN;exact Rd.2 ⟨_,hc,by show xp (part x (12-m) (ck x (12-m) p.1) l)=_;rw[hL];rfl⟩
   ·right
    refine⟨a::b::r,?_,(Fe m).2 (by rw[←hL];exact hm)⟩;unfold pH;exact Rd.2 ⟨_,hc,by show sI (part x (12-m) (ck x (12-m) p.1) l)=_;rw[hL];rfl⟩
theorem K9{f:List Pr→List Pr}(h:∀l,(f l).length≤l.length):∀ls:List (List Pr),(ls.flatMap f).length≤ls.flatten.length
 | []=>aq _
 |l::ls=>by
  have h1:=h l;have h2:=K9 h ls;rw[aI,List.flatten_cons,ac,ac];omega
theorem H7(x:Hs):∀(m:Nat) (l:List Pr),(wl x m l).length≤l.length
 |0,_=>aq _
 |m+1,l=>by
  rw[H6,ac];have h1:=yp x (12-m) l;have h2:=K9 (H7 x m) (pH x (12-m) l);omega
theorem Uf{x:Hs}{m:Nat}{l:List Pr}(hr:bE l):yF (wl x m l)=l:=by
 refine vn (BW _) hr fun p=>?_
 rw[OA];constructor
 ·intro h;exact(Fe m).1 (Hz h)
 ·intro h
  have hp:p∈(wl x m l).filter fun q=>decide (q.1=p.1):=de.2 ⟨(Fe m).2 h,decide_eq_true rfl⟩
  have hne:ku (wl x m l) p.1≠none:=by
   unfold ku;intro e;rw[List.getLast?_eq_none_iff]at e;rw[e]at hp;cases hp
  cases hl:ku (wl x m l) p.1 with
  |none=>exact absurd hl hne
  |some q=>
   have h1:=PC hl;have h2:=(Fe m).1 (Hz hl);have h3:(p.1,q.2)∈l:=by rw[←h1];exact h2
   have h4:=E3 hr (k:=p.1) (v:=p.2) (w:=q.2) h h3;rw[Prod.ext h1 h4.symm]
def cw(x:Hs):Nat→List Pr→Nat
 |0,_=>2
 |m+1,l=>2+((pH x (12-m) l).map (cw x m)).sum
structure Fr where
 sp:SliceV
 sk:SliceV
 n:Nat
 ps:List Pr
 ks:List (Nat×List Pr)
abbrev Ql(v:SliceV×SliceV):List Value:= [sv v.1,sv v.2]
theorem Rs(x:SliceV×SliceV):(Ql x).length=2∧0<2:=⟨rfl,by omega⟩
def Fr.raw(f:Fr):SliceV×SliceV:=(f.sp,f.sk)
def Fr.rem(x:Hs)(f:Fr):List Pr:=f.ps++f.ks.flatMap fun k=>wl x (f.n-1) k.2
def Fr.cost(x:Hs)(f:Fr):Nat:=1+(f.ks.map fun k=>cw x (f.n-1) k.2).sum
def Cb(x:Hs)(l:List Fr):List Pr:=l.reverse.flatMap (Fr.rem x)
def Dx(x:Hs)(l:List Fr):Nat:=(l.map (Fr.cost x)).sum
theorem yu(x:Hs)(l:List Fr)(f:Fr):Cb x (l++ [f])=f.rem x++Cb x l:=by unfold Cb;rw[List.reverse_append];rfl
theorem zU(x:Hs)(l:List Fr)(f:Fr):Dx x (l++ [f])=Dx x l+f.cost x:=by unfold Dx;rw[dA,List.sum_append];simp
abbrev KL(k:Nat×List Pr):Option Addr:=some ⟨k.1,0,none⟩
structure Fr.Ok(W G:Nat→Prop)(x:Hs)(h:ad)(f:Fr):Prop where
 p:Sl eu 2 (fun y=>¬G y) h f.sp f.ps
 k:Sl rH 1 (fun y=>¬G y) h f.sk (f.ks.map KL)
 pc:f.sp.len≤f.sp.cap
 kc:f.sk.len≤f.sk.cap
 t:∀k∈f.ks,TrieAt W x h (f.n-1) k.1 k.2∧k.2.length≤100000
 n0:f.ks≠[]→0<f.n
 n13:f.n≤13
theorem Fr.Ok.upd{W G M:Nat→Prop}{x:Hs}{h h':ad}{f:Fr}(o:f.Ok W G x h)(k:Upd M h h')(hW:∀b,M b→W b∨h.size≤b)(hG:∀b,M b→¬G b∨h.size≤b):f.Ok W G x h':=
 ⟨o.p.upd k hG,o.k.upd k hG,o.pc,o.kc,fun q hq=>⟨TrieAt.updM k hW (o.t q hq).1,(o.t q hq).2⟩,o.n0,o.n13⟩
theorem Fr.Ok.sub{W G G':Nat→Prop}{x:Hs}{h:ad}{f:Fr}(o:f.Ok W G x h)(hG:∀b,G b→G' b):f.Ok W G' x h:=
 ⟨o.p.less fun b hb=>.inl fun hg=>hb (hG b hg),o.k.less fun b hb=>.inl fun hg=>hb (hG b hg),o.pc,o.kc,o.t,o.n0,o.n13⟩
abbrev Vs(s:SliceV)(d:Int):Array Value:= #[sv s,.int .i64 d]
structure CurW(W G C:Nat→Prop)(x:Hs)(h:ad)(cb:Nat)(fs:List Fr):Prop where
 ex:∃s d,h[cb]? =some (.cells (Vs s d) yU (0,0))∧OwnS Ql 2 dW C h s (fs.map Fr.raw)
 ok:∀f∈fs,f.Ok W G x h
 lt:∀b,(C b∨G b)→b<h.size
 dj:∀b,G b→¬C b∧b≠cb
 cc:¬C cb
 cw:(∀b,C b→W b)∧W cb
 lv:fs.Pairwise fun f g=>g.n<f.n
theorem CurW.upd{W G C M:Nat→Prop}{x:Hs}{h h':ad}{cb:Nat}{fs:List Fr}(c:CurW W G C x h cb fs)(k:Upd M h h')(hW:∀b,M b→W b∨h.size≤b)(hC:∀b,C b→¬M b)(hG:∀b,G b→¬M b)(hcb:¬M cb):CurW W G C x h' cb fs:=by
 obtain⟨s,d,h1,h2⟩:=c.ex;exact⟨⟨s,d,k.get h1 hcb,h2.upd k hC⟩,fun f hf=>(c.ok f hf).upd k hW fun b hb=>.inl fun hg=>hG b hg hb,fun b hb=>aE (c.lt b hb) k.size,c.dj,c.cc,c.cw,c.lv⟩
theorem Rg:∀{fs:List Fr} {n:Nat},fs.Pairwise (fun f g=>g.n<f.n)→(∀f∈fs,f.n≤n)→fs.length≤n+1
 | [],_,_,_=>bw _
 |f::fs,n,hp,hn=>by
  have hp:=aG.1 hp;have h0:=hn f (ao ..);rcases fs with _|⟨g,fs⟩
  ·simp
  ·have hg:=hp.1 g (ao ..)
   have:=Rg (n:=f.n-1) hp.2 fun g hg=>by have:=hp.1 g hg;omega
   rw[ak];omega
theorem Od{α:Type}{f:α→List Value}{sz:Nat}{t:TypeId}{M:Nat→Prop}{h:ad}{s:SliceV}{P Q:List α}{x y:α}{j:Nat}{v:Value}(ho:OwnS f sz t M h s (P++x::Q))(hj:j<sz)(hy:f y=(f x).set j v){a:Addr}(ha:s.a=some a){i:Nat}(hi:i=P.length){G:ad→Prop}(hk:∀h',OwnS f sz t M h' s (P++y::Q)→Upd M h h'→G h'):
  Wr h (adr (adr a (i*sz)) j)∧At (hset h (adr (adr a (i*sz)) j) v) G:=by
 subst hi;have hf:=ho.ne;have hlen:=ho.len;have hcap:=ho.cap;rcases ho.blk with h0|⟨b,rest,ha',hb,hc,hr⟩
 ·rw[ac,ak]at hlen;omega
 rw[ha]at ha';cases ha';have hA:(P.flatMap f).length=P.length*sz:=lD hf P;rw[bO,aI]at hc;have hX:=(hf x).1;have ea:adr (adr ⟨b,0,none⟩ (P.length*sz)) j=⟨b,P.length*sz+j,none⟩:=by rw[ci,ci,Nat.zero_add]
 rw[ea];have hsz:P.length*sz+j<(P.flatMap f++(f x++Q.flatMap f)++rest).toArray.size:=by
  simp only[List.size_toArray,ac];omega
 refine⟨iI hc hsz,yb hc fun h' hb' hu'=>hk h' ⟨by rw[hlen];simp,hf,hcap,.inr ⟨b,rest,ha,hb,?_,hr⟩⟩ (hu'.mono fun z hz=>.inl (by have hz:z=b:=hz;rw[hz];exact hb))⟩
 rw[hb'];congr 3
 rw[bO,aI,hy];apply Array.toList_inj.1;rw[Array.toList_setIfInBounds];simp only[al];rw[List.set_append_right _ _ (by omega),show P.length*sz+j-(P.flatMap f).length=j by omega,List.set_append_left _ _ (by omega)]
theorem HA{W:Nat→Prop}{x:Hs}{h:ad}{m:Nat}:∀{ks:List (Option Addr)} {ls:List (List Pr)},KidsAt W x h m ks ls→∃q:List (Nat×List Pr),ks=q.map KL∧ls=q.map (·.2)∧∀k∈q,TrieAt W x h m k.1 k.2
 | [],[],_=>⟨[],rfl,rfl,fun k hk=>by cases hk⟩
 |_::_,[],h=>h.elim
 | [],_::_,h=>h.elim
 |k::ks,l::ls,hk=>by
  obtain⟨⟨kb,e,t⟩,hr⟩:=hk;obtain⟨q,e1,e2,e3⟩:=HA hr;refine⟨(kb,l)::q,by rw[e,e1];rfl,by rw[e2];rfl,fun k' hk'=>?_⟩
  rcases az.1 hk' with rfl|hk'
  ·exact t
  ·exact e3 k' hk'
theorem G4{W:Nat→Prop}{x:Hs}{h:ad}{m b:Nat}{l:List Pr}(t:TrieAt W x h m b l)(hm:m≤13)(hn:l.length≤100000){K:SliceV×SliceV→ad→Prop}
  (hk:∀h' f,f.n=m→Fr.rem x f=wl x m l→f.cost x+1=cw x m l→f.Ok W (fun y=>h.size≤y∧y<h'.size) x h'→Upd No h h'→K f.raw h'):HC PG vx [.pointer (some ⟨b,0,none⟩)] [.agg [.slice,.slice]] K h:=by
 refine HZ (some ⟨b,0,none⟩) ?_;unfold CQ cp Qv df US;refine aM fun h1 b1 k1=>?_
 have t1:=TrieAt.upd0 k1 (TrieAt.less (W':=Pro W h h1) Pro.hm t);obtain⟨d,n,sp,sk,bu,ow,lp,q,hb,hsp,hsk,hlp,hq,hwl,hcw,htr,hq0⟩:∃d n sp sk bu ow lp,∃q:List (Nat×List Pr),h1[b]? =some (.cells (fg d n sp sk bu ow) bD (0,0))∧Sl eu 2 (Pro W h h1) h1 sp lp∧Sl rH 1 (Pro W h h1) h1 sk (q.map KL)∧lp.length≤100000∧q.length≤32∧(lp++q.flatMap fun k=>wl x (m-1) k.2)=wl x m l∧2+(q.map fun k=>cw x (m-1) k.2).sum=cw x m l∧(∀k∈q,TrieAt (Pro W h h1) x h1 (m-1) k.1 k.2∧k.2.length≤100000)∧(q≠[]→0<m):=by
  cases m with
  |zero=>
   obtain⟨sp,sk,ow,hb,hsp,hsk,_⟩:=BuckAt.ex t1;exact⟨0,0,sp,sk,true,ow,l,[],hb,hsp,hsk,hn,by simp,by simp[wl],by simp[cw],fun k hk=>(by cases hk),fun h=>absurd rfl h⟩
  |succ m=>
   obtain⟨s,nd,hs⟩:=t1;have hs:∀c,c<32→SlotIs (Pro W h h1) x h1 m s c (part x (12-m) c l):=hs;obtain⟨d,n,sp,sk,ow,hb,bits,hsp,hsk,_⟩:=nd.ex;have hka:=MY (W:=Pro W h h1) (x:=x) (h:=h1) (m:=m) (lev:=12-m) (s:=s) (l:=l) 32 hs;obtain⟨q,e1,e2,e3⟩:=HA hka;have e2:pH x (12-m) l=q.map (·.2):=e2
   have hso:=Il hs;have hsl:=yp x (12-m) l;have hk32:=yW (g:=s.k);have hql:q.length=(fm s.k 32).length:=by rw[e1,cV]
   refine⟨d,n,sp,sk,false,ow,fm s.p 32,q,hb,hsp,by rw[←e1];exact hsk,by rw[hso];omega,by omega,?_,?_,fun k hk=>⟨e3 k hk,?_⟩,fun _=>Nat.succ_pos _⟩
   ·rw[H6,hso,e2,List.flatMap_map];rfl
   ·show _=2+_
    rw[e2,List.map_map];rfl
   ·have:k.2∈pH x (12-m) l:=by rw[e2];exact iH.2 ⟨k,hk,rfl⟩
    obtain⟨_,c,hc⟩:=qR this;rw[hc];exact bc mV hn
 refine sZ hb hsp (by omega) fun s2 h2 ho2 hu2=>?_
 refine OE (hu2.get0 hb) (hsk.upd hu2 fun _ h=>h.elim) (by rw[cV];omega) fun s3 h3 ho3 hu3=>?_
 have b3:=hu3.get0 (hu2.get0 b1);have z1:=k1.size;have z2:=hu2.size;have z3:=hu3.size;have zb:=aO b1;refine be (c:= [.slice none 0 0,.slice none 0 0]) (vs:= [sv s2,sv s3]) b3 rfl fun h4 b4 hu4=>?_
 refine⟨s2,vc b4 0,s3,vc b4 1,?_⟩;have z4:=hu4.size;have k14:Upd No h h4:=((k1.tr hu2).tr hu3).own hu4 (aq _);refine hk h4 ⟨s2,s3,m,lp,q⟩ rfl hwl (by unfold Fr.cost;simp only;omega) ⟨?_,?_,ho2.cap,ho3.cap,fun k hk=>⟨TrieAt.less (W:=Pro W h h1) (fun y hy=>.inl (.inl hy)) (TrieAt.updM (M:=(· =h.size)) hu4 (fun y hy=>.inl (.inr (by have hy:y=h.size:=hy;omega))) (TrieAt.upd0 (hu2.tr hu3) (htr k hk).1)),(htr k hk).2⟩,hq0,hm⟩ k14
 ·exact(((ho2.upd hu3 fun _ _ h=>h).within).upd hu4 fun y hy e=>by have e:y=h.size:=e;have:=hy.1;omega).sl fun y hy _ hg=>hg ⟨by have:=hy.1;omega,by have:=hy.2;omega⟩
 ·exact(ho3.within.upd hu4 fun y hy e=>by have e:y=h.size:=e;have:=hy.1;omega).sl fun y hy _ hg=>hg ⟨by have:=hy.1;omega,by have:=hy.2;omega⟩
end Go.Proofs
namespace Go.Proofs
open Go Go.Lift
theorem RX{M:Nat→Prop}{h:ad}{so:SliceV}{out:List (SliceV×SliceV)}{p:SliceV×SliceV}{K:SliceV→ad→Prop}(ho:OwnS Ql 2 dW M h so out)(hM:∀b,h.size≤b→M b)(hn:out.length+1≤1000000000)
  (hk:∀s' h',OwnS Ql 2 dW M h' s' (out++ [p])→Upd M h h'→K s' h'):
  ∃xs,SRow (hnew h (Ql p) dW) (some (ag h)) (1*2) xs∧AppP (some [.slice none 0 0,.slice none 0 0]) 2 48 dW so.a so.len so.cap 1 xs (hnew h (Ql p) dW) K:=by
 have k:=Upd.hnew No h (Ql p) dW;have h1:OwnS Ql 2 dW (fun _=>True) (hnew h (Ql p) dW) ⟨some (ag h),1,1⟩ [p]:=⟨rfl,Rs,aq _,.inr ⟨h.size,[],rfl,trivial,bZ ..,rfl⟩⟩
 refine⟨_,(h1.sl (W:=No) fun _ _ _ h=>h).srow,?_⟩
 refine AppP.own (ys:= [p]) (ho.upd k fun _ _ h=>h) rfl rfl rfl rfl (by omega) (by simp only[aR];omega) (hM _ (by rw[iS];omega)) fun s' h' ho' hu=>?_
 exact hk s' h' ho' ((Upd.hnew M h _ _).tr hu)
set_option maxHeartbeats 2000000 in
theorem JI{W G0 C0:Nat→Prop}{x:Hs}{h:ad}{cb:Nat}{fs0:List Fr}(cur:CurW W G0 C0 x h cb fs0)(hW0:∀b,h.size≤b→W b){K:(ByteArray×ByteArray)×Bool→ad→Prop}
  (hn:∀h',Cb x fs0= []→Upd (fun b=>C0 b∨b=cb) h h'→K (((⟨#[]⟩:ByteArray),(⟨#[]⟩:ByteArray)),false) h')
  (hs:∀h' fs' p R G' C',Cb x fs0=p::R→Cb x fs'=R→CurW W G' C' x h' cb fs'→(∀b,C' b→C0 b∨h.size≤b)→(∀b,G' b→G0 b∨h.size≤b)→Upd (fun b=>C0 b∨b=cb) h h'→K (p,true) h'):
  HC PG pk [.pointer (some ⟨cb,0,none⟩)] [.agg [.str,.str],.c .bool] K h:=by
 refine zX (some ⟨cb,0,none⟩) ?_;unfold tJ ay cj aD au cd cp nv nZ jH dU VF HD US;refine aM fun h1 b1 k1=>aj.2 ?_
 have z1:=aO b1;obtain⟨s00,d00,hc0,_⟩:=cur.ex;have zc:=aO hc0;have s1:=k1.size;have cur1:=cur.upd k1 (fun _ h=>h.elim) (fun _ _ h=>h) (fun _ _ h=>h) fun h=>h
 refine LoopP.ghost (fun(g:List Fr×(Nat→Prop)×(Nat→Prop)) (_:Unit) h'=>CurW W g.2.1 g.2.2 x h' cb g.1∧Cb x g.1=Cb x fs0∧(∀b,g.2.2 b→(C0 b∨h.size≤b)∧b≠h.size)∧(∀b,g.2.1 b→(G0 b∨h.size≤b)∧b≠h.size)∧h'[h.size]? =some (.cells zPrL.toArray af (0,0))∧Upd (fun b=>C0 b∨b=cb) h h') (fun g=>Dx x g.1) (fs0,G0,C0)
  ⟨cur1,rfl,fun b hb=>⟨.inl hb,by have:=cur.lt b (.inl hb);omega⟩,fun b hb=>⟨.inl hb,by have:=cur.lt b (.inr hb);omega⟩,b1,k1.wide⟩ ?_
 rintro I ⟨fs,G,C⟩ ⟨⟩ h' ⟨cu,hrem,hCo,hGo,bz,hu⟩ hI;simp only at cu hrem hCo hGo;obtain⟨s,d,aS,hst⟩:=cu.ex;have hlen:=hst.len;rw[cV]at hlen;have hzs:h.size<h'.size:=aO bz;have zcb:=aO aS;refine⟨_,rfl,s,vc aS 0,?_⟩;refine aA (fun hpos=>?_) fun hnp=>?_
 ·obtain⟨fs',f,rfl⟩:∃fs' f,fs=fs'++ [f]:=by
   rcases AW fs with rfl|⟨l',y,e⟩
   ·simp only[aJ]at hlen;omega
   ·exact⟨l',y,e⟩
  rw[dA,eP,ji]at hst;rw[ac,aR]at hlen;have h14:=Rg (n:=13) cu.lv fun f hf=>(cu.ok f hf).n13
  rw[ac,aR]at h14;have eidx:IntKind.wrap .i64 ((s.len:Int)-1)=((fs'.length:Nat):Int):=by rw[d8 (by omega)];omega
  obtain⟨a,ha,hv⟩:=ie hst (i:=fs'.length) (by rw[cV]);have fo:=cu.ok f (cO _ (aB.2 rfl));have hpl:=fo.p.len;have hkl:=fo.k.len;rw[cV]at hkl;have hpc:=fo.pc;have hkc:=fo.kc;have hcap:=hst.cap;refine⟨_,rfl,s,vc aS 0,_,rfl,s,vc aS 0,?_⟩;rw[eidx];refine⟨⟨by omega,by omega⟩,a,ha,_,rfl,f.sp,hv 0 _ rfl,?_⟩
  have keep:∀{h2:ad} {M:Nat→Prop},Upd M h' h2→(∀b,M b→C b∨b=cb∨b=h.size∨h'.size≤b)→∀{g:Fr},g.Ok W G x h'→g.Ok W G x h2:=fun{h2 M} k hM {g} o=>o.upd k (fun b hb=>by
   rcases hM b hb with h|h|h|h
   ·exact .inl (cu.cw.1 b h)
   ·exact .inl (by rw[h];exact cu.cw.2)
   ·exact .inl (by rw[h];exact hW0 _ (aq _))
   ·exact .inr h) fun b hb=>by
   rcases hM b hb with h|h|h|h
   ·exact .inl fun hg=>(cu.dj b hg).1 h
   ·exact .inl fun hg=>(cu.dj b hg).2 h
   ·exact .inl fun hg=>(hGo b hg).2 h
   ·exact .inr h
  have lvs:=cg.1 cu.lv;have hrs:=yu x fs' f;have hcs:=zU x fs' f;refine aA (fun hp=>?_) fun hp=>?_
  ·
   rcases hps:f.ps with _|⟨p,ps⟩
   ·rw[hps]at hpl;simp only[aJ]at hpl;omega
   have fop:=fo.p;rw[hps]at fop hpl;simp only[ak]at hpl;obtain⟨ap,hap,_,hvp⟩:=fop.at (i:=0) (x:=p) rfl;refine⟨_,rfl,f.sp,hv 0 _ rfl,⟨by omega,by omega⟩,ap,hap,p.1,hvp 0 _ rfl,p.2,hvp 1 _ rfl,?_⟩
   refine IL (p:=p) fun h8 b8 k8=>?_
   have z8:=aO b8;have hst8:=hst.upd k8 fun _ _ h=>h
   obtain⟨a',ha',hv8⟩:=ie hst8 (i:=fs'.length) (by rw[cV]);rw[ha]at ha';cases ha';refine⟨_,rfl,f.sp,hv8 0 _ rfl,⟨by omega,by omega⟩,_,rfl,?_⟩
   let f':Fr:=⟨⟨aW f.sp.a 1 f.sp.cap 2,f.sp.len-1,f.sp.cap-1⟩,f.sk,f.n,ps,f.ks⟩
   refine Od hst8 (y:=f'.raw) (j:=0) (by omega) rfl ha (by simp) fun h9 ho9 hu9=>?_
   have c9:=hu9.get (k8.get0 aS) cu.cc;refine⟨_,rfl,s,vc c9 0,_,rfl,?_⟩;refine BT (i:=1) (c':=Vs s (s.len:Int)) c9 (show 1<2 by decide) rfl fun h10 c10 hu10=>?_
   have hCh:∀b,C b→b<h'.size:=fun b hb=>cu.lt b (.inl hb)
   have b9:=hu9.get b8 fun hx=>by have:=hCh _ hx;omega
   have b10:=hu10.oth b9 (by omega);refine⟨_,vc b10 0,_,vc b10 1,?_⟩;have bz10:=hu10.oth (hu9.get (k8.get0 bz) fun hx=>(hCo _ hx).2 rfl) (by omega)
   refine be (c:=zPrL) (vs:= [.string p.1,.string p.2]) bz10 rfl fun h11 b11 hu11=>?_
   refine⟨_,vc b11 0,_,vc b11 1,?_⟩;have c11:=hu11.oth c10 (by omega);have hall:Upd (fun b=>C b∨b=cb∨b=h.size∨h'.size≤b) h' h11:=((k8.wide.trans hu9 fun b hb=>.inl (.inl hb)).trans hu10 fun b hb=>.inl (.inr (.inl hb))).trans hu11 fun b hb=>.inl (.inr (.inr (.inl hb)))
   have ho11:OwnS Ql 2 dW C h11 s ((fs'++ [f']).map Fr.raw):=by
    rw[dA,eP,ji];exact(ho9.upd hu10 fun b hb e=>by have e:b=cb:=e;rw[e]at hb;exact cu.cc hb).upd hu11 fun b hb e=>(hCo b hb).2 e
   have fo':f'.Ok W G x h11:=by
    have o:=keep hall (fun b hb=>hb) fo
    refine⟨?_,o.k,by show f.sp.len-1≤f.sp.cap-1;omega,o.kc,o.t,o.n0,o.n13⟩
    have op:=o.p;rw[hps]at op;have:=Sl.sub op (l:=1) (hi:=(p::ps).length) (m:=f.sp.cap) (c:=f.sp.cap-1) (by simp) (aq _) (by simp only[ak];omega);rw[List.drop_one,List.tail_cons,bm (by simp)]at this;have e:(p::ps).length-1=f.sp.len-1:=by simp only[ak];omega
    rw[e]at this;exact this
   refine hs h11 (fs'++ [f']) p (f'.rem x++Cb x fs') G C ?_ (yu x fs' f') ⟨⟨s,_,c11,ho11⟩,fun g hg=>?_,fun b hb=>aE (cu.lt b hb) hall.size,cu.dj,cu.cc,cu.cw,cg.2 ⟨lvs.1,cq ..,fun g hg g' hg'=>by rw[aB.1 hg'];exact lvs.2.2 g hg f (aB.2 rfl)⟩⟩ (fun b hb=>(hCo b hb).1) (fun b hb=>(hGo b hb).1) ?_
   ·rw[←hrem,hrs]
    unfold Fr.rem;rw[hps];rfl
   ·rcases bi.1 hg with hg|hg
    ·exact keep hall (fun b hb=>hb) (cu.ok g (cA _ hg))
    ·rw[aB.1 hg];exact fo'
   ·refine hu.trans hall fun b hb=>?_
    rcases hb with h|h|h|h
    ·exact(hCo b h).1.imp .inl id
    ·exact .inl (.inr h)
    ·exact .inr (by omega)
    ·exact .inr (by omega)
  ·have hps:f.ps= []:=aw.1 (by omega)
   refine⟨_,rfl,f.sk,hv 1 _ rfl,?_⟩;refine aA (fun hk=>?_) fun hk=>?_
   ·
    rcases hks:f.ks with _|⟨kd,ks⟩
    ·rw[hks]at hkl;simp only[aJ]at hkl;omega
    have fok:=fo.k;rw[hks]at fok hkl;simp only[ak]at hkl;rw[eP]at fok;obtain⟨ap,hap,_,hvp⟩:=fok.at0 (i:=0) (x:=KL kd) rfl;have hfn:0<f.n:=fo.n0 (by rw[hks];simp);have hf13:=fo.n13;refine⟨_,rfl,f.sk,hv 1 _ rfl,⟨by omega,by omega⟩,ap,hap,_,hvp,_,rfl,f.sk,hv 1 _ rfl,⟨by omega,by omega⟩,_,rfl,?_⟩
    let f':Fr:=⟨f.sp,⟨aW f.sk.a 1 f.sk.cap 1,f.sk.len-1,f.sk.cap-1⟩,f.n,f.ps,ks⟩
    refine Od hst (y:=f'.raw) (j:=1) (by omega) rfl ha (by simp) fun h8 ho8 hu8=>?_
    have c8:=hu8.get aS cu.cc;have hall8:Upd (fun b=>C b∨b=cb∨b=h.size∨h'.size≤b) h' h8:=hu8.mono fun b hb=>.inl (.inl hb)
    have s8:=hu8.size;refine⟨_,rfl,s,vc c8 0,?_⟩;have fo8:=keep hall8 (fun b hb=>hb) fo
    obtain⟨tk,hkn⟩:=fo8.t kd (by rw[hks];exact ao ..);refine G4 tk (by omega) hkn fun h9 g hgn hgr hgc go k9=>?_
    have c9:=k9.get0 c8;have s9:=k9.size;refine⟨vc c9 0,bq ⟨vc ((Upd.hnew No h9 (Ql g.raw) dW).get0 c9) 0,?_⟩⟩;have hC9:∀b,C b→b<h9.size:=fun b hb=>by have:=cu.lt b (.inl hb);omega
    refine RX (M:=fun b=>C b∨h9.size≤b) (p:=g.raw) ((ho8.upd k9 fun _ _ h=>h).more fun b hb=>.inl hb) (fun b hb=>.inr hb) (by rw[ac,cV,aR];omega) fun UQ h10 ho10 hu10=>?_
    have s10':=hu10.size;have c10:=hu10.get c9 (by rintro(hx|hx);exact cu.cc hx;omega)
    refine⟨_,rfl,?_⟩;refine BT (i:=0) (c':=Vs UQ d) c10 (show 0<2 by decide) rfl fun h11 c11 hu11=>?_
    have s11:=hu11.size;have hall:Upd (fun b=>C b∨b=cb∨b=h.size∨h'.size≤b) h' h11:=((hall8.tr k9.wide).trans hu10 fun b hb=>hb.elim (fun h=>.inl (.inl h)) fun h=>.inr (by omega)).trans hu11 fun b hb=>.inl (.inr (.inl hb))
    have bz11:=hu11.oth (hu10.get (k9.get0 (hu8.get bz fun hx=>(hCo _ hx).2 rfl)) (by rintro(hx|hx);exact(hCo _ hx).2 rfl;omega)) (by omega)
    have hGl:∀b,G b→b<h'.size:=fun b hb=>cu.lt b (.inr hb)
    refine hI (fs'++ [f']++ [g],fun b=>G b∨(h8.size≤b∧b<h9.size),fun b=>(C b∨h9.size≤b)∧b<h10.size) () h11 ⟨⟨⟨UQ,d,c11,?_⟩,fun g' hg'=>?_,fun b hb=>?_,fun b hb=>?_,fun hb=>?_,⟨fun b hb=>?_,cu.cw.2⟩,?_⟩,?_,fun b hb=>?_,fun b hb=>?_,bz11,?_⟩ ?_
    ·rw[dA,dA,eP,ji,eP,ji]
     exact ho10.within.upd hu11 fun b hb e=>by
      have e:b=cb:=e;rw[e]at hb;rcases hb.1 with h|h
      ·exact cu.cc h
      ·omega
    ·have hsubG:∀{q:Fr},q.Ok W G x h11→q.Ok W (fun b=>G b∨(h8.size≤b∧b<h9.size)) x h11:=fun o=>o.sub fun b hb=>.inl hb
     rcases bi.1 hg' with hg'|hg'
     ·rcases bi.1 hg' with hg'|hg'
      ·exact hsubG (keep hall (fun b hb=>hb) (cu.ok g' (cA _ hg')))
      ·rw[aB.1 hg']
       have o:=keep hall (fun b hb=>hb) fo
       refine hsubG ⟨o.p,?_,o.pc,by show f.sk.len-1≤f.sk.cap-1;omega,fun q hq=>o.t q (by rw[hks];exact aC _ hq),fun _=>hfn,hf13⟩
       have op:=o.k;rw[hks,eP]at op;have:=Sl.sub op (l:=1) (hi:=(KL kd::ks.map KL).length) (m:=f.sk.cap) (c:=f.sk.cap-1) (by simp) (aq _) (by simp only[ak,cV];omega);rw[List.drop_one,List.tail_cons,bm (by simp)]at this;have e:(KL kd::ks.map KL).length-1=f.sk.len-1:=by simp only[ak,cV];omega
       rw[e]at this;exact this
     ·rw[aB.1 hg']
      have o1:=go.upd hu10 (fun b hb=>hb.elim (fun h=>.inl (cu.cw.1 b h)) .inr) fun b hb=>hb.elim (fun h=>.inl fun hg=>by have:=cu.lt b (.inl h);omega) .inr
      have o2:=o1.upd hu11 (fun b hb=>.inl (by have hb:b=cb:=hb;rw[hb];exact cu.cw.2)) fun b hb=>.inl fun hg=>by have hb:b=cb:=hb;omega
      exact o2.sub fun b hb=>.inr hb
    ·rcases hb with hb|hb|hb
     ·omega
     ·have:=hGl b hb;omega
     ·omega
    ·refine⟨fun hc=>?_,fun e=>?_⟩
     ·rcases hb with hb|hb
      ·rcases hc.1 with h|h
       ·exact(cu.dj b hb).1 h
       ·have:=hGl b hb;omega
      ·rcases hc.1 with h|h
       ·have:=cu.lt b (.inl h);omega
       ·omega
     ·subst e
      rcases hb with hb|hb
      ·exact(cu.dj _ hb).2 rfl
      ·omega
    ·rcases hb.1 with h|h
     ·exact cu.cc h
     ·omega
    ·rcases hb.1 with h|h
     ·exact cu.cw.1 b h
     ·exact hW0 b (by omega)
    ·refine cg.2 ⟨cg.2 ⟨lvs.1,cq ..,fun q hq q' hq'=>by rw[aB.1 hq'];exact lvs.2.2 q hq f (aB.2 rfl)⟩,cq ..,fun q hq q' hq'=>?_⟩
     rw[aB.1 hq',hgn];rcases bi.1 hq with hq|hq
     ·have:=lvs.2.2 q hq f (aB.2 rfl);omega
     ·rw[aB.1 hq];show f.n-1<f.n;omega
    ·rw[yu,yu,←hrem,hrs,hgr]
     unfold Fr.rem;rw[hps,hks,aI];simp;rfl
    ·refine⟨?_,?_⟩
     ·rcases hb.1 with h|h
      ·exact(hCo b h).1
      ·exact .inr (by omega)
     ·rcases hb.1 with h|h
      ·exact(hCo b h).2
      ·omega
    ·refine⟨?_,?_⟩
     ·rcases hb with h|h
      ·exact(hGo b h).1
      ·exact .inr (by omega)
     ·rcases hb with h|h
      ·exact(hGo b h).2
      ·omega
    ·refine hu.trans hall fun b hb=>?_
     rcases hb with h|h|h|h
     ·exact(hCo b h).1.imp .inl id
     ·exact .inl (.inr h)
     ·exact .inr (by omega)
     ·exact .inr (by omega)
    ·show Dx x (fs'++ [f']++ [g])<Dx x (fs'++ [f])
     rw[zU,zU,hcs];have e1:f.cost x=f'.cost x+cw x (f.n-1) kd.2:=by
      unfold Fr.cost;rw[hks,eP,List.sum_cons];have e0:(f'.ks.map fun k=>cw x (f'.n-1) k.2).sum=(ks.map fun k=>cw x (f.n-1) k.2).sum:=rfl
      omega
     omega
   ·
    have hks:f.ks= []:=aw.1 (by omega);refine⟨_,rfl,s,vc aS 0,_,rfl,s,vc aS 0,?_⟩;rw[eidx];refine⟨⟨by omega,by omega⟩,?_⟩
    simp only[Bd];refine⟨_,rfl,?_⟩;refine BT (i:=0) (c':=Vs ⟨aW s.a 0 s.cap 2,fs'.length,s.cap⟩ d) aS (show 0<2 by decide) rfl fun h8 c8 hu8=>?_
    have hpop:=OwnS.pop hst;rw[cV]at hpop;have hall:Upd (fun b=>C b∨b=cb∨b=h.size∨h'.size≤b) h' h8:=hu8.mono fun b hb=>.inl (.inr (.inl hb))
    refine hI (fs',G,C) () h8 ⟨⟨⟨_,d,c8,hpop.upd hu8 fun b hb e=>by have e:b=cb:=e;rw[e]at hb;exact cu.cc hb⟩,fun g hg=>keep hall (fun b hb=>hb) (cu.ok g (cA _ hg)),fun b hb=>aE (cu.lt b hb) hall.size,cu.dj,cu.cc,cu.cw,lvs.1⟩,?_,hCo,hGo,hu8.oth bz (by omega),hu.trans hu8 fun b hb=>.inl (.inr hb)⟩ ?_
    ·rw[←hrem,hrs]
     unfold Fr.rem;rw[hps,hks];rfl
    ·show Dx x fs'<Dx x (fs'++ [f])
     rw[hcs];unfold Fr.cost;omega
 ·have h0:fs= []:=aw.1 (by omega)
  subst h0;refine⟨_,rfl,?_⟩;refine BT (i:=1) (c':=Vs s 0) aS (show 1<2 by decide) rfl fun h8 c8 hu8=>?_
  refine be (c:=zPrL) (vs:=zPrL) (hu8.oth bz (by omega)) rfl fun h9 b9 hu9=>?_
  refine⟨_,vc b9 0,_,vc b9 1,hn h9 hrem.symm ((hu.trans hu8 fun b hb=>.inl (.inr hb)).trans hu9 fun b hb=>.inr (Nat.le_of_eq (Eq.symm hb)))⟩
end Go.Proofs
namespace Go.Proofs
open Go Go.Lift
def Below(W:Nat→Prop)(x:Hs)(h:ad)(m:Nat)(r:Option Addr)(l:List Pr):Prop:=(r=none∧l= [])∨∃b,r=some ⟨b,0,none⟩∧TrieAt W x h m b l
theorem Below.upd0{W:Nat→Prop}{x:Hs}{h h':ad}{m:Nat}{r:Option Addr}{l:List Pr}(k:Upd No h h')(t:Below W x h m r l):Below W x h' m r l:=t.imp id fun⟨b,e,t⟩=>⟨b,e,TrieAt.upd0 k t⟩
theorem Below.less{W W':Nat→Prop}{x:Hs}{h:ad}{m:Nat}{r:Option Addr}{l:List Pr}(hm:∀b,W' b→W b∨h.size≤b)(t:Below W x h m r l):Below W' x h m r l:=t.imp id fun⟨b,e,t⟩=>⟨b,e,TrieAt.less hm t⟩
theorem Below.updM{W M:Nat→Prop}{x:Hs}{h h':ad}{m:Nat}{r:Option Addr}{l:List Pr}(k:Upd M h h')(hm:∀b,M b→W b∨h.size≤b)(t:Below W x h m r l):Below W x h' m r l:=t.imp id fun⟨b,e,t⟩=>⟨b,e,TrieAt.updM k hm t⟩
theorem TZ(x:Hs):∀m,wl x m []= []
 |0=>rfl
 |m+1=>aw.1 (Nat.le_zero.1 (H7 x (m+1) []))
theorem LW{W:Nat→Prop}{x:Hs}{h:ad}{m:Nat}{r:Option Addr}{l:List Pr}(t:Below W x h m r l)(hm:m≤13)(hn:l.length≤100000){K:SliceV×SliceV→ad→Prop}
  (hk:∀h' f,Fr.rem x f=wl x m l→f.Ok W (fun y=>h.size≤y∧y<h'.size) x h'→Upd No h h'→K f.raw h'):HC PG vx [.pointer r] [.agg [.slice,.slice]] K h:=by
 rcases t with⟨rfl,rfl⟩|⟨b,rfl,t⟩
 ·refine HZ none ?_
  unfold CQ cp Qv df US;refine aM fun h1 b1 k1=>?_
  refine ut none ?_;unfold ql cd;refine av.2 (vI none ?_);unfold re cd;refine av.2 ?_;refine be (c:= [.slice none 0 0,.slice none 0 0]) (vs:= [.slice none 0 0,.slice none 0 0]) b1 rfl fun h4 b4 hu4=>?_
  refine⟨⟨none,0,0⟩,vc b4 0,⟨none,0,0⟩,vc b4 1,?_⟩;refine hk h4 ⟨⟨none,0,0⟩,⟨none,0,0⟩,0,[],[]⟩ ?_ ⟨Sl.nil ge,Sl.nil r7,aq _,aq _,fun k hk=>(by cases hk),fun h=>absurd rfl h,bw _⟩ (k1.own hu4 (aq _))
  rw[TZ];rfl
 ·exact G4 t hm hn fun h' f _ h2 _ h4 h5=>hk h' f h2 h4 h5
theorem LX{W:Nat→Prop}{x:Hs}{h:ad}{m:Nat}{r:Option Addr}{l:List Pr}(t:Below W x h m r l)(hm:m≤13)(hn:l.length≤100000)(hW:∀y,h.size≤y→W y){K:Option Addr→ad→Prop}
  (hk:∀h' cb f G C,h.size≤cb→(∀y,G y∨C y→h.size≤y)→CurW W G C x h' cb [f]→f.rem x=wl x m l→Upd No h h'→K (some ⟨cb,0,none⟩) h'):HC PG zK [.pointer r] [.c .ptr] K h:=by
 refine Ny r ?_;unfold FZ VF HD;refine LW t hm hn fun h2 f hfr fo k2=>?_
 refine aM fun h3 b3 k3=>aM fun h4 b4 k4=>?_
 have z3:=aO b3;have z4:=aO b4;have s2:=k2.size;have s3:=k3.size;have o3:OwnS Ql 2 dW (fun y=>y=h2.size) h3 ⟨some (ag h2),1,1⟩ [f.raw]:=⟨rfl,Rs,aq _,.inr ⟨h2.size,[],rfl,rfl,b3,rfl⟩⟩
 refine hk h4 h3.size f (fun y=>h.size≤y∧y<h2.size) (fun y=>y=h2.size) (by omega) (fun y hy=>by rcases hy with h|h<;>omega) ⟨⟨_,0,b4,o3.upd k4 fun _ _ h=>h⟩,fun g hg=>?_,fun y hy=>by rcases hy with h|h<;>omega,fun y hy=>⟨by omega,by omega⟩,by omega,⟨fun y hy=>hW y (by omega),hW _ (by omega)⟩,cq ..⟩ hfr ((k2.tr k3).tr k4)
 rw[aB.1 hg];exact fo.upd (k3.tr k4) (fun _ h=>h.elim) fun _ h=>h.elim
theorem LY{W:Nat→Prop}{x:Hs}{h:ad}{m:Nat}{r:Option Addr}{l:List Pr}(t:Below W x h m r l)(hm:m≤13)(hn:l.length≤100000){K:Value→ad→Prop}
  (hk:∀fv h',Gives PG fv UC l.length (fun xs=>xs=wl x m l) (fun y=>y<h'.size) h'→Upd No h h'→K fv h'):HC PG zM [.pointer r] [.c .raw] K h:=by
 refine Nz r ?_;unfold F0;refine aM fun h1 b1 k1=>?_
 have z1:=aO b1;refine hk _ h1 ?_ k1;have t1:=Below.less (W':=fun y=>h1.size≤y) (fun y hy=>.inr hy) (Below.upd0 k1 t)
 have hwl:=H7 x m l;refine⟨fun y hy=>hy,sN,#[],_,rfl,fun y J A M h4 K' ht hj hu hq ha hk'=>?_⟩
 refine GT y (ag h) ?_;unfold wW au nv nZ vp qF pZ;have d1:=hu.get b1 (hq _ z1);have s4:=hu.size;have t4:Below (fun y=>h1.size≤y) x h4 m r l:=Below.updM hu (fun y hy=>.inl (by
  rcases ct y h1.size with hl|hl
  ·exact absurd hy (hq y hl)
  ·exact hl)) t1
 refine⟨_,bh d1,?_⟩;refine LX t4 hm hn (fun y hy=>bc s4 hy) fun h5 cb f G C hcb hGC cur hfr k5=>?_
 have hAlt:=ht.lt _ _ _ hj;have hA3:∀y,A y→h1.size≤y:=fun y hy=>by
  rcases ct y h1.size with hl|hl
  ·exact absurd hl (ha y hy)
  ·exact hl
 have s5:=k5.size;have hrem0:Cb x [f]=wl x m l:=by rw[←hfr];simp[Cb]
 refine LoopP.ghost (fun(g:List Pr×List Fr×(Nat→Prop)×(Nat→Prop)×(Nat→Prop)) (_:Unit) h'=>CurW (fun y=>h1.size≤y) g.2.2.2.1 g.2.2.2.2 x h' cb g.2.1∧J g.1 g.2.2.1 h'∧Upd A h4 h'∧(∀y,g.2.2.1 y→(A y∨h4.size≤y)∧¬g.2.2.2.1 y∧¬g.2.2.2.2 y∧y≠cb)∧(∀y,g.2.2.2.1 y∨g.2.2.2.2 y→h4.size≤y)∧g.1++Cb x g.2.1=wl x m l∧h5.size≤h'.size) (fun g=>(Cb x g.2.1).length) ([],[f],A,G,C)
  ⟨cur,ht.keep _ _ _ _ No hj k5 (fun _ _ h=>h),k5.wide,fun y hy=>⟨.inl hy,fun hx=>by have:=hAlt y hy;have:=hGC y (.inl hx);omega,fun hx=>by have:=hAlt y hy;have:=hGC y (.inr hx);omega,fun e=>by have:=hAlt y hy;omega⟩,hGC,by rw[hrem0];rfl,aq _⟩ ?_
 rintro I ⟨pre,fs,A1,G1,C1⟩ ⟨⟩ h' ⟨cu,hj',hu',hA1,hGC1,hrem,hsz⟩ hI;simp only at cu hj' hA1 hGC1 hrem;have hlt':=ht.lt _ _ _ hj';have hA1W:∀y,A1 y→h1.size≤y:=fun y hy=>(hA1 y hy).1.elim (hA3 y) fun h=>by omega
 have hd:∀y,A1 y→¬(C1 y∨y=cb):=fun y hy hx=>hx.elim (hA1 y hy).2.2.1 (hA1 y hy).2.2.2
 have hC4:∀y,C1 y∨y=cb→h4.size≤y:=fun y hy=>hy.elim (fun h=>hGC1 y (.inr h)) fun e=>by omega
 refine JI cu (fun y hy=>by omega) (fun h6 hr0 hu6=>?_) fun h6 fs' p R G' C' hr1 hr2 cu6 hC' hG' hu6=>?_
 ·have hj6:=ht.keep _ _ _ _ _ hj' hu6 hd
  refine xD fun h7 b7 k7=>?_
  refine Join.intro (fun t h8=>t=true∧h8=h7) (fun R hR=>av.2 (hR _ _ ⟨rfl,rfl⟩)) ?_
  rintro t h8 ⟨rfl,rfl⟩;refine av.2 (hk' pre A1 h8 ?_ (ht.keep _ _ _ _ No hj6 k7 (fun _ _ h=>h)) ?_ fun y hy=>(hA1 y hy).1)
  ·rw[hr0,aK]at hrem
   exact hrem
  ·exact(hu'.trans hu6 fun y hy=>.inr (hC4 y hy)).tr k7.wide
 ·have hj6:=ht.keep _ _ _ _ _ hj' hu6 hd
  refine xD (p:=p) fun h7 b7 k7=>?_
  have hj7:=ht.keep _ _ _ _ No hj6 k7 (fun _ _ h=>h)
  have cu7:=cu6.upd k7 (fun _ h=>h.elim) (fun _ _ h=>h) (fun _ _ h=>h) fun h=>h
  have hu47:Upd A h4 h7:=(hu'.trans hu6 fun y hy=>.inr (hC4 y hy)).tr k7.wide
  have s6:=hu6.size;have s7:=k7.size;refine Join.intro (fun t h8=>t=false∧∃A3,J (pre++ [p]) A3 h8∧Upd A1 h7 h8∧∀y,A3 y→A1 y∨h7.size≤y) (fun R' hR=>?_) ?_
  ·refine aj.2 ⟨_,vc b7 0,_,vc b7 1,?_⟩
   refine ht.step pre A1 h7 p _ hj7 ?_ fun h8 A3 hj8 hu8 hA8=>hR _ _ ⟨rfl,A3,hj8,hu8,hA8⟩
   have:=congrArg List.length hrem;rw[hr1]at this;simp only[ac,ak]at this;omega
  ·rintro t h8 ⟨rfl,A3,hj8,hu8,hA8⟩
   have hG'1:∀y,G' y→¬A1 y:=fun y hy hx=>(hG' y hy).elim (hA1 y hx).2.1 fun h=>by have:=hlt' y hx;omega
   have hC'1:∀y,C' y→¬A1 y:=fun y hy hx=>(hC' y hy).elim (hA1 y hx).2.2.1 fun h=>by have:=hlt' y hx;omega
   have hcb6:cb<h6.size:=by obtain⟨s,d,hx,_⟩:=cu6.ex;exact aO hx
   refine aj.2 (hI (pre++ [p],fs',A3,G',C') () h8 ⟨?_,hj8,?_,fun y hy=>?_,fun y hy=>?_,?_,by have:=hu8.size;omega⟩ ?_)
   ·exact cu7.upd hu8 (fun y hy=>.inl (hA1W y hy)) hC'1 hG'1 fun hx=>(hA1 _ hx).2.2.2 rfl
   ·exact hu47.trans hu8 fun y hy=>(hA1 y hy).1
   ·rcases hA8 y hy with h|h
    ·exact⟨(hA1 y h).1,fun hx=>hG'1 y hx h,fun hx=>hC'1 y hx h,(hA1 y h).2.2.2⟩
    ·exact⟨.inr (by omega),fun hx=>by have:=cu6.lt y (.inr hx);omega,fun hx=>by have:=cu6.lt y (.inl hx);omega,by omega⟩
   ·rcases hy with hy|hy
    ·rcases hG' y hy with h|h
     ·exact hGC1 y (.inl h)
     ·omega
    ·rcases hC' y hy with h|h
     ·exact hGC1 y (.inr h)
     ·omega
   ·simp only
    rw[al,hr2,←hrem,hr1];rfl
   ·simp only
    rw[hr1,hr2];simp
theorem yQ{W W':Nat→Prop}{x:Hs}{h:ad}{m:Nat}{r:Option Addr}{l:List Pr}(t:Below W x h m r l)(hm:m≤13)(hr:bE l)(hn:l.length≤100000)(hW':∀y,W' y→y<h.size){K:SliceV→ad→Prop}
  (hk:∀s' h',Sl eu 2 W' h' s' l→s'.len≤s'.cap→Upd No h h'→K s' h'):HC PG rq [.pointer r] [.c .slice] K h:=by
 refine GF r ?_;unfold y3;refine LY t hm hn fun fv h2 hg k2=>?_
 refine Li hg (by omega) fun s3 h3 xs e ho k3=>?_
 subst e;have hwl:=H7 x m l;refine Pa (W':=W') (ho.sl (W:=No) fun _ _ _ h=>h) (fun y hy=>aE (hW' y hy) (k2.tr k3).size) (by omega) fun s4 h4 hs4 hc4 k4=>?_
 rw[Uf hr]at hs4;exact hk s4 h4 hs4 hc4 ((k2.tr k3).tr k4)
theorem Mb{W W':Nat→Prop}{x:Hs}{h:ad}{t:Tr}{l:List Pr}(i:TreeIs W h 0 x t l)(hr:bE l)(hn:l.length≤60000)(hW':∀y,W' y→y<h.size){K:SliceV→ad→Prop}
  (hk:∀s' h',Sl eu 2 W' h' s' l→Upd No h h'→K s' h'):HC PG p4 [zo t] [.c .slice] K h:=by
 rcases i with⟨_,b,rfl,t⟩|⟨e,_⟩
 ·refine Be _ ?_
  unfold uz aN ax oa Vd TQ;refine aM fun h1 b1 k1=>⟨_,vc b1 0,aj.2 ⟨_,vc b1 4,?_⟩⟩
  exact yQ (W':=W') (.inr ⟨b,rfl,TrieAt.upd0 k1 t⟩) (aq _) hr (by omega) (fun y hy=>aE (hW' y hy) k1.size) fun s4 h4 hs4 _ k4=>hk s4 h4 hs4 (k1.tr k4)
 ·cases e
end Go.Proofs
namespace Go.Proofs
open Go.Lift
abbrev Ch:=ByteArray×ByteArray×ByteArray×Bool×Bool
abbrev BP(c:Ch):List Value:= [.string c.1,.string c.2.1,.string c.2.2.1,.bool c.2.2.2.1,.bool c.2.2.2.2]
def GD(p:Pr):Ch:=(p.1,p.2,⟨#[]⟩,true,false)
def Sr(p:Pr):Ch:=(p.1,⟨#[]⟩,p.2,false,true)
def iM:List Pr→List Pr→List Ch
 | [],B=>B.map Sr
 |a::A,[]=>GD a::iM A []
 |a::A,b::B=>if kl a.1 b.1 then GD a::iM A (b::B)else if kl b.1 a.1 then Sr b::iM (a::A) B else if a.2=b.2 then iM A B else(a.1,a.2,b.2,true,true)::iM A B
termination_by A B=>A.length+B.length
theorem jb(B:List Pr):iM [] B=B.map Sr:=by unfold iM;rfl
theorem vE:∀A:List Pr,iM A []=A.map GD
 | []=>by rw[jb];rfl
 |a::A=>by unfold iM;rw[vE A];rfl
theorem rQ(a b:Pr)(A B:List Pr):iM (a::A) (b::B)=if kl a.1 b.1 then GD a::iM A (b::B)else if kl b.1 a.1 then Sr b::iM (a::A) B else if a.2=b.2 then iM A B else(a.1,a.2,b.2,true,true)::iM A B:=by
 conv=>lhs;unfold iM
theorem Fh{a b:ByteArray}(h:kl a b):¬kl b a:=fun k=>bW _ (fE h k)
theorem tE{a:Pr}{A:List Pr}:∀{B:List Pr},(∀q∈B,kl a.1 q.1)→iM (a::A) B=GD a::iM A B
 | [],_=>by rw[vE,vE];rfl
 |b::B,h=>by rw[rQ,if_pos (h b (ao ..))]
theorem tD{b:Pr}{B:List Pr}:∀{A:List Pr},(∀q∈A,kl b.1 q.1)→iM A (b::B)=Sr b::iM A B
 | [],_=>by rw[jb,jb];rfl
 |a::A,h=>by
  have h:=h a (ao ..);rw[rQ,if_neg (Fh h),if_pos h]
theorem A4:∀A:List Pr,iM A A= []
 | []=>by rw[jb];rfl
 |a::A=>by rw[rQ,if_neg (bW _),if_neg (bW _),if_pos rfl,A4 A]
def xq(a b:Pr):List Ch:=if a.2=b.2 then[]else[(a.1,a.2,b.2,true,true)]
theorem rP{a b:Pr}(e:a.1=b.1)(A B:List Pr):iM (a::A) (b::B)=xq a b++iM A B:=by
 rw[rQ,e,if_neg (bW _),if_neg (bW _)];unfold xq;split
 ·rfl
 ·rw[←e];rfl
theorem yC:∀{A B:List Pr} {c:Ch},c∈iM A B→∃p,p∈A++B∧c.1=p.1
 | [],B,c,h=>by
  rw[jb]at h;obtain⟨p,hp,e⟩:=iH.1 h;exact⟨p,hp,by rw[←e];rfl⟩
 |a::A,[],c,h=>by
  rw[vE]at h;obtain⟨p,hp,e⟩:=iH.1 h;exact⟨p,cA _ hp,by rw[←e];rfl⟩
 |a::A,b::B,c,h=>by
  rw[rQ]at h;by_cases h1:kl a.1 b.1
  ·rw[if_pos h1]at h
   rcases az.1 h with h|h
   ·exact⟨a,ao ..,by rw[h];rfl⟩
   ·obtain⟨p,hp,e⟩:=yC h
    exact⟨p,aC _ hp,e⟩
  ·rw[if_neg h1]at h
   by_cases h2:kl b.1 a.1
   ·rw[if_pos h2]at h
    rcases az.1 h with h|h
    ·exact⟨b,cO _ (ao ..),by rw[h];rfl⟩
    ·obtain⟨p,hp,e⟩:=yC h
     refine⟨p,?_,e⟩;rcases bi.1 hp with hp|hp
     ·exact cA _ hp
     ·exact cO _ (aC _ hp)
   ·rw[if_neg h2]at h
    have hs:c∈iM A B→∃p,p∈a::A++b::B∧c.1=p.1:=fun h=>by
     obtain⟨p,hp,e⟩:=yC h;refine⟨p,?_,e⟩;rcases bi.1 hp with hp|hp
     ·exact cA _ (aC _ hp)
     ·exact cO _ (aC _ hp)
    split at h
    ·exact hs h
    ·rcases az.1 h with h|h
     ·exact⟨a,ao ..,by rw[h]⟩
     ·exact hs h
termination_by A B=>A.length+B.length
theorem oD{P:List Pr→List Pr→Prop}(nil:P [] [])(lowA:∀a A B,bE (a::A)→bE B→(∀q∈B,kl a.1 q.1)→P A B→P (a::A) B)
  (lowB:∀b A B,bE A→bE (b::B)→(∀q∈A,kl b.1 q.1)→P A B→P A (b::B))(same:∀a b A B,a.1=b.1→bE (a::A)→bE (b::B)→P A B→P (a::A) (b::B)):
  ∀{A B:List Pr},bE A→bE B→P A B
 | [],[],_,_=>nil
 | [],b::B,hA,hB=>lowB b [] B hA hB (fun _ h=>absurd h gu) (oD nil lowA lowB same hA (aG.1 hB).2)
 |a::A,[],hA,hB=>lowA a A [] hA hB (fun _ h=>absurd h gu) (oD nil lowA lowB same (aG.1 hA).2 hB)
 |a::A,b::B,hA,hB=>by
  have hA':=aG.1 hA;have hB':=aG.1 hB;by_cases h1:kl a.1 b.1
  ·refine lowA a A (b::B) hA hB (fun q hq=>?_) (oD nil lowA lowB same hA'.2 hB)
   rcases az.1 hq with hq|hq
   ·rw[hq];exact h1
   ·exact fE h1 (hB'.1 q hq)
  ·by_cases h2:kl b.1 a.1
   ·refine lowB b (a::A) B hA hB (fun q hq=>?_) (oD nil lowA lowB same hA hB'.2)
    rcases az.1 hq with hq|hq
    ·rw[hq];exact h2
    ·exact fE h2 (hA'.1 q hq)
   ·have e:a.1=b.1:=Decidable.byContradiction fun hne=>h2 (ph h1 hne)
    exact same a b A B e hA hB (oD nil lowA lowB same hA'.2 hB'.2)
termination_by A B=>A.length+B.length
abbrev CD(l:List Ch):Prop:=l.Pairwise fun p q=>kl p.1 q.1
theorem ws{A B:List Pr}(hA:bE A)(hB:bE B):CD (iM A B):=by
 refine oD (P:=fun A B=>CD (iM A B)) ?_ (fun a A B hA _ h i=>?_) (fun b A B _ hB h i=>?_) (fun a b A B e hA hB i=>?_) hA hB
 ·rw[jb];exact .nil
 ·rw[tE h]
  refine aG.2 ⟨fun c hc=>?_,i⟩
  obtain⟨p,hp,e⟩:=yC hc;rw[e];rcases bi.1 hp with hp|hp
  ·exact(aG.1 hA).1 p hp
  ·exact h p hp
 ·rw[tD h]
  refine aG.2 ⟨fun c hc=>?_,i⟩
  obtain⟨p,hp,e⟩:=yC hc;rw[e];rcases bi.1 hp with hp|hp
  ·exact h p hp
  ·exact(aG.1 hB).1 p hp
 ·rw[rP e]
  unfold xq;split
  ·exact i
  ·refine aG.2 ⟨fun c hc=>?_,i⟩
   obtain⟨p,hp,e'⟩:=yC hc;rw[e'];rcases bi.1 hp with hp|hp
   ·exact(aG.1 hA).1 p hp
   ·rw[e];exact(aG.1 hB).1 p hp
theorem Nm(g:ByteArray→Bool){A B:List Pr}(hA:bE A)(hB:bE B):iM (A.filter fun p=>g p.1) (B.filter fun p=>g p.1)=(iM A B).filter fun c=>g c.1:=by
 refine oD (P:=fun A B=>iM (A.filter fun p=>g p.1) (B.filter fun p=>g p.1)=(iM A B).filter fun c=>g c.1) ?_ (fun a A B hA _ h i=>?_) (fun b A B _ hB h i=>?_) (fun a b A B e hA hB i=>?_) hA hB
 ·rw[pb,jb];rfl
 ·rw[tE h,bJ,bJ,←i]
  show iM (if g a.1=true then _ else _) _=if g a.1=true then _ else _
  by_cases hg:g a.1=true
  ·rw[if_pos hg,if_pos hg,tE fun q hq=>h q (de.1 hq).1]
  ·rw[if_neg hg,if_neg hg]
 ·rw[tD h,bJ,bJ,←i]
  show iM _ (if g b.1=true then _ else _)=if g b.1=true then _ else _
  by_cases hg:g b.1=true
  ·rw[if_pos hg,if_pos hg,tD fun q hq=>h q (de.1 hq).1]
  ·rw[if_neg hg,if_neg hg]
 ·rw[rP e,gg,←i,bJ,bJ,←e]
  unfold xq;by_cases hg:g a.1=true
  ·rw[if_pos hg,if_pos hg,rP e]
   unfold xq;split
   ·rfl
   ·rw[bJ,if_pos hg];rfl
  ·rw[if_neg hg,if_neg hg]
   split
   ·rfl
   ·rw[bJ,if_neg hg];rfl
theorem Es{A2 B2:List Pr}:∀{A1 B1:List Pr},bE A1→bE B1→(∀p∈A1,∀q∈A2,kl p.1 q.1)→(∀p∈A1,∀q∈B2,kl p.1 q.1)→(∀p∈B1,∀q∈A2,kl p.1 q.1)→(∀p∈B1,∀q∈B2,kl p.1 q.1)→
  iM (A1++A2) (B1++B2)=iM A1 B1++iM A2 B2:=by
 intro A1 B1 hA hB;refine oD (P:=fun A1 B1=>(∀p∈A1,∀q∈A2,kl p.1 q.1)→(∀p∈A1,∀q∈B2,kl p.1 q.1)→(∀p∈B1,∀q∈A2,kl p.1 q.1)→(∀p∈B1,∀q∈B2,kl p.1 q.1)→iM (A1++A2) (B1++B2)=iM A1 B1++iM A2 B2) ?_ (fun a A B hA _ h i=>?_) (fun b A B _ hB h i=>?_) (fun a b A B e hA hB i=>?_) hA hB
 ·intro _ _ _ _;rw[jb];rfl
 ·intro h1 h2 h3 h4
  rw[cH,tE h,tE (fun q hq=>(bi.1 hq).elim (h q) (h2 a (ao ..) q)),i (fun p hp=>h1 p (aC _ hp)) (fun p hp=>h2 p (aC _ hp)) h3 h4];rfl
 ·intro h1 h2 h3 h4
  rw[cH,tD h,tD (fun q hq=>(bi.1 hq).elim (h q) (h3 b (ao ..) q)),i h1 h2 (fun p hp=>h3 p (aC _ hp)) (fun p hp=>h4 p (aC _ hp))];rfl
 ·intro h1 h2 h3 h4
  rw[cH,cH,rP e,rP e,i (fun p hp=>h1 p (aC _ hp)) (fun p hp=>h2 p (aC _ hp)) (fun p hp=>h3 p (aC _ hp)) (fun p hp=>h4 p (aC _ hp)),al]
theorem um{A B:List Pr}(hA:bE A)(hB:bE B):(iM A B).length≤A.length+B.length:=by
 refine oD (P:=fun A B=>(iM A B).length≤A.length+B.length) ?_ (fun a A B hA _ h i=>?_) (fun b A B _ hB h i=>?_) (fun a b A B e hA hB i=>?_) hA hB
 ·rw[jb];exact aq _
 ·rw[tE h];simp only[ak];omega
 ·rw[tD h];simp only[ak];omega
 ·rw[rP e,ac,ak,ak]
  have:(xq a b).length≤1:=by unfold xq;split<;>simp
  omega
theorem Dn{α:Type}(g:α→Nat)(n:Nat):∀L:List α,((L.filter fun x=>decide (g x<n))++L.filter fun x=>decide (g x=n)).Perm (L.filter fun x=>decide (g x<n+1))
 | []=>.refl _
 |a::L=>by
  have i:=Dn g n L;rw[bJ,bJ,bJ];by_cases h1:g a<n
  ·rw[if_pos (decide_eq_true h1),if_neg (by simp;omega),if_pos (by simp;omega)]
   exact i.cons a
  ·by_cases h2:g a=n
   ·rw[if_neg (by simp;omega),if_pos (by simpa using h2),if_pos (by simp;omega)]
    exact List.perm_middle.trans (i.cons a)
   ·rw[if_neg (by simp;omega),if_neg (by simpa using h2),if_neg (by simp;omega)]
    exact i
end Go.Proofs
namespace Go.Proofs
open Go Go.Lift
theorem RM(x:Ch):(BP x).length=5∧0<5:=⟨rfl,by omega⟩
abbrev VS(x:Hs)(s:SliceV):Array Value:= #[.int .u64 x.k0,.int .u64 x.k1,.int .u64 x.mask,sv s]
structure SetAt(C:Nat→Prop)(h:ad)(sb:Nat)(x:Hs)(L:List Ch):Prop where
 ex:∃s,h[sb]? =some (.cells (VS x s) zt (0,0))∧OwnS BP 5 bT C h s L
 lt:∀b,C b→b<h.size
 ne:¬C sb
theorem SetAt.upd{C M:Nat→Prop}{h h':ad}{sb:Nat}{x:Hs}{L:List Ch}(st:SetAt C h sb x L)(k:Upd M h h')(hC:∀b,C b→¬M b)(hs:¬M sb):SetAt C h' sb x L:=by
 obtain⟨s,h1,h2⟩:=st.ex;exact⟨⟨s,k.get h1 hs,h2.upd k hC⟩,fun b hb=>aE (st.lt b hb) k.size,st.ne⟩
theorem SetAt.upd0{C:Nat→Prop}{h h':ad}{sb:Nat}{x:Hs}{L:List Ch}(st:SetAt C h sb x L)(k:Upd No h h'):SetAt C h' sb x L:=st.upd k (fun _ _ h=>h) fun h=>h
abbrev P4(C:Nat→Prop)(h:ad)(sb:Nat)(x:Hs)(L:List Ch)(G:ad→Prop):Prop:=∀h' C',SetAt C' h' sb x L→(∀b,C' b→C b∨h.size≤b)→Upd (fun b=>C b∨b=sb) h h'→G h'
theorem Mh{C:Nat→Prop}{h:ad}{sb:Nat}{x:Hs}{L:List Ch}{s:SliceV}{c:Ch}(st:SetAt C h sb x L)(hb:h[sb]? =some (.cells (VS x s) zt (0,0))) (ho:OwnS BP 5 bT C h s L) (hn:L.length+1≤100000000) {G:ad→Prop} (hk:P4 C h sb x (L++ [c]) G):
  At (hnew h [.string c.1,.string c.2.1,.string c.2.2.1,.bool c.2.2.2.1,.bool c.2.2.2.2] bT) (fun h1=>aS h1 (adr ⟨sb,0,none⟩ 3)=some (.slice s.a s.len s.cap)∧∃xs,SRow h1 (some (ag h)) (1*5) xs∧
   AppP (some [.string (⟨#[]⟩:ByteArray),.string (⟨#[]⟩:ByteArray),.string (⟨#[]⟩:ByteArray),.bool false,.bool false]) 5 56 bT s.a s.len s.cap 1 xs h1 (fun s2 h2=>∃a:Addr,some (⟨sb,0,none⟩:Addr)=some a∧(Wr h2 (adr a 3)∧At (hset h2 (adr a 3) (.slice s2.a s2.len s2.cap)) G))):=by
 refine aM fun h1 b1 k1=>⟨vc (k1.get0 hb) 3,?_⟩
 have z1:=aO b1;have s1:=k1.size;have zb:=aO hb;have h1o:OwnS BP 5 bT (fun _=>True) h1 ⟨some (ag h),1,1⟩ [c]:=⟨rfl,RM,aq _,.inr ⟨h.size,[],rfl,trivial,b1,rfl⟩⟩
 refine⟨_,(h1o.sl (W:=No) fun _ _ _ h=>h).srow,?_⟩
 refine AppP.own (M:=fun b=>C b∨h1.size≤b) (ys:= [c]) ((ho.upd k1 fun _ _ h=>h).more fun _ h=>.inl h) rfl rfl rfl rfl (by omega) (by simp only[aR];omega) (.inr (aq _)) fun s2 h2 ho2 hu2=>?_
 have b2:=hu2.get (k1.get0 hb) fun h=>h.elim st.ne fun h=>by omega
 have s2z:=hu2.size;refine⟨_,rfl,BT (c':=VS x s2) b2 (by simp) rfl fun h3 b3 hu3=>?_⟩
 refine hk h3 (fun b=>(C b∨h1.size≤b)∧b<h2.size) ⟨⟨s2,b3,(ho2.within).upd hu3 fun b hb e=>?_⟩,fun b hb=>aE hb.2 hu3.size,fun hb=>?_⟩ (fun b hb=>hb.1.imp id fun h=>by omega) ?_
 ·have e:b=sb:=e
  rw[e]at hb;exact hb.1.elim st.ne fun h=>by omega
 ·exact hb.1.elim st.ne fun h=>by omega
 ·exact((k1.wide.trans hu2 fun b hb=>hb.elim (fun h=>.inl (.inl h)) fun h=>.inr (by omega)).trans hu3 fun b hb=>.inl (.inr hb))
theorem Oa{W:Nat→Prop}{h:ad}{s:SliceV}{p:Pr}{l:List Pr}(hs:Sl eu 2 W h s (p::l))(hc:s.len≤s.cap):Sl eu 2 W h ⟨aW s.a 1 s.cap 2,s.len-1,s.cap-1⟩ l:=by
 have hl:=hs.len;rw[ak]at hl;have:=Sl.sub hs (l:=1) (hi:=s.len) (m:=s.cap) (c:=s.cap-1) (by omega) (by rw[ak];omega) hc;rw[show((p::l).drop 1).take (s.len-1)=l by rw[List.drop_succ_cons,List.drop_zero];exact bm (by omega)]at this
 exact this
theorem AL{C:Nat→Prop}{h:ad}{sb:Nat}{x:Hs}{L:List Ch}{s s':SliceV}{A B:List Pr}(st:SetAt C h sb x L)(hs:Sl eu 2 (fun b=>C b∨b=sb) h s A)(hs':Sl eu 2 (fun b=>C b∨b=sb) h s' B)(hc:s.len≤s.cap)(hc':s'.len≤s'.cap)
  (hn:L.length+A.length+B.length≤100000000){K:Unit→ad→Prop}(hk:P4 C h sb x (L++iM A B) (K ())):HC PG iw [.pointer (some ⟨sb,0,none⟩),.slice s.a s.len s.cap,.slice s'.a s'.len s'.cap] [] K h:=by
 refine CO (some ⟨sb,0,none⟩) s s' ?_;unfold vW cj aD cd O2 jJ dU;have hss:=hs.less (W':=fun b=>C b∨b=sb∨h.size≤b) fun b hb=>hb.elim (fun h=>.inl (.inl h)) fun h=>h.elim (fun h=>.inl (.inr h)) .inr
 have hss':=hs'.less (W':=fun b=>C b∨b=sb∨h.size≤b) fun b hb=>hb.elim (fun h=>.inl (.inl h)) fun h=>h.elim (fun h=>.inl (.inr h)) .inr
 refine LoopP.ghost (fun(g:List Pr×List Pr×List Ch×(Nat→Prop)) (t:SliceV×SliceV) h'=>SetAt g.2.2.2 h' sb x g.2.2.1∧(∀b,g.2.2.2 b→C b∨h.size≤b)∧Upd (fun b=>C b∨b=sb) h h'∧Sl eu 2 (fun b=>C b∨b=sb∨h.size≤b) h' t.1 g.1∧Sl eu 2 (fun b=>C b∨b=sb∨h.size≤b) h' t.2 g.2.1∧t.1.len≤t.1.cap∧t.2.len≤t.2.cap∧g.2.2.1++iM g.1 g.2.1=L++iM A B∧g.2.2.1.length+g.1.length+g.2.1.length≤L.length+A.length+B.length)
  (fun g=>g.1.length+g.2.1.length) (A,B,L,C) ⟨st,fun _ h=>.inl h,Upd.refl _ _,hss,hss',hc,hc',rfl,aq _⟩ ?_
 rintro I ⟨A1,B1,L1,C1⟩ ⟨t1,t2⟩ h1 ⟨st1,hC1,hu1,hs1,hs2,hc1,hc2,he,hln⟩ hI;simp only at st1 hC1 hs1 hs2 hc1 hc2 he hln;have l1:t1.len=A1.length:=hs1.len;have l2:t2.len=B1.length:=hs2.len;obtain⟨sl,hb1,ho1⟩:=st1.ex;have go:∀(c:List Ch) (A2 B2:List Pr) (u1 u2:SliceV) (h2:ad) (C2:Nat→Prop),SetAt C2 h2 sb x (L1++c)→(∀b,C2 b→C1 b∨h1.size≤b)→Upd (fun b=>C1 b∨b=sb) h1 h2→iM A1 B1=c++iM A2 B2→Sl eu 2 (fun b=>C b∨b=sb∨h.size≤b) h1 u1 A2→Sl eu 2 (fun b=>C b∨b=sb∨h.size≤b) h1 u2 B2→u1.len≤u1.cap→u2.len≤u2.cap→c.length+A2.length+B2.length≤A1.length+B1.length→A2.length+B2.length<A1.length+B1.length→I (u1,u2) h2:=by
  intro c A2 B2 u1 u2 h2 C2 st2 hC2 hu2 e v1 v2 w1 w2 hl hlt;have hm:∀b,C1 b∨b=sb→(C b∨b=sb∨h.size≤b)∨h1.size≤b:=fun b hb=>.inl (hb.elim (fun h=>(hC1 b h).imp id .inr) fun h=>.inr (.inl h))
  refine hI (A2,B2,L1++c,C2) (u1,u2) h2 ⟨st2,fun b hb=>?_,?_,v1.upd hu2 hm,v2.upd hu2 hm,w1,w2,?_,?_⟩ hlt
  ·rcases hC2 b hb with h|h
   ·exact hC1 b h
   ·exact .inr (bc hu1.size h)
  ·exact hu1.trans hu2 fun b hb=>hb.elim (fun h=>(hC1 b h).imp .inl id) fun h=>.inl (.inr h)
  ·show(L1++c)++iM A2 B2=_
   rw[al,←e,he]
  ·show(L1++c).length+A2.length+B2.length≤_
   rw[ac];omega
 refine Join.intro (fun t h'=>h'=h1∧(t=true↔A1≠[]∨B1≠[])) (fun R hR=>?_) ?_
 ·refine aA (fun hp=>hR _ _ ⟨rfl,?_⟩) fun hp=>hR _ _ ⟨rfl,?_⟩
  ·have hp:(t1.len:Int)>0:=hp
   simp only[true_iff];left;intro e;rw[e]at l1;simp only[aJ]at l1;omega
  ·have hp:¬(t1.len:Int)>0:=hp
   have e1:A1= []:=aw.1 (by omega);show decide ((t2.len:Int)>0)=true↔_
   rw[decide_eq_true_iff];constructor
   ·intro h;right;intro e;rw[e]at l2;simp only[aJ]at l2;omega
   ·intro h
    rcases h with h|h
    ·exact absurd e1 h
    ·have:=List.length_pos_iff.2 h;omega
 rintro t h2 ⟨rfl,ht⟩;refine CondP.intro (fun e=>?_) fun e=>?_
 rotate_left
 ·have hn:A1= []∧B1= []:=by
   rw[e]at ht;constructor
   ·exact Decidable.byContradiction fun h=>absurd (ht.2 (.inl h)) (by simp)
   ·exact Decidable.byContradiction fun h=>absurd (ht.2 (.inr h)) (by simp)
  obtain⟨rfl,rfl⟩:=hn;rw[jb,ji,aK]at he;subst he;exact hk h2 C1 st1 hC1 hu1
 have hne:=ht.1 e;clear ht e;refine Join.intro (fun t h'=>h'=h2∧((t=true∧∃a A',A1=a::A'∧iM A1 B1=GD a::iM A' B1)∨(t=false∧∃b B',B1=b::B'∧(A1= []∨∃a A',A1=a::A'∧¬kl a.1 b.1)))) (fun R hR=>?_) ?_
 ·rcases B1 with _|⟨b,B'⟩
  ·rcases A1 with _|⟨a,A'⟩
   ·exact absurd hne (by simp)
   rw[show(((t2.len:Nat):Int)==0)=true by rw[l2];rfl]
   refine av.2 (hR _ _ ⟨rfl,.inl ⟨rfl,a,A',rfl,?_⟩⟩);rw[vE,vE];rfl
  ·rw[ak]at l2
   rw[show(((t2.len:Nat):Int)==0)=false by rw[beq_eq_false_iff_ne];omega]
   refine aj.2 ?_;rcases A1 with _|⟨a,A'⟩
   ·rw[aJ]at l1
    rw[decide_eq_false (show ¬((t1.len:Int)>0) by omega)]
    exact aj.2 (hR _ _ ⟨rfl,.inr ⟨rfl,b,B',rfl,.inl rfl⟩⟩)
   ·rw[ak]at l1
    rw[decide_eq_true (show((t1.len:Int)>0) by omega)]
    refine av.2 ?_;obtain⟨a1,ha1,_,v1⟩:=hs1.at (i:=0) (x:=a) rfl;obtain⟨a2,ha2,_,v2⟩:=hs2.at (i:=0) (x:=b) rfl;refine⟨⟨by first|omega|(simp only;omega),by first|omega|(simp only;omega)⟩,a1,ha1,a.1,v1 0 _ rfl,⟨by first|omega|(simp only;omega),by first|omega|(simp only;omega)⟩,a2,ha2,b.1,v2 0 _ rfl,hR _ _ ⟨rfl,?_⟩⟩
    by_cases hlt:kl a.1 b.1
    ·exact .inl ⟨hlt,a,A',rfl,by rw[rQ,if_pos hlt]⟩
    ·exact .inr ⟨by unfold kl at hlt;simpa using hlt,b,B',rfl,.inr ⟨a,A',rfl,hlt⟩⟩
 rintro t h3 ⟨rfl,⟨rfl,a,A',rfl,ec⟩|⟨rfl,b,B',rfl,hA⟩⟩
 ·refine av.2 (Join.plain ?_)
  rw[ak]at l1;obtain⟨a1,ha1,_,v1⟩:=hs1.at (i:=0) (x:=a) rfl;refine⟨_,rfl,sl,vc hb1 3,⟨by first|omega|(simp only;omega),by first|omega|(simp only;omega)⟩,a1,ha1,a.1,v1 0 _ rfl,⟨by first|omega|(simp only;omega),by first|omega|(simp only;omega)⟩,a1,ha1,a.2,v1 1 _ rfl,?_⟩
  refine Mh (c:=GD a) st1 hb1 ho1 (by simp only[ak]at hln;omega) fun h4 C4 st4 hC4 hu4=>?_
  refine⟨⟨by first|omega|(simp only;omega),by first|omega|(simp only;omega)⟩,?_⟩
  simp only[Bd];exact go [GD a] A' B1 _ _ h4 C4 st4 hC4 hu4 ec (Oa hs1 hc1) hs2 (by show t1.len-1≤t1.cap-1;omega) hc2 (by simp only[ak,aJ];omega) (by rw[ak];omega)
 refine aj.2 ?_;rw[ak]at l2;obtain⟨a2,ha2,_,v2⟩:=hs2.at (i:=0) (x:=b) rfl;refine Join.intro (fun t h'=>h'=h3∧((t=true∧iM A1 (b::B')=Sr b::iM A1 B')∨(t=false∧∃a A',A1=a::A'∧iM A1 (b::B')=xq a b++iM A' B'))) (fun R hR=>?_) ?_
 ·rcases hA with rfl|⟨a,A',rfl,hna⟩
  ·rw[show(((t1.len:Nat):Int)==0)=true by rw[l1];rfl]
   refine av.2 (hR _ _ ⟨rfl,.inl ⟨rfl,?_⟩⟩);rw[jb,jb];rfl
  ·rw[ak]at l1
   rw[show(((t1.len:Nat):Int)==0)=false by rw[beq_eq_false_iff_ne];omega]
   obtain⟨a1,ha1,_,v1⟩:=hs1.at (i:=0) (x:=a) rfl;refine aj.2 ⟨⟨by first|omega|(simp only;omega),by first|omega|(simp only;omega)⟩,a2,ha2,b.1,v2 0 _ rfl,⟨by first|omega|(simp only;omega),by first|omega|(simp only;omega)⟩,a1,ha1,a.1,v1 0 _ rfl,hR _ _ ⟨rfl,?_⟩⟩
   by_cases hlt:kl b.1 a.1
   ·exact .inl ⟨hlt,by rw[rQ,if_neg hna,if_pos hlt]⟩
   ·refine .inr ⟨by unfold kl at hlt;simpa using hlt,a,A',rfl,?_⟩
    rw[rQ,if_neg hna,if_neg hlt];unfold xq;split<;>rfl
 rintro t h4 ⟨rfl,⟨rfl,ec⟩|⟨rfl,a,A',rfl,ec⟩⟩
 ·refine av.2 (Join.plain ?_)
  refine⟨_,rfl,sl,vc hb1 3,⟨by first|omega|(simp only;omega),by first|omega|(simp only;omega)⟩,a2,ha2,b.1,v2 0 _ rfl,⟨by first|omega|(simp only;omega),by first|omega|(simp only;omega)⟩,a2,ha2,b.2,v2 1 _ rfl,?_⟩
  refine Mh (c:=Sr b) st1 hb1 ho1 (by simp only[ak]at hln;omega) fun h5 C5 st5 hC5 hu5=>?_
  refine⟨⟨by first|omega|(simp only;omega),by first|omega|(simp only;omega)⟩,?_⟩
  simp only[Bd];exact go [Sr b] A1 B' _ _ h5 C5 st5 hC5 hu5 ec hs1 (Oa hs2 hc2) hc1 (by show t2.len-1≤t2.cap-1;omega) (by simp only[ak,aJ];omega) (by rw[ak];omega)
 rw[ak]at l1;obtain⟨a1,ha1,_,v1⟩:=hs1.at (i:=0) (x:=a) rfl;have hcl:(xq a b).length≤1:=by unfold xq;split<;>simp
 refine aj.2 (Join.intro (fun _ h5=>∃C5,SetAt C5 h5 sb x (L1++xq a b)∧(∀b,C5 b→C1 b∨h4.size≤b)∧Upd (fun b=>C1 b∨b=sb) h4 h5) (fun R hR=>?_) ?_)
 ·refine⟨⟨by first|omega|(simp only;omega),by first|omega|(simp only;omega)⟩,a1,ha1,a.2,v1 1 _ rfl,⟨by first|omega|(simp only;omega),by first|omega|(simp only;omega)⟩,a2,ha2,b.2,v2 1 _ rfl,?_⟩
  have eb:(a.2.toList==b.2.toList)=decide (a.2=b.2):=gE;rw[eb];by_cases e:a.2=b.2
  ·rw[decide_eq_true e]
   refine aj.2 (hR _ _ ⟨C1,?_,fun _ h=>.inl h,Upd.refl _ _⟩)
   unfold xq;rw[if_pos e,aK];exact st1
  ·rw[decide_eq_false e]
   refine av.2 ⟨_,rfl,sl,vc hb1 3,⟨by first|omega|(simp only;omega),by first|omega|(simp only;omega)⟩,a1,ha1,a.1,v1 0 _ rfl,⟨by first|omega|(simp only;omega),by first|omega|(simp only;omega)⟩,a1,ha1,a.2,v1 1 _ rfl,⟨by first|omega|(simp only;omega),by first|omega|(simp only;omega)⟩,a2,ha2,b.2,v2 1 _ rfl,?_⟩
   refine Mh (c:=(a.1,a.2,b.2,true,true)) st1 hb1 ho1 (by simp only[ak]at hln;omega) fun h5 C5 st5 hC5 hu5=>hR _ _ ⟨C5,?_,hC5,hu5⟩
   unfold xq;rw[if_neg e];exact st5
 ·rintro _ h5 ⟨C5,st5,hC5,hu5⟩
  refine⟨⟨by first|omega|(simp only;omega),by first|omega|(simp only;omega)⟩,?_⟩
  simp only[Bd];refine⟨⟨by first|omega|(simp only;omega),by first|omega|(simp only;omega)⟩,?_⟩
  exact go (xq a b) A' B' _ _ h5 C5 st5 hC5 hu5 ec (Oa hs1 hc1) (Oa hs2 hc2) (by show t1.len-1≤t1.cap-1;omega) (by show t2.len-1≤t2.cap-1;omega) (by rw[ak,ak];omega) (by rw[ak,ak];omega)
end Go.Proofs
namespace Go.Proofs
open Go Go.Lift
theorem QK{t:Tr}{h:ad}{K:Int→ad→Prop}(hk:∀h',Upd No h h'→K t.1 h'):HC PG qV [zo t] [.c (.int .i64)] K h:=by
 refine CF t ?_;unfold vO aN oa;exact aM fun h1 b1 k1=>⟨_,vc b1 0,hk h1 k1⟩
end Go.Proofs
namespace Go.Proofs
open Go Go.Lift
theorem Hx:∀{x y:List UInt8} {i:Nat} {a b:UInt8},(∀j,j<i→x[j]? =y[j]?)→x[i]? =some a→y[i]? =some b→a≠b→Op.bytesLess x y=decide (a.toNat<b.toNat)
 | [],_,_,_,_,_,h,_,_=>by simp at h
 |_::_,[],_,_,_,_,_,h,_=>by simp at h
 |c::x,d::y,0,a,b,_,h1,h2,hne=>by
  simp only[cM,bR.injEq]at h1 h2;subst h1 h2;simp only[Op.bytesLess];rw[beq_false_of_ne hne];simp[UInt8.lt_iff_toNat_lt]
 |c::x,d::y,i+1,a,b,he,h1,h2,hne=>by
  have e:=he 0 (by omega);simp only[cM,bR.injEq]at e;subst e;simp only[List.getElem?_cons_succ]at h1 h2;simp only[Op.bytesLess];rw[Hx (i:=i) (fun j hj=>by simpa using he (j+1) (by omega)) h1 h2 hne]
  simp[UInt8.lt_irrefl]
theorem Hw:∀{x y:List UInt8} {i:Nat},(∀j,j<i→x[j]? =y[j]?)→i≤x.length→i≤y.length→(i=x.length∨i=y.length)→Op.bytesLess x y=decide (x.length<y.length)
 | [],[],_,_,_,_,_=>by simp[Op.bytesLess]
 | [],_::_,_,_,_,_,_=>by simp[Op.bytesLess]
 |_::_,[],_,_,_,_,_=>by simp[Op.bytesLess]
 |c::x,d::y,0,_,_,_,h=>by simp at h
 |c::x,d::y,i+1,he,h1,h2,h3=>by
  have e:=he 0 (by omega);simp only[cM,bR.injEq]at e;subst e;simp only[Op.bytesLess];rw[Hw (i:=i) (fun j hj=>by simpa using he (j+1) (by omega)) (by simpa using h1) (by simpa using h2) (by simpa using h3)]
  simp[UInt8.lt_irrefl]
theorem Kk{a b:ByteArray}(ha:a.size≤1000000){h:ad}{K:Bool→ad→Prop}(hk:K (decide (kl a b)) h):HC PG wK [.string a,.string b] [.c .bool] K h:=by
 refine NG a b ?_;unfold F7;have la:a.data.toList.length=a.size:=by simp
 have lb:b.data.toList.length=b.size:=by simp
 have hkl:∀{p:Prop} [Decidable p],Op.bytesLess a.data.toList b.data.toList=decide p→K (decide p) h:=fun{p} _ e=>by
  have:decide (kl a b)=decide p:=by
   rw[←e,←ByteArray.toList_eq,←ByteArray.toList_eq];exact Bool.eq_iff_iff.2 (by rw[decide_eq_true_iff];exact w9)
  rw[←this];exact hk
 refine LoopP.ghost (fun(i:Nat) (t:Int) h'=>t=(i:Int)∧i≤a.size∧i≤b.size∧h'=h∧∀j,j<i→a.data.toList[j]? =b.data.toList[j]?) (fun i=>a.size-i) 0 ⟨rfl,bw _,bw _,rfl,fun j hj=>absurd hj (Nat.not_lt_zero _)⟩ ?_
 rintro I i t h' ⟨rfl,hia,hib,rfl,he⟩ hI;refine Join.intro (fun t h2=>t=decide (i<a.size∧i<b.size)∧h2=h') (fun R hR=>?_) ?_
 ·refine aA (fun hlt=>hR _ _ ⟨?_,rfl⟩) fun hge=>hR _ _ ⟨?_,rfl⟩
  ·rw[decide_eq_decide];omega
  ·rw[eq_comm,decide_eq_false_iff_not];omega
 ·rintro t h2 ⟨rfl,rfl⟩
  refine aA (fun hlt=>?_) fun hge=>?_
  ·have e1:a.data.toList[i]? =some a[i]:=by rw[←Rr,getElem?_pos a i hlt.1]
   have e2:b.data.toList[i]? =some b[i]:=by rw[←Rr,getElem?_pos b i hlt.2]
   refine⟨a[i],by omega,by rw[aX,getElem?_pos a i hlt.1],b[i],by omega,by rw[aX,getElem?_pos b i hlt.2],?_⟩
   refine CondP.intro (fun hne=>?_) fun heq=>?_
   ·refine⟨a[i],by omega,by rw[aX,getElem?_pos a i hlt.1],b[i],by omega,by rw[aX,getElem?_pos b i hlt.2],?_⟩
    refine hkl ?_;rw[Hx he e1 e2 fun e=>by rw[e]at hne;simp at hne]
    rw[decide_eq_decide];omega
   ·have heq:a[i]=b[i]:=by
     have:((a[i].toNat:Int))=(b[i].toNat:Int):=by simpa using heq
     exact UInt8.toNat_inj.1 (by omega)
    rw[gR hlt.1 (by omega)];refine hI (i+1) _ _ ⟨rfl,by omega,by omega,rfl,fun j hj=>?_⟩ (by omega)
    rcases ct j i with hl|hl
    ·exact he j hl
    ·have:j=i:=by omega
     subst this;rw[e1,e2,heq]
  ·refine hkl ?_
   rw[Hw he (by omega) (by omega) (by omega),decide_eq_decide];omega
theorem Kl{W:Nat→Prop}{h:ad}{s:SliceV}{l:List Pr}(hs:Sl eu 2 W h s l)(hn:l.length≤1000000)(k:ByteArray){K:SliceV→ad→Prop}
  (hk:∀s' h',OwnS eu 2 dH (fun y=>h.size≤y) h' s' (l.filter fun p=>decide (p.1≠k))→Upd No h h'→K s' h'):HC PG wL [.slice s.a s.len s.cap,.string k] [.c .slice] K h:=by
 refine NI s k ?_;unfold F9 cj aD au nv nZ jH;have hlen:=hs.len;refine LoopP.ghost (fun(i:Nat) (t:SliceV×Int) h'=>t.2=(i:Int)∧i≤l.length∧OwnS eu 2 dH (fun y=>h.size≤y) h' t.1 ((l.take i).filter fun p=>decide (p.1≠k))∧Upd No h h') (fun i=>l.length-i) 0 ⟨rfl,bw _,by simpa using OwnS.nil ge,Upd.refl _ _⟩ ?_
 rintro I i ⟨so,ti⟩ h' ⟨e1,hi,ho,hu⟩ hI;simp only at e1 ho;subst e1;refine aA (fun hlt=>?_) fun hge=>?_
 ·have hlt:i<l.length:=by have:(i:Int)<(s.len:Int):=hlt;omega
  obtain⟨a,ha,_,hv⟩:=(hs.upd hu fun _ h=>h.elim).at (ai hlt)
  have htl:((l.take i).filter fun p=>decide (p.1≠k)).length≤l.length:=bc (eT ..) (by rw[aQ];omega)
  refine Join.intro (fun t h2=>OwnS eu 2 dH (fun y=>h.size≤y) h2 t ((l.take (i+1)).filter fun p=>decide (p.1≠k))∧Upd No h h2) (fun R hR=>⟨⟨by simp only;omega,by simp only;omega⟩,a,ha,l[i].1,hv 0 _ rfl,l[i].2,hv 1 _ rfl,?_⟩) ?_
  ·refine xD (p:=l[i]) fun h2 b2 k2=>⟨_,vc b2 0,?_⟩
   have ho2:=ho.upd k2 fun _ _ h=>h
   rw[ce hlt,gg,bJ,pb]at hR;rw[gE];by_cases e:l[i].1=k
   ·rw[decide_eq_true e]
    rw[decide_eq_false (not_not_intro e)]at hR;rw[if_neg (by simp),aK]at hR;exact aj.2 (hR _ _ ⟨ho2,hu.tr k2⟩)
   ·rw[decide_eq_false e]
    rw[decide_eq_true e,if_pos rfl]at hR;refine av.2 ⟨_,vc b2 0,_,vc b2 1,bq ?_⟩;refine vF (p:=l[i]) ho2 (fun y hy=>bc (hu.tr k2).size hy) (bc (Nat.add_le_add_right htl 1) (by omega)) fun s3 h3 ho3 hu3=>hR _ _ ⟨ho3,(hu.tr k2).trans hu3 fun y hy=>.inr hy⟩
  ·rintro t h2 ⟨ho2,hu2⟩
   rw[gR hlt (by omega)];exact hI (i+1) _ _ ⟨rfl,hlt,ho2,hu2⟩ (by omega)
 ·have hil:i=l.length:=by have:¬(i:Int)<(s.len:Int):=hge;omega
  rw[bm (by omega)]at ho;exact hk _ _ ho hu
theorem SV{W:Nat→Prop}{h:ad}{s:SliceV}{l:List Pr}(hs:Sl eu 2 W h s l)(hr:bE l)(hn:l.length≤1000000)(p:Pr)(hp:p.1.size≤1000000){K:SliceV→ad→Prop}
  (hk:∀s' h',OwnS eu 2 dH (fun y=>h.size≤y) h' s' (gV p l)→Upd No h h'→K s' h'):HC PG Cq [.slice s.a s.len s.cap,.agg #[.string p.1,.string p.2]] [.c .slice] K h:=by
 refine P8 s p ?_;unfold H2 cj aD au nv nZ jH vp qJ;refine aM fun h1 b1 k1=>⟨p.1,vc b1 0,?_⟩
 refine Kl (hs.upd k1 fun _ h=>h.elim) hn p.1 fun s4 h4 ho4 k4=>?_
 rw[←HF hr]at hk;have hrf:bE (l.filter fun q=>decide (q.1≠p.1)):=hr.sublist List.filter_sublist
 have hnl:(l.filter fun q=>decide (q.1≠p.1)).length≤1000000:=bc (eT ..) hn
 have hne:∀q∈l.filter fun q=>decide (q.1≠p.1),q.1≠p.1:=fun q hq=>of_decide_eq_true (de.1 hq).2
 generalize l.filter (fun q=>decide (q.1≠p.1))=L at hk ho4 hrf hnl hne
 have k04:=k1.tr k4;have hs4:Sl eu 2 No h4 s4 L:=ho4.sl fun _ _ _ h=>h
 have hlen:=hs4.len;have z4:=k04.size;refine LoopP.ghost (fun(g:Nat×Bool) (t:SliceV×Bool×Int) h'=>t.2.2=(g.1:Int)∧t.2.1=g.2∧g.1≤L.length∧(∃out,OwnS eu 2 dH (fun y=>h4.size≤y) h' t.1 out∧out.length≤g.1+1∧(g.2=false→out=L.take g.1∧∀q∈L.take g.1,kl q.1 p.1)∧(g.2=true→out=gV p (L.take g.1)∧∃q∈L.take g.1,kl p.1 q.1))∧Upd No h4 h') (fun g=>L.length-g.1) (0,false) ⟨rfl,rfl,bw _,⟨[],OwnS.nil ge,by simp,fun _=>⟨by simp,by simp⟩,fun h=>by cases h⟩,Upd.refl _ _⟩ ?_
 rintro I ⟨i,pl⟩ ⟨so,tp,ti⟩ h' ⟨e1,e2,hi,⟨out,ho,hol,hf,ht⟩,hu⟩ hI;simp only at e1 e2 hi ho hol hf ht;subst e1 e2;have b':=hu.get0 (k4.get0 b1);refine aA (fun hlt=>?_) fun hge=>?_
 ·have hlt:i<L.length:=by have:(i:Int)<(s4.len:Int):=hlt;omega
  obtain⟨a,ha,_,hv⟩:=(hs4.upd hu fun _ h=>h.elim).at (ai hlt)
  have etake:=ce hlt;have hmem:L[i]∈L:=List.getElem_mem hlt;refine Join.intro (fun t h2=>(∃out,OwnS eu 2 dH (fun y=>h4.size≤y) h2 t.1 out∧out.length≤i+1+1∧(t.2=false→out=L.take (i+1)∧∀q∈L.take (i+1),kl q.1 p.1)∧(t.2=true→out=gV p (L.take (i+1))∧∃q∈L.take (i+1),kl p.1 q.1))∧Upd No h4 h2) (fun R hR=>⟨⟨by simp only;omega,by simp only;omega⟩,a,ha,L[i].1,hv 0 _ rfl,L[i].2,hv 1 _ rfl,?_⟩) ?_
  ·refine xD (p:=L[i]) fun h2 b2 k2=>?_
   have ho2:=ho.upd k2 fun _ _ h=>h
   have hu2:=hu.tr k2;have zb:=aO b2;have z2:=hu.size;have hoM:=(ho.within.upd k2 fun _ _ h=>h).more (M':=fun y=>(h4.size≤y∧y<h'.size)∨h2.size≤y) fun y hy=>.inl hy
   have c2:=k2.get0 b';refine Join.intro (fun t h3=>(∃out,OwnS eu 2 dH (fun y=>h4.size≤y) h3 t.1 out∧out.length≤i+1∧(t.2=false→out=L.take i∧∀q∈L.take (i+1),kl q.1 p.1)∧(t.2=true→out++ [L[i]]=gV p (L.take (i+1))∧∃q∈L.take (i+1),kl p.1 q.1))∧h3[h'.size]? =some (.cells #[.string L[i].1,.string L[i].2] dH (0,0))∧Upd No h4 h3) (fun R2 hR2=>?_) ?_
   ·refine Join.intro (fun t h3=>t=(!tp&&decide (kl p.1 L[i].1))∧h3=h2) (fun R3 hR3=>?_) ?_
    ·cases tp with
     |false=>exact av.2 ⟨p.1,vc c2 0,L[i].1,vc b2 0,Kk hp (hR3 _ _ ⟨by simp,rfl⟩)⟩
     |true=>exact aj.2 (hR3 _ _ ⟨by simp,rfl⟩)
    ·rintro t h3 ⟨rfl,rfl⟩
     cases tp with
     |true=>
      obtain⟨e,q,hq,hkq⟩:=ht rfl;refine aj.2 (hR2 _ _ ⟨⟨out,ho2,hol,fun h=>(by cases h),fun _=>?_⟩,b2,hu2⟩)
      rw[etake,e];exact⟨(KY ⟨q,hq,hkq⟩).symm,q,cA _ hq,hkq⟩
     |false=>
      obtain⟨e,hall⟩:=hf rfl;subst e;by_cases hkl:kl p.1 L[i].1
      ·rw[decide_eq_true hkl]
       refine av.2 ⟨p.1,vc c2 0,p.2,vc c2 1,bq ?_⟩;refine vF (p:=p) hoM (fun y hy=>.inr hy) (by rw[aQ];omega) fun s5 h5 ho5 hu5=>hR2 _ _ ⟨⟨_,ho5.more (fun y hy=>by rcases hy with hy|hy<;>omega),by rw[ac,aQ,aR];omega,fun h=>(by cases h),fun _=>?_⟩,hu5.get b2 (by rintro(hx|hx)<;>omega),hu2.trans hu5 fun y hy=>.inr (by rcases hy with hy|hy<;>omega)⟩
       ·rw[etake,AO hall]
        refine⟨?_,L[i],cO _ (aB.2 rfl),hkl⟩;rw[al,KV (l:= [L[i]]) fun q hq=>by rw[aB.1 hq];exact hkl]
        rfl
      ·rw[decide_eq_false hkl]
       have hq:kl L[i].1 p.1:=ph hkl fun e=>hne _ hmem e.symm
       refine aj.2 (hR2 _ _ ⟨⟨_,ho2,by rw[aQ];omega,fun _=>⟨rfl,fun q hq'=>?_⟩,fun h=>(by cases h)⟩,b2,hu2⟩)
       rw[etake]at hq';rcases bi.1 hq' with h|h
       ·exact hall q h
       ·rw[aB.1 h];exact hq
   ·rintro⟨t1,t2⟩ h3 ⟨⟨out3,ho3,hol3,hf3,ht3⟩,b3,hu3⟩
    simp only at ho3 hf3 ht3;refine⟨_,vc b3 0,_,vc b3 1,bq ?_⟩;refine vF (p:=L[i]) ho3 (fun y hy=>bc hu3.size hy) (by omega) fun s5 h5 ho5 hu5=>hR _ _ ⟨⟨_,ho5,by rw[ac,aR];omega,fun h=>?_,fun h=>ht3 h⟩,hu3.trans hu5 fun y hy=>.inr hy⟩
    obtain⟨e,hall⟩:=hf3 h;exact⟨by rw[e,etake],hall⟩
  ·rintro⟨t1,t2⟩ h2 ⟨ho2,hu2⟩
   rw[gR hlt (by omega)];exact hI (i+1,t2) _ _ ⟨rfl,rfl,hlt,ho2,hu2⟩ (by simp only;omega)
 ·have hil:i=L.length:=by have:¬(i:Int)<(s4.len:Int):=hge;omega
  subst hil;rw[List.take_length]at hf ht;cases tp with
  |true=>
   obtain⟨e,_⟩:=ht rfl;subst e;exact aj.2 (hk _ _ (ho.more fun y hy=>bc z4 hy) (k04.tr hu))
  |false=>
   obtain⟨e,hall⟩:=hf rfl;subst e;refine av.2 ⟨p.1,vc b' 0,p.2,vc b' 1,bq ?_⟩;refine vF (p:=p) ho (fun y hy=>bc hu.size hy) (by omega) fun s5 h5 ho5 hu5=>hk _ _ ?_ ((k04.tr hu).trans hu5 fun y hy=>.inr (bc z4 hy))
   have:=AO (p:=p) (A:=out) (B:= []) hall;rw[aK]at this;rw[this];exact ho5.more fun y hy=>bc z4 hy
end Go.Proofs
namespace Go.Proofs
open Go Go.Lift
abbrev Rt:=Int×Int×Int×Int×SliceV
abbrev pG(r:Rt):List Value:= [.int .i64 r.1,.int .u64 r.2.1,.int .u64 r.2.2.1,.int .u64 r.2.2.2.1,.slice r.2.2.2.2.a r.2.2.2.2.len r.2.2.2.2.cap]
abbrev VU(r:Rt):Value:=.agg #[.int .i64 r.1,.int .u64 r.2.1,.int .u64 r.2.2.1,.int .u64 r.2.2.2.1,.slice r.2.2.2.2.a r.2.2.2.2.len r.2.2.2.2.cap]
abbrev Iu:Rt:=(0,0,0,0,⟨none,0,0⟩)
def hx(kind v:Int):Int:=if kind=0 then v else 0
def RefIs(W:Nat→Prop)(h:ad)(kind:Int)(x:Hs)(r:Rt)(l:List Pr):Prop:=∃s,r=(kind,hx kind x.k0,hx kind x.k1,hx kind x.mask,s)∧Sl eu 2 W h s l∧s.len≤s.cap
theorem RefIs.upd0{W:Nat→Prop}{h h':ad}{kind:Int}{x:Hs}{r:Rt}{l:List Pr}(k:Upd No h h')(i:RefIs W h kind x r l):RefIs W h' kind x r l:=
 let⟨s,e,hs⟩:=i;⟨s,e,hs.1.upd k fun _ h=>h.elim,hs.2⟩
theorem RefIs.less{W W':Nat→Prop}{h:ad}(hm:∀b,W' b→W b∨h.size≤b){kind:Int}{x:Hs}{r:Rt}{l:List Pr}(i:RefIs W h kind x r l):RefIs W' h kind x r l:=
 let⟨s,e,hs⟩:=i;⟨s,e,hs.1.less hm,hs.2⟩
theorem RefIs.updM{W M:Nat→Prop}{h h':ad}(k:Upd M h h')(hm:∀b,M b→W b∨h.size≤b){kind:Int}{x:Hs}{r:Rt}{l:List Pr}(i:RefIs W h kind x r l):RefIs W h' kind x r l:=
 let⟨s,e,hs⟩:=i;⟨s,e,hs.1.upd k hm,hs.2⟩
theorem SW{W:Nat→Prop}{x:Hs}{h:ad}{kind:Int}(hkd:kind=0∨kind=1){K:Rt×Int→ad→Prop}(hk:∀h' r,RefIs W h' kind x r []→Upd No h h'→K (r,0) h'):HC PG Cp [.int .i64 kind,.agg #[.int .u64 x.k0,.int .u64 x.k1,.int .u64 x.mask]] [.agg [.int .i64,.int .u64,.int .u64,.int .u64,.slice],.c (.int .i64)] K h:=by
 refine P7 kind (x.k0,x.k1,x.mask) ?_;unfold H1 aN ae cp Dm df Am;refine aM fun h1 b1 k1=>aM fun h2 b2 k2=>?_
 have c1:=k2.get0 b1;have s1:=k1.size;have k02:=k1.tr k2;rcases hkd with rfl|rfl
 ·refine av.2 ⟨_,vc c1 0,_,vc c1 1,_,vc c1 2,?_⟩
  refine be (c:=pG Iu) (vs:=pG (0,x.k0,x.k1,x.mask,⟨none,0,0⟩)) b2 rfl fun h4 b4 hu4=>?_
  exact⟨_,vc b4 0,_,vc b4 1,_,vc b4 2,_,vc b4 3,⟨none,0,0⟩,vc b4 4,hk h4 (0,x.k0,x.k1,x.mask,⟨none,0,0⟩) ⟨_,rfl,Sl.nil ge,aq _⟩ (k02.own hu4 s1)⟩
 ·refine aj.2 (av.2 ?_)
  refine be (c:=pG Iu) (vs:=pG (1,0,0,0,⟨none,0,0⟩)) b2 rfl fun h4 b4 hu4=>?_
  exact⟨_,vc b4 0,_,vc b4 1,_,vc b4 2,_,vc b4 3,⟨none,0,0⟩,vc b4 4,hk h4 (1,0,0,0,⟨none,0,0⟩) ⟨_,rfl,Sl.nil ge,aq _⟩ (k02.own hu4 s1)⟩
theorem Pm{k v:ByteArray}(h1:k.size≤256)(h2:v.size≤4096){h:ad}{K:Int→ad→Prop}(hk:K 0 h):HC PG xU [.string k,.string v] [.c (.int .i64)] K h:=by
 refine Lv k v ?_;unfold DK;refine aA (fun h=>absurd h (by omega)) fun _=>aA (fun h=>absurd h (by omega)) fun _=>hk
theorem Q2{W:Nat→Prop}{x:Hs}{h:ad}{kind:Int}{r:Rt}{l:List Pr}(i:RefIs W h kind x r l)(hW:∀y,W y→y<h.size)(hr:bE l)(hn:l.length≤1000000)(p:Pr)(hp1:p.1.size≤256)(hp2:p.2.size≤4096){K:Rt×Int→ad→Prop}
  (hk:∀h' r',RefIs W h' kind x r' (gV p l)→Upd No h h'→K (r',0) h'):HC PG zO [VU r,.agg #[.string p.1,.string p.2]] [.agg [.int .i64,.int .u64,.int .u64,.int .u64,.slice],.c (.int .i64)] K h:=by
 refine NF r p ?_;unfold F6 aN ae au cp jH bX df Am xB dU vp qF EE;refine aM fun h1 b1 k1=>aM fun h2 b2 k2=>aM fun h3 b3 k3=>?_
 have z1:=aO b1;have z2:=aO b2;have z3:=aO b3;have s1:h.size≤h1.size:=k1.size;have s2:h1.size≤h2.size:=k2.size;have s3:=k3.size;have k03:=(k1.tr k2).tr k3;have v1:=k3.get0 (k2.get0 b1);have v2:=k3.get0 b2;obtain⟨s,rfl,hs,_⟩:=i;refine⟨_,vc v2 0,_,vc v2 1,Pm hp1 hp2 (aj.2 ?_)⟩;refine⟨s,vc v1 4,p.1,vc v2 0,p.2,vc v2 1,?_⟩;refine SV (hs.upd k03 fun _ h=>h.elim) hr hn p (by omega) fun s4 h4 ho4 hu4=>?_
 refine BT (i:=4) (c':=(pG (kind,hx kind x.k0,hx kind x.k1,hx kind x.mask,s4)).toArray) (hu4.get0 v1) (show 4<5 by decide) rfl fun h5 v5 hu5=>?_
 refine⟨_,vc v5 0,_,vc v5 1,_,vc v5 2,_,vc v5 3,s4,vc v5 4,?_⟩;refine be (c:=pG Iu) (vs:=pG (kind,hx kind x.k0,hx kind x.k1,hx kind x.mask,s4)) (hu5.oth (hu4.get0 b3) (by omega)) rfl fun h6 v6 hu6=>?_
 refine⟨_,vc v6 0,_,vc v6 1,_,vc v6 2,_,vc v6 3,s4,vc v6 4,?_⟩;have ho6:=(ho4.upd hu5 fun y hy e=>by have e:y=h.size:=e;omega).upd hu6 fun y hy e=>by have e:y=h2.size:=e;omega
 refine hk h6 (kind,hx kind x.k0,hx kind x.k1,hx kind x.mask,s4) ⟨s4,rfl,ho6.sl fun y hy _ hw=>by have:=hW y hw;omega,ho6.cap⟩ (((k03.tr hu4).own hu5 (aq _)).own hu6 (by omega))
def vC(s:ByteArray):ByteArray:=s.extract 0 (min s.size 30)
theorem tB(s:ByteArray):(vC s).size≤30:=by unfold vC;rw[qz];omega
end Go.Proofs
namespace Go.Proofs
open Go Go.Lift
def GA(p:Pr):Pr:=(vC p.1,vC p.2)
structure Few(n:Nat)(L:List Pr):Prop where
 up:bE L
 len:L.length≤n
 fit:∀p∈L,p.1.size≤30∧p.2.size≤30
theorem Few.ins{n:Nat}{L:List Pr}(f:Few n L)(p:Pr)(h1:p.1.size≤30)(h2:p.2.size≤30):Few (n+1) (gV p L):=
 ⟨yr p f.up,bc (Ck p) (by have:=f.len;omega),fun q hq=>(AH hq).elim (fun e=>by rw[e];exact⟨h1,h2⟩) fun h=>f.fit q h⟩
theorem Few.fits{n:Nat}{L:List Pr}(f:Few n L):Fit L:=fun p hp=>by have:=f.fit p hp;omega
end Go.Proofs
