/- A part of the proof that the named laws of this program answer true, whatever the input. -/
import Derived.Test.YtakmnggbneeicaaGreatPart10
import Derived.Test.YtakmnggbneeicaaGreatPart2
import Derived.Test.YtakmnggbneeicaaGreatLaw0
import Derived.Test.YtakmnggbneeicaaGreatPart0
import Derived.Test.YtakmnggbneeicaaGreatPart5
open Bool renaming true_and→ko
open Int renaming le_refl→fE,ne_of_lt→oU
open List renaming mem_singleton→al,mem_cons_of_mem→ax,mem_cons→aq,mem_cons_self→ar,length_filter_le→bF,take_succ_eq_append_getElem→av,filter_append→ci,filter_cons→aR,take_of_length_le→aS,getElem_mem→aH,nil_append→cS,getElem?_eq_getElem→af,length_map→bS,getElem_inj→mq,take_length→bP,append_nil→be
open List.Pairwise renaming nil→cf
open Nat renaming not_lt→de,lt_of_lt_of_le→az,zero_le→aN,le_trans→aW,le_refl→ai
namespace Go.Proofs
open Go Go.Lift
abbrev Ux(d:Int×Rt):List Value:= [.int .u32 d.1,.int .i64 d.2.1,.int .u64 d.2.2.1,.int .u64 d.2.2.2.1,.int .u64 d.2.2.2.2.1,.slice d.2.2.2.2.2.a d.2.2.2.2.2.len d.2.2.2.2.2.cap]
theorem Uw(d:Int×Rt):(Ux d).length=6∧0<6:=⟨rfl,by omega⟩
structure RS where
 L:cT
 nx:Int
 D:List (Int×TD)
 Ds:List (Int×Rt)
 ts:SliceV
 sB:SliceV
 sT:SliceV
 B:zH
 T:zH
def RW(b a:Nat)(q:RS)(y:Nat):Prop:=y=b∨y=a∨sb q.ts y
abbrev rvL(re:Rt)(a:Nat)(q:RS):List Value:=sN re++ [Value.pointer (some ⟨a,0,none⟩),.slice q.ts.a q.ts.len q.ts.cap,.slice q.sB.a q.sB.len q.sB.cap,.slice q.sT.a q.sT.len q.sT.cap]
structure Rn(W:Nat→Prop)(h:ad)(xp xg:Nat)(kind:Int)(x:Hs)(re:Rt)(q:RS):Prop where
 r:RefAt W h xg q.L q.nx
 wx:W xp
 gx:xg≠xp
 blk:h[xp]? =some (.cells (rvL re xg q).toArray 121 (0,0))
 e:RefIs W h kind x re []
 ts:OwnS Ux 6 178 (sb q.ts) h q.ts q.Ds
 tw:∀y,sb q.ts y→W y∧y≠xg∧y≠xp
 b:Sl vZ 2 W h q.sB q.B
 bc:q.sB.len≤q.sB.cap
 t:Sl vZ 2 W h q.sT q.T
 tc:q.sT.len≤q.sT.cap
 n:q.Ds.length=q.D.length
 par:∀i (h1:i<q.Ds.length) (h2:i<q.D.length),q.Ds[i].1=q.D[i].1∧RefIs W h kind x q.Ds[i].2 q.D[i].2.2
section
variable {W W' M:Nat→Prop} {h h':ad}
theorem Sl.re{α:Type}{f:α→List Value}{sz:Nat}{s:SliceV}{xs:List α}(i:Sl f sz W h s xs)(k:Upd M h h')(hm:∀b,M b→W b∨h.size≤b)(a:∀b,W' b→W b∨h.size≤b):Sl f sz W' h' s xs:=
 ((i.less (W':=fun b=>W b∨h.size≤b) fun _ hb=>hb).upd k fun b hb=>.inl (hm b hb)).less fun b hb=>.inl (a b hb)
theorem RefIs.re{kind:Int}{x:Hs}{r:Rt}{l:List Pr}(i:RefIs W h kind x r l)(k:Upd M h h')(hm:∀b,M b→W b∨h.size≤b)(a:∀b,W' b→W b∨h.size≤b):RefIs W' h' kind x r l:=
 RefIs.less (fun b hb=>.inl (a b hb)) (RefIs.updM (W:=fun b=>W b∨h.size≤b) k (fun b hb=>.inl (hm b hb)) (RefIs.less (fun _ hb=>hb) i))
theorem VI(k:Upd M h h')(hm:∀b,M b→W b∨h.size≤b)(a:∀b,W' b→W b∨h.size≤b):∀{l:List (Int×SliceV)} {m:cT},Par W h l m→Par W' h' l m
 | [],[],_=>trivial
 |_::_,_::_,g=>⟨g.1,Sl.re g.2.1 k hm a,VI k hm a g.2.2⟩
theorem RefAt.re{d:Nat}{L:cT}{nx:Int}(g:RefAt W h d L nx)(k:Upd M h h')(hm:∀b,M b→(W b∧b≠d)∨h.size≤b)(f:∀b,W' b→(W b∨h.size≤b)∧b<h'.size)(j:W' d):RefAt W' h' d L nx:=by
 have a:∀b,M b→W b∨h.size≤b:=fun b hb=>(hm b hb).imp (·.1) id
 have c:∀b,W' b→W b∨h.size≤b:=fun b hb=>(f b hb).1
 obtain⟨s,t,Ls,o,m,i,n⟩:=g.blk;exact⟨⟨s,t,Ls,k.get o fun e=>(hm _ e).elim (fun e=>e.2 rfl) fun e=>absurd (g.lt _ g.wp) (de.2 e),Sl.re m k a c,VI k a c i,n⟩,j,fun b hb=>(f b hb).2⟩
variable {xp xg:Nat} {kind:Int} {x:Hs} {re:Rt} {q:RS}
theorem Rn.lt(g:Rn W h xp xg kind x re q):∀y,W y→y<h.size:=g.r.lt
theorem Rn.rw(g:Rn W h xp xg kind x re q):∀y,RW xg xp q y→W y:=fun y a=>a.elim (fun e=>e▸g.r.wp) fun a=>a.elim (fun e=>e▸g.wx) fun a=>(g.tw y a).1
theorem Rn.mv(g:Rn W h xp xg kind x re q)(k:Upd M h h')(hm:∀b,M b→(W b∧¬RW xg xp q b)∨h.size≤b)(m:∀b,W' b→(W b∨h.size≤b)∧b<h'.size)(f:∀y,RW xg xp q y→W' y):Rn W' h' xp xg kind x re q:=by
 have a:∀b,M b→W b∨h.size≤b:=fun b hb=>(hm b hb).imp (·.1) id
 have c:∀b,W' b→W b∨h.size≤b:=fun b hb=>(m b hb).1
 have no:∀y,RW xg xp q y→¬M y:=fun y d o=>(hm y o).elim (fun e=>e.2 d) fun e=>absurd (g.lt y (g.rw y d)) (de.2 e)
 exact⟨g.r.re k (fun b hb=>(hm b hb).imp (fun e=>⟨e.1,fun p=>e.2 (.inl p)⟩) id) m (f _ (.inl rfl)),f _ (.inr (.inl rfl)),g.gx,k.get g.blk (no _ (.inr (.inl rfl))),g.e.re k a c,
  g.ts.upd k fun y d=>no y (.inr (.inr d)),fun y d=>⟨f y (.inr (.inr d)),(g.tw y d).2⟩,Sl.re g.b k a c,g.bc,Sl.re g.t k a c,g.tc,g.n,fun i j n=>⟨(g.par i j n).1,(g.par i j n).2.re k a c⟩⟩
theorem Rn.upd(g:Rn W h xp xg kind x re q)(k:Upd M h h')(hm:∀b,M b→(W b∧¬RW xg xp q b)∨h.size≤b):Rn W h' xp xg kind x re q:=
 g.mv k hm (fun b hb=>⟨.inl hb,az (g.lt b hb) k.size⟩) g.rw
theorem Rn.upd0(g:Rn W h xp xg kind x re q)(k:Upd No h h'):Rn W h' xp xg kind x re q:=g.upd k fun _ h=>h.elim
theorem Rn.names(g:Rn W h xp xg kind x re q)(k:Upd M h h')(hm:∀y,M y→y=xp∨h.size≤y){sB sT:SliceV}{B T:zH}(hb:h'[xp]? =some (.cells (rvL re xg {q with sB:=sB,sT:=sT,B:=B,T:=T}).toArray 121 (0,0))) (b:Sl vZ 2 W h' sB B) (bc:sB.len≤sB.cap) (t:Sl vZ 2 W h' sT T) (tc:sT.len≤sT.cap):
  Rn W h' xp xg kind x re {q with sB:=sB,sT:=sT,B:=B,T:=T}:=by
 have a:∀b,M b→W b∨h.size≤b:=fun b e=>(hm b e).imp (fun(e:b=xp)=>e▸g.wx) id
 have hx:∀b,M b→(W b∧b≠xg)∨h.size≤b:=fun b e=>(hm b e).imp (fun(e:b=xp)=>⟨e▸g.wx,fun j=>g.gx (j.symm.trans e)⟩) id
 exact⟨g.r.upd k hx,g.wx,g.gx,hb,g.e.updM k a,g.ts.upd k fun y c e=>(hm y e).elim (fun e=>(g.tw y c).2.2 e) fun e=>absurd (g.lt y (g.tw y c).1) (de.2 e),g.tw,b,bc,t,tc,g.n,fun i d f=>⟨(g.par i d f).1,(g.par i d f).2.updM k a⟩⟩
theorem wp(g:Rn W h xp xg kind x re q)(_:Upd No h h'):∀b,b=xp→W b∨h'.size≤b:=fun _ e=>.inl (e▸g.wx)
variable (g:Rn W h xp xg kind x re q) (hL:q.L.length≤100000) {n:ByteArray} {id:Int}
include g
include hL in
theorem ML(f:q.B.length≤1000)(k:∀p∈q.B,p.1.size≤40)(c:n.size≤40){B:zH}(r:NmR B q.B){K:Int→ad→Prop}
  (j:∀h' s',Upd (· =xp) h h'→Rn W h' xp xg kind x re {q with sB:=s',B:=if kS B q.L n id false=0 then Az q.B n id else q.B}→K (kS B q.L n id false) h'):fH 26 [gS xp,.string n,.int .u32 id] K h:=by
 refine cW (Bg (some ⟨xp,0,none⟩) n id) .nil Tryz.func26 Tryz.call26 ?_;dsimp only[Bg,RE,cH,gU,cV,uR,cg];refine⟨_,rfl,q.sB,vc g.blk 7,Po g.r g.blk rfl hL g.b g.bc f k c r false fun u d s t a=>⟨_,rfl,rA (i:=7) (a.get0 g.blk) (by simp) rfl fun o m b=>?_⟩⟩
 exact j o d (a.wide.tr b) (g.names (sB:=d) (sT:=q.sT) (T:=q.T) (a.wide.tr b) (fun y e=>.inl e) m (s.upd b (wp g a)) t ((g.upd0 a).t.upd b (wp g a)) g.tc)
include hL in
theorem Ug(f:q.T.length≤1000)(k:∀p∈q.T,p.1.size≤40)(c:n.size≤40){B:zH}(r:NmR B q.T){K:Int→ad→Prop}
  (j:∀h' s',Upd (· =xp) h h'→Rn W h' xp xg kind x re {q with sT:=s',T:=if kS B q.L n id (id==0)=0 then Az q.T n id else q.T}→K (kS B q.L n id (id==0)) h'):fH 30 [gS xp,.string n,.int .u32 id] K h:=by
 refine cW (IB (some ⟨xp,0,none⟩) n id) .nil Tryz.func30 Tryz.call30 ?_;dsimp only[IB,cg,RE,cH,gU,cV];refine⟨_,rfl,q.sT,vc g.blk 8,Po g.r g.blk rfl hL g.t g.tc f k c r (id==0) fun u d s t a=>⟨_,rfl,rA (i:=8) (a.get0 g.blk) (by simp) rfl fun o m b=>?_⟩⟩
 exact j o d (a.wide.tr b) (g.names (sT:=d) (sB:=q.sB) (B:=q.B) (a.wide.tr b) (fun y e=>.inl e) m ((g.upd0 a).b.upd b (wp g a)) g.bc (s.upd b (wp g a)) t)
theorem EA(o:q.B.length≤1000){K:Int→ad→Prop}(d:∀i (_:i<q.B.length),q.B[i].1=n→∀h' s',Upd (· =xp) h h'→Rn W h' xp xg kind x re {q with sB:=s',B:=q.B.take i++q.B.drop (i+1)}→K 0 h')
  (c:(∀p∈q.B,p.1≠n)→∀h',Upd (· =xp) h h'→Rn W h' xp xg kind x re q→K 4 h'):fH 28 [gS xp,.string n] K h:=by
 refine cW (Bf (some ⟨xp,0,none⟩) n) .nil Tryz.func28 Tryz.call28 ?_;dsimp only[Bf,kR,cH,gU,cV,uR,cg];refine⟨_,rfl,q.sB,vc g.blk 7,Pn g.b g.bc o g.lt (fun i hi e s m t u a=>⟨_,rfl,rA (i:=7) (a.get0 g.blk) (by simp) rfl fun k j b=>?_⟩) fun f s a=>⟨_,rfl,rA (i:=7) (a.get0 g.blk) (by simp) rfl fun k j b=>?_⟩⟩
 ·exact d i hi e k m (a.wide.tr b) (g.names (sB:=m) (sT:=q.sT) (T:=q.T) (a.wide.tr b) (fun y e=>.inl e) j (t.upd b (wp g a)) u ((g.upd0 a).t.upd b (wp g a)) g.tc)
 ·exact c f k (a.wide.tr b) (g.names (sB:=q.sB) (sT:=q.sT) (T:=q.T) (a.wide.tr b) (fun y e=>.inl e) j ((g.upd0 a).b.upd b (wp g a)) g.bc ((g.upd0 a).t.upd b (wp g a)) g.tc)
theorem Hp(o:q.T.length≤1000){K:Int→ad→Prop}(d:∀i (_:i<q.T.length),q.T[i].1=n→∀h' s',Upd (· =xp) h h'→Rn W h' xp xg kind x re {q with sT:=s',T:=q.T.take i++q.T.drop (i+1)}→K 0 h')
  (c:(∀p∈q.T,p.1≠n)→∀h',Upd (· =xp) h h'→Rn W h' xp xg kind x re q→K 4 h'):fH 32 [gS xp,.string n] K h:=by
 refine cW (Di (some ⟨xp,0,none⟩) n) .nil Tryz.func32 Tryz.call32 ?_;dsimp only[Di,cg,kR,cH,gU,cV];refine⟨_,rfl,q.sT,vc g.blk 8,Pn g.t g.tc o g.lt (fun i hi e s m t u a=>⟨_,rfl,rA (i:=8) (a.get0 g.blk) (by simp) rfl fun k j b=>?_⟩) fun f s a=>⟨_,rfl,rA (i:=8) (a.get0 g.blk) (by simp) rfl fun k j b=>?_⟩⟩
 ·exact d i hi e k m (a.wide.tr b) (g.names (sT:=m) (sB:=q.sB) (B:=q.B) (a.wide.tr b) (fun y e=>.inl e) j ((g.upd0 a).b.upd b (wp g a)) g.bc (t.upd b (wp g a)) u)
 ·exact c f k (a.wide.tr b) (g.names (sB:=q.sB) (B:=q.B) (sT:=q.sT) (T:=q.T) (a.wide.tr b) (fun y e=>.inl e) j ((g.upd0 a).b.upd b (wp g a)) g.bc ((g.upd0 a).t.upd b (wp g a)) g.tc)
end
end Go.Proofs
namespace Go.Proofs
open Go Go.Lift
theorem ye{M:Nat→Prop}{h:ad}{so:SliceV}{out:List Int}{x:Int}{K:SliceV→ad→Prop}(f:OwnS u32 1 31 M h so out)(d:∀b,h.size≤b→M b)(g:out.length≤1000000000)
  (c:∀s' h',OwnS u32 1 31 M h' s' (out++ [x])→Upd M h h'→K s' h'):
  ∃xs,SRow (hnew h [.int .u32 x] 31) (some (aL h)) (1*1) xs∧AppP (some [.int .u32 0]) 1 4 31 so.a so.len so.cap 1 xs (hnew h [.int .u32 x] 31) K:=by
 have k:=Upd.hnew No h [.int .u32 x] 31;refine⟨_,((M8 (M:=fun _=>True) h x trivial).sl (W:=No) fun _ _ _ h=>h).srow,?_⟩
 refine AppP.own (ys:= [x]) (f.upd k fun _ _ h=>h) rfl rfl rfl rfl (by omega) (by simp only[List.length_singleton];omega) (d _ (by rw[dC];omega)) fun s' h' a e=>?_
 exact c s' h' a ((Upd.hnew M h _ _).tr e)
theorem SK{h:ad}{r:Nat}{m:List (Int×SliceV)}(hm:MapAt KE sv h r m){K:Value→ad→Prop}
  (f:∀fv h',Gives PG fv u32 m.length (fun xs=>xs.Perm (m.map (·.1))) (fun b=>b=r∨b=h.size) h'→Upd No h h'→K fv h'):QG 43 [.map (some r)] K h:=by
 refine cW (iL (some r)) .nil Tryz.func43 Tryz.call43 ?_;unfold iL;have k:=Upd.hnew No h [.map (some r)] 102;refine f _ _ ?_ k;refine NP (hm.upd k id) (bx:=h.size) (bU ..) fun y p K hb a=>mz y ⟨h.size,0,none⟩ ?_
 dsimp only[eH,Mq];obtain⟨c,⟨es,d⟩,a⟩:=a;refine⟨some r,by rw[bd hb];rfl,c,.inr ⟨r,es,rfl,d⟩,?_⟩
 refine(a _ rfl).imp fun I t h n=>n.imp id fun e q ⟨x,v,g,j,o,i⟩=>⟨rfl,e,x,v,g,j,o,i⟩
theorem Kf{h:ad}{W:Value}{N:Nat}{S:List Int→Prop}{Q:Nat→Prop}(hg:Gives PG W u32 N S Q h)(hN:N≤1000000000){K:SliceV→ad→Prop}
  (hk:∀s' h' xs,S xs→OwnS u32 1 31 (fun b=>h.size≤b) h' s' xs→Upd No h h'→K s' h'):eP 142 [.slice none 0 0,W] K h:=by
 refine qu ⟨none,0,0⟩ W ?_;unfold kf SL;have k0:=Upd.hnew No h [.slice none 0 0] 43;have b0:=bU h [.slice none 0 0] 43;have T:(hnew h [.slice none 0 0] 43).size=h.size+1:=dC ..;have H:=hg.upd k0 fun _ _=>id
 simp only[At];generalize hnew h [.slice none 0 0] 43=h1 at H k0 b0 T;refine⟨fun lo hlo g=>?_⟩
 obtain⟨f,first,cap,rfl,y⟩:=H.run
 refine⟨f,first,cap,rfl,?_⟩
 have k1:Upd No h1 ((h1.push (.deferred (some []))).push (lo .ready none)):=(Upd.push No _ _).tr (Upd.push No _ _);have l2:((h1.push (.deferred (some []))).push (lo .ready none))[h1.size+1]? =some (lo .ready none):=by
  have:=oh (h1.push (.deferred (some []))) (lo .ready none);rwa [Array.size_push]at this
 have l1:((h1.push (.deferred (some []))).push (lo .ready none))[h1.size]? =some (.deferred (some [])):=(Upd.push No _ _).get0 (oh h1 _);refine y (.func (.yield (h1.size+1)) #[] #[]) (fun pre A h'=>(∀b,A b→b<h'.size∧h.size≤b)∧A h.size∧A h1.size∧A (h1.size+1)∧h'[h1.size]? =some (.deferred (some []))∧h'[h1.size+1]? =some (lo .ready none)∧
   ∃s:SliceV,h'[h.size]? =some (.cells #[sv s] 43 (0,0))∧OwnS u32 1 31 (fun b=>A b∧h1.size+1<b) h' s pre∧pre.length≤N)
  (fun b=>b=h.size∨b=h1.size∨b=h1.size+1) No _ _ ⟨fun _ _ _ u b hb=>(u.1 b hb).1,fun pre A h' h'' B u q L=>?_,fun pre A h' x K' u Z hK=>?_⟩ ?_ k1 (fun _ _=>id) (fun b hb hq=>?_) ?_
 ·obtain⟨I,E,j,i,P,h6,s,h7,h8,h9⟩:=u
  exact⟨fun b hb=>⟨az (I b hb).1 q.size,(I b hb).2⟩,E,j,i,q.get P (L _ j),q.get h6 (L _ i),s,q.get h7 (L _ E),h8.upd q fun b hb=>L b hb.1,h9⟩
 ·obtain⟨k,c,p,d,hd,C,s,O,U,Y⟩:=u
  refine g x h' K' C ⟨C,?_⟩;have n:Upd (· =h1.size+1) h' (h'.setIfInBounds (h1.size+1) (lo .busy none)):=Upd.set _ _ rfl
  have X:=dE (o:=lo .busy none) C;have sb:=n.size;generalize h'.setIfInBounds (h1.size+1) (lo .busy none)=E at n X sb;refine⟨s,by rw[cz,bd (n.get O (by omega))];rfl,?_⟩
  refine ye (M:=fun b=>(A b∨E.size≤b)∧h1.size+1<b) ((U.upd n fun b hb=>by omega).more fun b hb=>⟨.inl hb.1,hb.2⟩) (fun b hb=>⟨.inr hb,by have:=bw X;omega⟩) (by omega) fun s' j V e=>?_
  have m:j[h.size]? =some (.cells #[sv s] 43 (0,0)):=e.get (n.get O (by omega)) (by omega);refine⟨by rw[cz];exact eC m (by simp),?_⟩;have t:Upd (· =h.size) j (hset j (aL h) (.slice s'.a s'.len s'.cap)):=Upd.hset _ _ rfl
  have w:(hset j (aL h) (.slice s'.a s'.len s'.cap))[h.size]? =some (.cells #[sv s'] 43 (0,0)):=by
   rw[cz,ju m,dE m];rfl
  generalize hset j (aL h) (.slice s'.a s'.len s'.cap)=i at t w;have z:i[h1.size+1]? =some (lo .busy none):=t.get (e.get X (by omega)) (by omega);refine⟨z,?_⟩;have a:Upd (· =h1.size+1) i (i.setIfInBounds (h1.size+1) (lo .ready none)):=Upd.set _ _ rfl
  have R:=dE (o:=lo .ready none) z;have J:Upd A h' i:=((n.mono (M':=A) fun b hb=>.inl (hb▸d)).trans e fun b hb=>hb.1.imp id fun h=>by omega).trans t fun b hb=>.inl (hb▸c)
  have z3:=e.size;have z4:=t.size;have z5:=a.size;refine hK _ (fun b=>(A b∨E.size≤b)∧b<i.size) ⟨fun b hb=>⟨az hb.2 z5,hb.1.elim (fun h=>(k b h).2) fun h=>by have:=(k _ c).1;omega⟩,⟨.inl c,by have:=(k _ c).1;omega⟩,⟨.inl p,by have:=(k _ p).1;omega⟩,⟨.inl d,by have:=(k _ d).1;omega⟩,
   a.get (t.get (e.get (n.get hd (by omega)) (by omega)) (by omega)) (by omega),R,s',a.get w (by omega),?_,by simp;omega⟩ (J.trans a fun b hb=>.inl (hb▸d)) fun b hb=>hb.1.imp id fun h=>by omega
  exact(((V.upd t fun b hb=>by omega).within).more fun b hb=>⟨⟨hb.1.1,hb.2⟩,hb.1.2⟩).upd a fun b hb=>by omega
 ·refine⟨fun b hb=>?_,.inl rfl,.inr (.inl rfl),.inr (.inr rfl),l1,l2,⟨none,0,0⟩,k1.get0 b0,OwnS.nil jp,aN _⟩
  have:=bw l2;rcases hb with rfl|rfl|rfl<;>omega
 ·have:=hg.lt b hq
  rcases hb with rfl|rfl|rfl<;>omega
 ·rintro xs A' h' hS ⟨k,c,p,d,hd,C,s,O,U,Y⟩ q hA'
  refine⟨.ready,none,by decide,C,?_⟩
  have a:Upd (· =h1.size+1) h' (h'.setIfInBounds (h1.size+1) (lo .exhausted none)):=Upd.set _ _ rfl
  show∃v:SliceV,aK (h'.setIfInBounds (h1.size+1) (lo .exhausted none)) (aL h)=some (.slice v.a v.len v.cap)∧_
  have F:=a.get hd (show ¬h1.size=h1.size+1 by omega)
  have G:=a.get O (show ¬h.size=h1.size+1 by omega)
  have D:=U.upd a fun b hb=>by omega
  generalize h'.setIfInBounds (h1.size+1) (lo .exhausted none)=P at a F G D;refine⟨s,by rw[cz,bd G];rfl,F,?_⟩
  have k6:Upd (· =h1.size) P (P.setIfInBounds h1.size (.deferred none)):=Upd.set _ _ rfl
  refine hk s _ xs hS ((D.upd k6 fun b hb=>by omega).more fun b hb=>(k b hb.1).2) ?_
  refine(((k0.tr k1).trans q fun b hb=>?_).trans a fun b hb=>.inr (by omega)).trans k6 fun b hb=>.inr (by omega)
  rcases hb with rfl|rfl|rfl<;>(right;omega)
theorem Of{h:ad}{a:Value}{N:Nat}{S:List Int→Prop}{Q:Nat→Prop}(c:Gives PG a u32 N S Q h)(e:N≤1000000000){K:SliceV→ad→Prop}
  (d:∀s' h' xs,S xs→OwnS u32 1 31 (fun b=>h.size≤b) h' s' xs→Upd No h h'→K s' h'):eP 94 [a] K h:=by
 refine cW (qd a) .nil Tryz.func94 Tryz.call94 ?_;unfold qd;exact Kf c e d
end Go.Proofs
namespace Go.Proofs
open Go.Lift
theorem SC:∀{xs:List Int},xs≠[]→∃m∈xs,∀x∈xs,x≤m
 | [],h=>absurd rfl h
 | [x],_=>⟨x,al.2 rfl,fun y c=>by rw[al.1 c];exact fE _⟩
 |x::y::xs,_=>by
  obtain⟨m,hm,b⟩:=SC (xs:=y::xs) (by simp);by_cases h:x≤m
  ·exact⟨m,ax _ hm,fun z a=>by rcases aq.1 a with rfl|a;exact h;exact b z a⟩
  ·exact⟨x,ar ..,fun z a=>by
    rcases aq.1 a with rfl|a
    ·exact fE _
    ·have:=b z a;omega⟩
theorem Rs{W:Nat→Prop}{h:ad}{xp:Nat}{L:cT}{nx:Int}(g:RefAt W h xp L nx)(gd:Good L)(a b:Int)
  {K:Int×Bool→ad→Prop}(hk:∀d h',(∀c,UpG L a c→UpG L b c→c≤d)→(d=0∨UpG L a d∧UpG L b d)→0≤d→Upd No h h'→K (d,decide (d>0)) h'):
  G8 79 [gS xp,.int .u32 a,.int .u32 b] K h:=by
 refine cW (Gt (some ⟨xp,0,none⟩) a b) OA Tryz.func79 Tryz.call79 ?_;dsimp only[Gt,sL,RD,rz,cB,fQ,qs];have hL:=gd.len;refine uz g gd a fun s1 h1 xs hx1 hx2 z Y=>?_
 refine uz (g.upd0 Y) gd b fun s2 h2 ys hy1 S hs2 V=>?_
 have hs1':=(z.less (W':=No) fun _ h=>h.elim).upd V fun _ h=>h.elim
 have Q:=hs2.less (W':=No) fun _ h=>h.elim
 have hxl:xs.length≤L.length:=by
  have:=kZ (hx1.imp fun h=>oU h) (l':=dF L) fun y O=>((hx2 y).1 O).right
  simpa using this
 have hyl:ys.length≤L.length:=by
  have:=kZ (hy1.imp fun h=>oU h) (l':=dF L) fun y O=>((S y).1 O).right
  simpa using this
 have E:=Y.tr V;refine LoopP.ghost (fun(i:Nat) (t:SliceV×Int) h'=>t.2=(i:Int)∧i≤xs.length∧Upd No h2 h'∧OwnS u32 1 31 (fun b=>h2.size≤b) h' t.1 ((xs.take i).filter fun x=>decide (x∈ys))) (fun i=>xs.length-i) 0
  ⟨rfl,aN _,Upd.refl _ _,OwnS.nil jp⟩ ?_
 rintro I i ⟨so,t⟩ h' ⟨ht,hi,G,ho⟩ hI;(try simp only at ht ho)
 subst ht;refine ao (fun f=>?_) fun N=>?_
 ·rw[z.len]at f
  have f:i<xs.length:=by omega
  obtain⟨a1,H,_,hx⟩:=Nums.at (hs1'.upd G fun _ h=>h.elim) f
  refine Join.plain ⟨by rw[z.len];omega,a1,H,_,hx,Es (Q.upd G fun _ h=>h.elim) (by omega) _ (ao (fun hm=>?_) fun hm=>?_)⟩
  ·refine ye ho (fun b hb=>aW G.size hb) (by have:=bF (fun x=>decide (x∈ys)) (xs.take i);simp at this;omega) fun s' h3 ho3 s=>?_
   (try simp only)
   rw[cp f (by omega)];refine hI (i+1) _ _ ⟨rfl,f,G.trans s fun b hb=>.inr hb,?_⟩ (by omega)
   rw[av f,ci,aR,if_pos (decide_eq_true hm)];exact ho3
  ·(try simp only)
   rw[cp f (by omega)];refine hI (i+1) _ _ ⟨rfl,f,G,?_⟩ (by omega);rw[av f,ci,aR,if_neg (by simpa using hm)];simpa using ho
 ·rw[z.len]at N
  have:i=xs.length:=by omega
  rw[aS (by omega)]at ho;have F:∀y,y∈(xs.filter fun x=>decide (x∈ys))↔UpG L a y∧UpG L b y:=fun y=>by
   rw[List.mem_filter,decide_eq_true_iff,hx2,S]
  have hbl:(xs.filter fun x=>decide (x∈ys)).length≤L.length:=aW (bF ..) hxl
  have q:Nums No h' so (xs.filter fun x=>decide (x∈ys)):=ho.sl fun _ _ _ h=>h
  generalize hbo:(xs.filter fun x=>decide (x∈ys))=both at q F hbl
  have g2:=g.upd0 E;have g3:=g2.upd0 G;refine LoopP.ghost (fun(i:Nat) (t:Int×Int) h2'=>t.2=(i:Int)∧i≤both.length∧Upd No h' h2'∧0≤t.1∧(t.1=0∨t.1∈both)∧∀x∈both.take i,(∀y∈both,y≤x)→x≤t.1) (fun i=>both.length-i) 0
   ⟨rfl,aN _,Upd.refl _ _,fE _,.inl rfl,fun x hx=>by simp at hx⟩ ?_
  rintro I2 j ⟨d,t⟩ h3 ⟨ht,hj,s,hb0,J,B⟩ hI2;(try simp only at ht hb0 J B)
  subst ht;have U:=q.upd s fun _ h=>h.elim
  refine ao (fun f=>?_) fun N=>?_
  ·rw[q.len]at f
   have f:j<both.length:=by omega
   obtain⟨a1,H,_,hx⟩:=Nums.at U f;refine Join.plain ⟨by rw[q.len];omega,a1,H,_,hx,?_⟩;refine LoopP.ghost (fun(i:Nat) (t:Bool×Int) h4=>t.2=(i:Int)∧i≤both.length∧Upd No h3 h4∧(t.1=false→∃y∈both,both[j]<y)) (fun i=>both.length-i) 0
    ⟨rfl,aN _,Upd.refl _ _,fun e=>by cases e⟩ ?_
   rintro I3 k ⟨A,t⟩ h4 ⟨ht,hkl,u,v⟩ hI3;(try simp only at ht v)
   subst ht;have hs4:=U.upd u fun _ h=>h.elim
   refine ao (fun o=>?_) fun hge2=>?_
   ·rw[q.len]at o
    have o:k<both.length:=by omega
    obtain⟨a2,ha2,_,hx'⟩:=Nums.at hs4 o;refine Join.plain ⟨by rw[q.len];omega,a2,ha2,_,hx',?_⟩;refine Join.intro (fun t P=>Upd No h4 P∧(t=true→both[j]<both[k])) (fun R hR=>?_) ?_
    ·refine CondP.intro (fun T=>?_) fun _=>hR _ _ ⟨Upd.refl _ _,fun e=>by cases e⟩
     have T:both[k]≠both[j]:=by simpa using T
     refine uz ((g3.upd0 s).upd0 u) gd both[k] fun s5 P zs hz1 Z hs5 w=>?_
     have hzl:zs.length≤L.length:=by
      have:=kZ (hz1.imp fun h=>oU h) (l':=dF L) fun y O=>((Z y).1 O).right
      simpa using this
     refine Es hs5 (by omega) _ (hR _ _ ⟨w,fun e=>?_⟩)
     have:=(Z _).1 (of_decide_eq_true e);have:=UpG.le gd this;omega
    ·rintro t P ⟨w,C⟩
     refine CondP.intro (fun e=>?_) fun e=>?_
     ·(try simp only)
      rw[cp o (by omega)];exact hI3 (k+1) _ _ ⟨rfl,o,u.tr w,fun _=>⟨_,aH o,C e⟩⟩ (by omega)
     ·(try simp only)
      rw[cp o (by omega)];exact hI3 (k+1) _ _ ⟨rfl,o,u.tr w,v⟩ (by omega)
   ·have step:∀n:Int,(n=d∨n=both[j])→d≤n→((∀y∈both,y≤both[j])→both[j]≤n)→I2 (n,IntKind.wrap .i64 ((j:Int)+1)) h4:=fun n h1 h2 h3'=>by
     rw[cp f (by omega)];refine hI2 (j+1) _ _ ⟨rfl,f,s.tr u,by(try simp only);omega,?_,fun x hx p=>?_⟩ (by omega)
     ·rcases h1 with rfl|rfl
      ·exact J
      ·exact .inr (aH f)
     ·rw[av f]at hx
      rcases List.mem_append.1 hx with hx|hx
      ·have:=B x hx p;(try simp only);omega
      ·rw[al.1 hx]at p⊢;exact h3' p
    refine Join.intro (fun t P=>P=h4∧(t=true→A=true∧both[j]>d)∧(t=false→A=true→¬both[j]>d)) (fun R hR=>?_) ?_
    ·refine CondP.intro (fun e=>hR _ _ ⟨rfl,fun D=>⟨e,of_decide_eq_true D⟩,fun D _=>of_decide_eq_false D⟩) fun e=>hR _ _ ⟨rfl,fun D=>(by cases D),fun _ D=>(by have e:A=false:=e;rw[e]at D;cases D)⟩
    ·rintro t P ⟨rfl,q1,q2⟩
     refine CondP.intro (fun e=>?_) fun e=>?_
     ·obtain⟨_,hgt⟩:=q1 e
      exact step _ (.inr rfl) (by omega) fun _=>fE _
     ·refine step _ (.inl rfl) (fE _) fun p=>?_
      cases hl:A with
      |true=>have:=q2 e hl;omega
      |false=>
       obtain⟨y,O,C⟩:=v hl;have:=p y O;omega
  ·rw[q.len]at N
   have:j=both.length:=by omega
   rw[aS (by omega)]at B;refine hk d h3 (fun c q1 q2=>?_) (J.imp (fun h=>h) fun hb=>(F _).1 hb) hb0 ((E.tr G).tr s)
   have hc:=(F c).2 ⟨q1,q2⟩;obtain⟨m,hm,X⟩:=SC (xs:=both) (List.ne_nil_of_mem hc);exact Int.le_trans (X c hc) (B m hm X)
end Go.Proofs
namespace Go.Proofs
open Go Go.Lift
theorem L5:∀(xs:zH) (i:Nat) (hi:i<xs.length) (id:Int),(xs.flatMap vZ).set (i*2+1) (.int .u32 id)=(xs.set i (xs[i].1,id)).flatMap vZ
 |p::xs,0,_,id=>rfl
 |p::xs,i+1,hi,id=>by
  have a:=L5 xs i (by simpa using hi) id;rw[show(i+1)*2+1=i*2+1+1+1 by omega]
  simp only[List.flatMap_cons,List.set_cons_succ,List.getElem_cons_succ,List.cons_append,cS,a]
theorem Yl{ty:TypeId}{M:Nat→Prop}{h:ad}{s:SliceV}{xs:zH}(o:OwnS vZ 2 ty M h s xs){i:Nat}(hi:i<xs.length)(id:Int){k:ad→Prop}(n:∀h',OwnS vZ 2 ty M h' s (xs.set i (xs[i].1,id))→Upd M h h'→k h'):
  ∃a,s.a=some a∧Wr h (adr (adr a (i*2)) 1)∧At (hset h (adr (adr a (i*2)) 1) (.int .u32 id)) k:=by
 have c:=o.len;have d:=o.cap;rcases o.blk with t|⟨b,f,g,hb,hc,m⟩
 ·omega
 have j:(xs.flatMap vZ).length=xs.length*2:=gq (fun x=>(rI x).1) xs
 refine⟨_,g,?_⟩;rw[nf];refine rA hc (by rw[List.size_toArray,List.length_append,j];omega) (List.setIfInBounds_toArray ..) fun q b2 p=>n q ⟨by rw[List.length_set];exact c,rI,d,.inr ⟨b,f,g,hb,?_,m⟩⟩ (p.mono fun _ e=>.inl (e▸hb))
 rw[b2,List.set_append_left _ _ (by rw[j];omega),L5 xs i hi id]
section
variable {W:Nat→Prop} {h:ad} {xp xg:Nat} {kind:Int} {x:Hs} {re:Rt} {q:RS}
def IR(q:RS)(id:Int)(B:TD):Prop:=(id=0∧B.2= [])∨(id≠0∧id∈dF q.L∧bC q.D id=some B)
theorem IV(g:Rn W h xp xg kind x re q)(nd:(q.D.map (·.1)).Nodup){id:Int}{B:TD}(G:IR q id B)(hL:q.L.length≤100000)(Y:q.D.length≤100000){K:Rt×Int→ad→Prop}(Q:∀h' r,RefIs W h' kind x r B.2→Upd No h h'→K (r,0) h'):
  DR 52 [gS xp,.int .u32 id] K h:=by
 refine cW (Mw (some ⟨xp,0,none⟩) id) TY Tryz.func52 Tryz.call52 ?_;dsimp only[Mw,te,dR,gn,dt,nv,sL,ge,qR,cg,Jb,Ud,Uo,jA,fQ,cH,jg,dM,wL,aY,aj,xz,wJ,dg];refine ba fun h1 b1 k1=>CondP.intro (fun e=>?_) fun e=>?_
 ·have e:id=0:=by simpa using e
  have H:B.2= []:=G.elim (·.2) fun h=>absurd e h.1
  have c1:=k1.get0 g.blk;refine⟨_,rfl,_,gw c1 0 0,_,gw c1 0 1,_,gw c1 0 2,_,gw c1 0 3,re.2.2.2.2,gw c1 0 4,?_⟩;refine cn (c:=sN O9) (vs:=sN re) b1 rfl fun L b2 u2=>⟨_,vc b2 0,_,vc b2 1,_,vc b2 2,_,vc b2 3,re.2.2.2.2,vc b2 4,?_⟩
  have P:Upd No h L:=k1.own u2 (ai _);exact Q L re (by rw[H];exact g.e.upd0 P) P
 have e:id≠0:=by simpa using e
 obtain⟨_,hi,hd⟩:=G.resolve_left fun h=>e h.1
 refine Join.intro (fun _ _=>False) (fun R _=>⟨_,rfl,_,vc (k1.get0 g.blk) 5,zX (g.r.upd0 k1) (by omega) id fun n A p O=>ao (fun _=>?_) fun e=>absurd (O.2 hi) e⟩) fun _ _ h=>h.elim
 have m:=k1.tr p;have v:=g.upd0 m;have s1:=m.size;have z1:=bw b1;have s18:=p.size;refine⟨_,rfl,q.ts,vc v.blk 6,?_⟩;have H:=g.ts.len;have O:=g.n;refine LoopP.ghost (fun(i:Nat) (t:Int) h'=>t=(i:Int)∧i≤q.Ds.length∧(∀j (z:j<q.D.length),j<i→q.D[j].1≠id)∧Upd No A h') (fun i=>q.Ds.length-i) 0 ⟨rfl,aN _,(fun j _ h=>by omega),Upd.refl _ _⟩ ?_
 rintro I i t E ⟨rfl,V,N,k⟩ Z;have y:=v.upd0 k;refine ao (fun d=>?_) fun S=>?_
 ·have d:i<q.Ds.length:=by omega
  obtain⟨a,X,_,hv⟩:=(y.ts.sl (W:=No) fun _ _ _ h=>h).at (af d)
  obtain⟨J,pr⟩:=y.par i d (by omega);refine⟨⟨by omega,by omega⟩,a,X,_,hv 0 _ rfl,_,hv 1 _ rfl,_,hv 2 _ rfl,_,hv 3 _ rfl,_,hv 4 _ rfl,q.Ds[i].2.2.2.2.2,hv 5 _ rfl,?_⟩
  refine ba fun h31 D C=>cn (c:= [.int .u32 0,.int .i64 0,.int .u64 0,.int .u64 0,.int .u64 0,.slice none 0 0]) (vs:=Ux q.Ds[i]) D rfl fun u b u32=>⟨_,vc b 0,?_⟩
  have o:Upd No E u:=C.own u32 (ai _);have T:=k.size;refine CondP.intro (fun e=>?_) fun e=>?_
  ·have e:q.D[i].1=id:=by rw[←J];simpa using e
   have ed:q.D[i].2=B:=by
    have hm:(q.D[i].1,q.D[i].2)∈q.D:=aH (show i<q.D.length by omega)
    have:=(eB nd).2 hm;rw[e,hd]at this;exact(Option.some.inj this).symm
   have bt:u[h.size]? =some (.cells (sN O9).toArray 111 (0,0)):=o.get0 (k.get0 (p.get0 b1));refine⟨_,gw b 1 0,_,gw b 1 1,_,gw b 1 2,_,gw b 1 3,q.Ds[i].2.2.2.2.2,gw b 1 4,?_⟩;refine cn (c:=sN O9) (vs:=sN q.Ds[i].2) bt rfl fun s f F=>?_
   have w:Upd No h s:=((m.tr k).tr o).own F (ai _);refine⟨_,vc f 0,_,vc f 1,_,vc f 2,_,vc f 3,q.Ds[i].2.2.2.2.2,vc f 4,Q s q.Ds[i].2 ?_ w⟩;rw[←ed];exact(g.par i d (by omega)).2.upd0 w
  ·have e:q.D[i].1≠id:=by rw[←J];simpa using e
   rw[cp (n:=q.Ds.length) d (by omega)];refine Z (i+1) _ _ ⟨rfl,d,fun j z hji=>?_,k.tr o⟩ (by omega)
   by_cases U:j=i
   ·subst U;exact e
   ·exact N j z (by omega)
 ·obtain⟨j,z,e⟩:=List.getElem_of_mem (j7 hd)
  exact absurd (by rw[e]) (N j z (by omega))
theorem IU(g:Rn W h xp xg kind x re q){i:Nat}(hi:i<q.B.length)(id:Int)(G:q.B.length≤1000){K:sW []→ad→Prop}(C:∀h' s',Upd (· =xp) h h'→Rn W h' xp xg kind x re {q with sB:=s',B:=q.B.set i (q.B[i].1,id)}→K () h'):
  dd 78 [gS xp,.int .i64 i,.int .u32 id] K h:=by
 refine cW (Iz (some ⟨xp,0,none⟩) i id) Rc Tryz.func78 Tryz.call78 ?_;dsimp only[Iz,Ez,cV,jA,fQ,cH,gU,uR,cg];refine Join.plain (ba fun s b2 m=>⟨_,rfl,q.sB,vc (m.get0 g.blk) 7,?_⟩)
 have F:=m.size;have A:=bw g.blk;refine Hd (M:=fun y=>s.size≤y) (out:= []) (c:=q.sB.cap) (OwnS.nil rI) (g.upd0 m).b (ai _) (by simp;omega) fun u z w D=>?_
 have o:Upd No h z:=m.fresh D fun y a=>by omega
 refine⟨_,rfl,rA (i:=7) (o.get0 g.blk) (by simp) rfl fun E t p=>?_⟩
 have n:=w.upd p fun y a e=>by have e:y=xp:=e;omega
 rw[cS]at n;have H:=n.len;refine⟨_,rfl,u,vc t 7,⟨by omega,by omega⟩,?_⟩
 rw[Int.toNat_natCast];refine Yl n hi id fun j k f=>?_
 have d:Upd (fun y=>y=xp∨s.size≤y) h j:=(o.wide.tr (p.mono fun y a=>.inl (.inl a))).tr (f.mono fun y a=>.inl (.inr a))
 refine C j u (d.mono fun y a=>a.imp (fun h=>h) fun a=>by omega) (g.names (sT:=q.sT) (T:=q.T) d (fun y a=>a.imp (fun h=>h) fun a=>by omega) (f.get t fun a=>by omega) (k.sl fun b hb _ v=>by have:=g.lt b v;omega) k.cap (g.t.upd d fun y a=>a.imp (fun(e:y=xp)=>e▸g.wx) fun a=>by omega) g.tc)
end
end Go.Proofs
namespace Go.Proofs
open Go Go.Lift
def wN(q:RS)(i:Nat)(hi:i<q.B.length)(d:TD)(ps:List Int)(r:Rt)(ts sB:SliceV):RS:=
 if(eZ q.L q.nx ps).1.2≠0 then q
 else{q with L:=(eZ q.L q.nx ps).2.1,nx:=(eZ q.L q.nx ps).2.2,D:=q.D++ [(q.nx,d)],Ds:=q.Ds++ [(q.nx,r)],ts:=ts,sB:=sB,B:=q.B.set i (q.B[i].1,q.nx)}
section
variable {W:Nat→Prop} {h:ad} {xp xg:Nat} {kind:Int} {x:Hs} {re:Rt} {q:RS}
theorem Cx(g:Rn W h xp xg kind x re q)(hnx:0≤q.nx)(hL:q.L.length≤100000)(hD:q.Ds.length≤100000)(hn:q.B.length≤1000){i:Nat}(hi:i<q.B.length){d:TD}{r:Rt}(j:RefIs W h kind x r d.2){sl:SliceV}{ps:List Int}(hs:Nums W h sl ps)(hps:ps.length≤1000)
  {K:Int×Int→ad→Prop}(Y:∀h' ts sB,Upd (RW xg xp q) h h'→(∀y,sb ts y→sb q.ts y∨h.size≤y)→(∀W':Nat→Prop,(∀y,W' y→(W y∨sb (wN q i hi d ps r ts sB).ts y))→(∀y,RW xg xp (wN q i hi d ps r ts sB) y→W' y)→Rn W' h' xp xg kind x re (wN q i hi d ps r ts sB))→K (eZ q.L q.nx ps).1 h'):
  Eu 81 [gS xp,.int .i64 i,Ro r,.slice sl.a sl.len sl.cap] K h:=by
 refine cW (yK (some ⟨xp,0,none⟩) i r sl) Hm Tryz.func81 Tryz.call81 ?_;dsimp only[yK,yR,mL,cg,KK,Ud,Uo,cH,jg,dM,wL,aY,aj,gU,cV,Hg,wJ,dg];have lt:=g.lt;refine ba fun C b1 k1=>⟨_,rfl,_,vc (k1.get0 g.blk) 5,Ui (g.upd0 k1).r hnx hL (hs.upd k1 fun _ h=>h.elim) (by omega) fun Z u5 V=>?_⟩
 have s1:=k1.size;have s5:=u5.size;have wx:=lt _ g.wx;have wg:=lt _ g.r.wp;have c:Upd (· =xg) h Z:=k1.wide.tr u5
 have U:=c.get g.blk fun e=>g.gx e.symm
 have P:=u5.oth b1 (show h.size≠xg by omega)
 refine CondP.intro (fun e=>?_) fun e=>?_
 ·have e:(eZ q.L q.nx ps).1.2≠0:=by simpa using e
  have X:=Mm e;have hv:∀ts sB,wN q i hi d ps r ts sB=q:=fun ts sB=>by unfold wN;rw[if_pos e]
  have:=Y Z q.ts q.sB (c.mono fun y a=>.inl (.inl a)) (fun y a=>.inl a) fun W' R O=>?_
  ·rw[show(eZ q.L q.nx ps).1=(0,(eZ q.L q.nx ps).1.2)from Prod.ext (by unfold eZ at e⊢;split;rfl;split;rfl;split;rfl;rename_i C N h3;rw[if_neg C,if_neg N,if_neg h3]at e;exact absurd rfl e) rfl]at this
   exact this
  ·rw[hv]at R O⊢
   rw[X]at V;have I:∀y,W' y→W y:=fun y a=>(R y a).elim id fun h=>(g.tw y h).1
   have hm:∀b,b=xg→W b∨h.size≤b:=fun b e=>.inl (e▸g.r.wp)
   have A:∀b,W' b→W b∨h.size≤b:=fun b hb=>.inl (I b hb)
   exact⟨V.re (Upd.refl No Z) (fun _ h=>h.elim) (fun b hb=>⟨.inl (I b hb),by have:=lt b (I b hb);omega⟩) (O _ (.inl rfl)),O _ (.inr (.inl rfl)),g.gx,U,g.e.re c hm A,g.ts.upd c fun y a e=>(g.tw y a).2.1 e,fun y a=>⟨O y (.inr (.inr a)),(g.tw y a).2⟩,Sl.re g.b c hm A,g.bc,Sl.re g.t c hm A,g.tc,g.n,fun i C N=>⟨(g.par i C N).1,(g.par i C N).2.re c hm A⟩⟩
 have e:(eZ q.L q.nx ps).1.2=0:=by simpa using e
 have X:=Ci e;have hv:∀ts sB,wN q i hi d ps r ts sB={q with L:=um q.L q.nx ps,nx:=q.nx+1,D:=q.D++ [(q.nx,d)],Ds:=q.Ds++ [(q.nx,r)],ts:=ts,sB:=sB,B:=q.B.set i (q.B[i].1,q.nx)}:=fun ts sB=>by
  unfold wN;rw[if_neg (by rw[e];simp),X]
 simp only[hv]at Y;rw[X]at V Y⊢;refine Join.plain ⟨_,rfl,q.ts,vc U 6,_,vc P 0,_,vc P 1,_,vc P 2,_,vc P 3,r.2.2.2.2,vc P 4,?_⟩;have o5:=g.ts.upd c fun y a e=>(g.tw y a).2.1 e
 refine ba fun h14 b14 n=>?_
 have s14:=n.size;have p:=n.get0 P;refine⟨⟨vc p 0,vc p 1,vc p 2,vc p 3,vc p 4⟩,vc (n.get0 U) 6,?_⟩;refine WJ (f:=Ux) (t:=(q.nx,r)) (so:=q.ts) (o5.upd n fun _ _ h=>h) b14 rfl rfl ⟨by omega,by omega⟩ (by omega) fun m h17 o17 v u=>?_
 have s17:=v.size;have nt:¬sb q.ts h.size:=fun a=>by have:=lt _ (g.tw _ a).1;omega
 have nx:¬sb q.ts xp:=fun a=>(g.tw _ a).2.2 rfl
 have ng:¬sb q.ts xg:=fun a=>(g.tw _ a).2.1 rfl
 have w:=v.get p nt;have x17:=v.get (n.get0 U) nx;have k:∀y,sb m y→sb q.ts y∨h.size≤y:=fun y a=>(u y a).1.imp id fun h=>by omega
 refine⟨⟨vc w 0,vc w 1,vc w 2,vc w 3,vc w 4⟩,_,rfl,rA (i:=6) x17 (by simp) rfl fun z b19 E=>?_⟩
 have s19:=E.size;have s:Upd (RW xg xp q) h z:=(((c.mono fun y a=>.inl (.inl a)).tr n.wide).tr (v.mono fun y a=>.inl (.inr (.inr a)))).tr (E.mono fun y a=>.inl (.inr (.inl a)))
 have Q:Upd (fun y=>y=xp∨sb q.ts y) Z z:=(n.wide.tr (v.mono fun y a=>.inl (.inr a))).tr (E.mono fun y a=>.inl (.inl a))
 have H:∀y,sb m y→y≠xg∧y≠xp:=fun y a=>(k y a).elim (fun h=>(g.tw y h).2) fun h=>⟨by omega,by omega⟩
 have hm:∀b,RW xg xp q b→W b∨h.size≤b:=fun b hb=>.inl (g.rw b hb)
 have o:∀b,(W b∨sb m b)→W b∨h.size≤b:=fun b hb=>hb.elim .inl fun hb=>(k b hb).imp (fun h=>(g.tw b h).1) id
 have F:∀b,(W b∨sb m b)→b<z.size:=fun b hb=>hb.elim (fun hb=>by have:=lt b hb;omega) fun hb=>by have:=(u b hb).2;omega
 have G:Rn (fun b=>W b∨sb m b) z xp xg kind x re {q with L:=um q.L q.nx ps,nx:=q.nx+1,D:=q.D++ [(q.nx,d)],Ds:=q.Ds++ [(q.nx,r)],ts:=m}:=by
  refine⟨V.re Q (fun b hb=>.inl (hb.elim (fun e=>⟨e▸g.wx,fun e'=>g.gx (e'.symm.trans e)⟩) fun h=>⟨(g.tw b h).1,(g.tw b h).2.1⟩)) (fun b hb=>⟨(o b hb).imp id fun h=>?_,F b hb⟩) (.inl g.r.wp),.inl g.wx,g.gx,b19,g.e.re s hm o,o17.upd E fun y a e=>(H y a).2 e,fun y a=>⟨.inr a,H y a⟩,Sl.re g.b s hm o,g.bc,Sl.re g.t s hm o,g.tc,by simp[g.n],fun i C N=>?_⟩
  ·rcases hb with hb|hb
   ·exact absurd (lt b hb) (de.2 h)
   ·rcases(u b hb).1 with h'|h'
    ·exact absurd (lt b (g.tw b h').1) (de.2 h)
    ·omega
  ·by_cases J:i<q.Ds.length
   ·have:=g.n
    simp only[List.getElem_append_left J,List.getElem_append_left (show i<q.D.length by omega)]
    exact⟨(g.par i J (by omega)).1,(g.par i J (by omega)).2.re s hm o⟩
   ·have:=g.n
    have ei:i=q.Ds.length:=by simp at C;omega
    rw[show(q.Ds++ [(q.nx,r)])[i]'C=(q.nx,r)from List.getElem_concat_length ei C,show(q.D++ [(q.nx,d)])[i]'N=(q.nx,d)from List.getElem_concat_length (by omega) N]
    exact⟨rfl,j.re s hm o⟩
 refine IU G hi q.nx hn fun T sB S G2=>?_
 have s23:=S.size;refine Y T m sB (s.tr (S.mono fun y a=>.inl (.inr (.inl a)))) k fun W' R O=>G2.mv (Upd.refl No T) (fun _ h=>h.elim) (fun b hb=>⟨.inl (R b hb),by have:=F b (R b hb);omega⟩) O
end
end Go.Proofs
namespace Go.Proofs
open Go Go.Lift
theorem Ff{α:Type}[DecidableEq α]:∀{l m:List α},l.Nodup→(∀y∈l,y∈m)→l.length≤m.length
 | [],_,_,_=>aN _
 |a::l,m,b,hs=>by
  have b:=List.nodup_cons.1 b;have c:=hs a ar;have:=Ff (m:=m.erase a) b.2 fun y d=>(List.mem_erase_of_ne fun e:y=a=>b.1 (by rw[←e];exact d)).2 (hs y (ax _ d))
  rw[List.length_erase_of_mem c]at this;have:=List.length_pos_of_mem c;rw[List.length_cons];omega
structure Kin(U:List ByteArray)(l:List Pr):Prop where
 up:bM l
 fit:∀p∈l,p.1∈U∧p.1.size≤30∧p.2.size≤30
section
variable {U V:List ByteArray} {l B O T:List Pr}
theorem Kin.few(f:Kin U l){n:Nat}(h:U.length≤n):Few n l:=by
 refine⟨f.up,aW ?_ h,fun p c=>(f.fit p c).2⟩
 have:=Ff (l:=l.map (·.1)) (m:=U) (List.pairwise_map.2 (f.up.imp fun{a b} (h:kl a.1 b.1) e=>bN a.1 (by rw[←e]at h;exact h))) fun y d=>by
  obtain⟨p,c,rfl⟩:=List.mem_map.1 d;exact(f.fit p c).1
 rw[bS]at this;exact this
theorem Kin.nil:Kin U []:=⟨cf,fun _ h=>by cases h⟩
theorem Kin.more(f:Kin U l)(h:∀k∈U,k∈V):Kin V l:=⟨f.up,fun p a=>⟨h _ (f.fit p a).1,(f.fit p a).2⟩⟩
theorem Kin.ins(f:Kin U l)(p:Pr)(b:p.1.size≤30)(a:p.2.size≤30):Kin (p.1::U) (fG p l):=
 ⟨nI p f.up,fun q c=>(rJ c).elim (fun e=>by rw[e];exact⟨ar,b,a⟩) fun h=>⟨ax _ (f.fit q h).1,(f.fit q h).2⟩⟩
theorem Kin.del(f:Kin U l)(k:ByteArray):Kin U (lA k l):=⟨BR f.up,fun p a=>f.fit p (Em.1 a).1⟩
theorem Kin.merge(c:Kin U B)(a:Kin U O)(b:Kin U T)(p:Int):Kin U (is B O T p):=by
 have r:bM (is B O T p):=vB a.up;refine⟨r,fun q d=>?_⟩
 have h:=ry r (k:=q.1) (v:=q.2) d;rw[Fq c.up b.up]at h;unfold tk at h;rcases BJ (look B q.1) (look O q.1) (look T q.1) p with e|e|e
 ·rw[e]at h;exact c.fit _ (ly h)
 ·rw[e]at h;exact a.fit _ (ly h)
 ·rw[e]at h;exact b.fit _ (ly h)
end
end Go.Proofs
namespace Go.Proofs
open Go Go.Lift
section
variable {W:Nat→Prop} {h h':ad} {xp xg:Nat} {kind:Int} {x:Hs} {re:Rt} {q:RS}
theorem yQ(g:Rn W h xp xg kind x re q)(f:Good q.L)(n:q.L.length≤100000)(id fr:Int){K:Bool→ad→Prop}(a:∀b h',(b=true↔id=0∨UpG q.L fr id)→Upd No h h'→K b h'):fI 77 [gS xp,.int .u32 id,.int .u32 fr] K h:=by
 refine cW (Dh (some ⟨xp,0,none⟩) id fr) .nil Tryz.func77 Tryz.call77 ?_;dsimp only[Dh,sL,RD,wJ,dg,cH];refine CondP.intro (fun e=>a _ _ ⟨fun _=>.inl (by simpa using e),fun _=>rfl⟩ (Upd.refl _ _)) fun e=>⟨_,rfl,_,vc g.blk 5,uz g.r f fr fun s' k xs j hx c i=>Es c ?_ id (a _ _ ?_ i)⟩
 ·have:=Ff (l:=xs) (m:=dF q.L) (j.imp fun h=>oU h) fun y d=>((hx y).1 d).right
  rw[bS]at this;omega
 ·have e:id≠0:=by simpa using e
  rw[decide_eq_true_iff,hx];exact⟨.inr,fun h=>h.resolve_left e⟩
theorem KB(g:Rn W h xp xg kind x re q)(f:q.B.length≤1000){n:ByteArray}(a:∀p∈q.B,p.1≠n){r:Rt}{K:Int×Int→ad→Prop}(b:∀h',Upd No h h'→K (0,4) h'):
  Eu 88 [gS xp,.string n,Ro r] K h:=by
 refine vP (some ⟨xp,0,none⟩) n r ?_;dsimp only[rm,mL,cg,kR,nV,cH,jg,dM,wL,aY,aj,xz,te,ge,D1,dR,jA,fQ,qs,uR];exact ba fun j b1 k1=>⟨_,rfl,q.sB,vc (k1.get0 g.blk) 7,jZ (g.upd0 k1).b (by omega) (fun i hi e=>absurd e (a _ (aH hi))) fun _ d c=>ao (fun _=>b d (k1.tr c)) fun h=>absurd (by omega) h⟩
theorem KC(g:Rn W h xp xg kind x re q)(p:q.B.length≤1000){n:ByteArray}{i:Nat}(hi:i<q.B.length)(k:q.B[i].1=n){r:Rt}(m:CU r re=false){K:Int×Int→ad→Prop}(o:∀h',Upd No h h'→K (0,11) h'):
  Eu 88 [gS xp,.string n,Ro r] K h:=by
 refine vP (some ⟨xp,0,none⟩) n r ?_;dsimp only[rm,mL,cg,kR,nV,cH,jg,dM,wL,aY,aj,xz,te,ge,D1,dR,jA,fQ,qs,uR];refine ba fun s b1 k1=>⟨_,rfl,q.sB,vc (k1.get0 g.blk) 7,jZ (g.upd0 k1).b (by omega) (fun j t u v e=>ao (fun h=>absurd h (by omega)) fun _=>?_) fun d=>absurd k (d _ (aH hi))⟩
 have b:=e.get0 b1;have a:=(k1.tr e).get0 g.blk;refine⟨_,vc b 0,_,vc b 1,_,vc b 2,_,vc b 3,r.2.2.2.2,vc b 4,_,rfl,_,gw a 0 0,_,gw a 0 1,_,gw a 0 2,_,gw a 0 3,re.2.2.2.2,gw a 0 4,Am (r:=r) (q:=re) fun c f=>?_⟩
 rw[m];exact aw.2 (o c ((k1.tr e).tr f))
theorem Wj{v:Int}(h:0≤v):nz [v]=if 0<v then[v]else[]:=by
 unfold nz;by_cases e:0<v
 ·rw[if_pos e];simp;omega
 ·rw[if_neg e];simp;omega
theorem MM(g:Rn W h xp xg kind x re q)(E:0≤q.nx)(hL:q.L.length≤100000)(hD:q.Ds.length≤100000)(V:q.B.length≤1000){n:ByteArray}{i:Nat}(hi:i<q.B.length)(nd:NUp q.B)(P:q.B[i].1=n)(U:0≤q.B[i].2){d:TD}{r:Rt}(j:RefIs W h kind x r d.2)
  {K:Int×Int→ad→Prop}(hk:∀h' ts sB,Upd (RW xg xp q) h h'→(∀y,sb ts y→sb q.ts y∨h.size≤y)→(∀W':Nat→Prop,(∀y,W' y→(W y∨sb (wN q i hi d (nz [q.B[i].2]) r ts sB).ts y))→(∀y,RW xg xp (wN q i hi d (nz [q.B[i].2]) r ts sB) y→W' y)→Rn W' h' xp xg kind x re (wN q i hi d (nz [q.B[i].2]) r ts sB))→K (eZ q.L q.nx (nz [q.B[i].2])).1 h'):
  Eu 88 [gS xp,.string n,Ro r] K h:=by
 refine vP (some ⟨xp,0,none⟩) n r ?_;dsimp only[rm,mL,cg,kR,nV,cH,jg,dM,wL,aY,aj,xz,te,ge,D1,dR,jA,fQ,qs,uR];have lt:=g.lt;refine ba fun h1 b1 k1=>⟨_,rfl,q.sB,vc (k1.get0 g.blk) 7,jZ (g.upd0 k1).b (by omega) (fun A Q T h5 w=>ao (fun h=>absurd h (by omega)) fun _=>?_) fun H=>absurd P (H _ (aH hi))⟩
 have z:A=i:=by
  have:=mq nd.nd (i:=A) (j:=i) (h₀:=by simpa using Q) (h₁:=by simpa using hi)
  exact this.1 (by simp[T,P])
 subst z;have p:=w.get0 b1;have s:=(k1.tr w).get0 g.blk;refine⟨_,vc p 0,_,vc p 1,_,vc p 2,_,vc p 3,r.2.2.2.2,vc p 4,_,rfl,_,gw s 0 0,_,gw s 0 1,_,gw s 0 2,_,gw s 0 3,re.2.2.2.2,gw s 0 4,Am (r:=r) (q:=re) fun m v=>?_⟩
 rw[zm j g.e];have k:=(k1.tr w).tr v;have O:=k.size;have o:=g.upd0 k;refine ag.2 (Join.intro (fun(t:SliceV) h'=>OwnS u32 1 31 (fun y=>m.size≤y) h' t (nz [q.B[A].2])∧Upd No m h') (fun R B=>?_) ?_)
 ·obtain⟨a,N,_,hv⟩:=o.b.at (af hi)
  have lb:=g.b.len;refine⟨_,rfl,q.sB,vc o.blk 7,⟨by omega,by omega⟩,a,N,_,hv 1 _ rfl,?_⟩
  rw[Wj U]at B;refine ao (fun e=>?_) fun e=>B _ _ ⟨by rw[if_neg e];exact OwnS.nil jp,Upd.refl _ _⟩
  refine⟨_,rfl,q.sB,vc o.blk 7,⟨by omega,by omega⟩,a,N,_,hv 1 _ rfl,bL (ye (M:=fun y=>m.size≤y) (OwnS.nil jp) (fun b hb=>hb) (by simp) fun X h31 C I=>B _ _ ⟨?_,I.mono fun y L=>.inr L⟩)⟩
  rw[if_pos e];exact C
 ·rintro t Y ⟨J,u⟩
  have f:=(v.tr u).get0 p;have c:=k.tr u;have Z:=c.size;refine⟨_,vc f 0,_,vc f 1,_,vc f 2,_,vc f 3,r.2.2.2.2,vc f 4,?_⟩;refine Cx (g.upd0 c) E hL hD V hi (j.upd0 c) (J.sl (W:=W) fun b hb _ S=>by have:=lt b S;omega) (aW (bF ..) (by simp)) fun D ts sB F ht G=>hk D ts sB (c.wide.tr F) (fun y L=>(ht y L).imp id fun h=>by omega) G
theorem GO(g:Rn W h xp xg kind x re q)(f:q.B.length≤1000){n:ByteArray}{id:Int}(a:∀p∈q.B,p.1≠n){K:Int→ad→Prop}(b:∀h',Upd No h h'→K 4 h'):
  fH 34 [gS xp,.string n,.int .u32 id] K h:=by
 refine xC (some ⟨xp,0,none⟩) n id ?_;dsimp only[ss,Ef,sL,kR,KK,D1,dR,cg,jA,fQ,cH,wJ,dg,uR];exact⟨_,rfl,q.sB,vc g.blk 7,jZ g.b (by omega) (fun i hi e=>absurd e (a _ (aH hi))) fun _ c d=>Join.plain (ao (fun _=>aw.2 (b c d)) fun h=>absurd (by omega) h)⟩
theorem vq(g:Rn W h xp xg kind x re q)(X:Good q.L)(U:q.L.length≤100000)(Q:q.B.length≤1000){n:ByteArray}{i:Nat}(hi:i<q.B.length)(nd:NUp q.B)(I:q.B[i].1=n){id:Int}{K:Int→ad→Prop}
  (A:¬(id=0∨id∈dF q.L)→∀h',Upd No h h'→K 4 h')(p:(id=0∨id∈dF q.L)→¬(id=0∨UpG q.L q.B[i].2 id)→∀h',Upd No h h'→K 13 h')
  (V:(id=0∨id∈dF q.L)→(id=0∨UpG q.L q.B[i].2 id)→∀h' s',Upd (· =xp) h h'→Rn W h' xp xg kind x re {q with sB:=s',B:=q.B.set i (q.B[i].1,id)}→K 0 h'):
  fH 34 [gS xp,.string n,.int .u32 id] K h:=by
 refine xC (some ⟨xp,0,none⟩) n id ?_;dsimp only[ss,Ef,sL,kR,KK,D1,dR,cg,jA,fQ,cH,wJ,dg,uR];refine⟨_,rfl,q.sB,vc g.blk 7,jZ g.b (by omega) (fun j L O N J=>?_) fun z=>absurd I (z _ (aH hi))⟩
 have v:j=i:=by
  have:=mq nd.nd (i:=j) (j:=i) (h₀:=by simpa using L) (h₁:=by simpa using hi)
  exact this.1 (by simp[O,I])
 subst v;have F:=g.upd0 J;refine Join.intro (fun(t:Bool) h'=>(t=false↔id=0∨id∈dF q.L)∧Upd No N h') (fun R H=>ao (fun h=>absurd h (by omega)) fun _=>CondP.intro (fun f=>⟨_,rfl,_,vc F.blk 5,zX F.r (by omega) id fun m Y T hm=>H _ _ ⟨?_,T⟩⟩) fun f=>H _ _ ⟨?_,Upd.refl _ _⟩) ?_
 ·have f:id≠0:=by simpa using f
  rw[decide_eq_false_iff_not];exact⟨fun o=>.inr (hm.1 (by omega)),fun o P=>by have:=hm.2 (o.resolve_left f);omega⟩
 ·have f:id=0:=by simpa using f
  simp[f]
 rintro t w ⟨ht,E⟩;have d:=J.tr E;have k:=g.upd0 d;refine CondP.intro (fun e=>A (fun o=>by rw[ht.2 o]at e;cases e) w d) fun e=>?_
 obtain⟨a,S,_,hv⟩:=k.b.at (af hi);have Z:=g.b.len;refine⟨_,rfl,q.sB,vc k.blk 7,⟨by omega,by omega⟩,a,S,_,hv 1 _ rfl,yQ k X U id _ fun b C hb u=>?_⟩
 have c:=d.tr u;refine CondP.intro (fun s=>p (ht.1 e) (fun o=>by rw[hb.2 o]at s;cases s) C c) fun s=>IU (g.upd0 c) hi id Q fun y s' D G=>V (ht.1 e) (hb.1 (by simpa using s)) y s' (c.wide.tr D) G
theorem Rn.graph(g:Rn W h xp xg kind x re q)(k:Upd (· =xg) h h'){L:cT}{nx:Int}(r:RefAt W h' xg L nx):Rn W h' xp xg kind x re {q with L:=L,nx:=nx}:=by
 have hm:∀b,b=xg→W b∨h.size≤b:=fun b e=>.inl (e▸g.r.wp)
 exact⟨r,g.wx,g.gx,k.get g.blk fun e=>g.gx e.symm,g.e.updM k hm,g.ts.upd k fun y d e=>(g.tw y d).2.1 e,g.tw,g.b.upd k hm,g.bc,g.t.upd k hm,g.tc,g.n,fun i c a=>⟨(g.par i c a).1,(g.par i c a).2.updM k hm⟩⟩
end
end Go.Proofs
namespace Go.Proofs
open Go Go.Lift
set_option maxHeartbeats 1000000 in
theorem Sh{W:Nat→Prop}{x:Hs}{h:ad}{kind p:Int}{rb ro rt:Rt}{B O T:List Pr}{nb no nt:Nat}(jb:RefIs W h kind x rb B)(jo:RefIs W h kind x ro O)(jt:RefIs W h kind x rt T)(hW:∀y,W y→y<h.size)(fB:Few nb B)(fO:Few no O)(fT:Few nt T)(lb:nb≤1000)(lo:no≤1000)(lt:nt≤1000)
  (hp0:0≤p)(hp1:p≤3){K:Rt×SliceV×Int→ad→Prop}
  (hk0:p=0→ns B O T p≠[]→∀h' s',Sl sP 7 (fun b=>b<h.size) h' s' ((ns B O T p).map (BB B O T))→Upd No h h'→K (ro,s',8) h')
  (hk:(p=0→ns B O T p= [])→∀h' r' s',RefIs W h' kind x r' (is B O T p)→Sl sP 7 (fun b=>b<h.size) h' s' ((ns B O T p).map (BB B O T))→Upd No h h'→K (r',s',0) h'):
  XL 80 [Ro rb,Ro ro,Ro rt,.int .i64 p] K h:=by
 refine cW (Mx rb ro rt p) TZ Tryz.func80 Tryz.call80 ?_;dsimp only[Mx,fQ,aY,aj,bi,gI,dt,nv,oW,DE,DI,dM,qR,mL,cV,kJ,cg,nV,mY,Jb,Jc,DD,wH,W5,mF,jg,wL,rY,jA,Hf,cZ,xz,te,ge,gU,xy,gl,D3,Hg,fY,QZ];refine ba fun h1 b1 k1=>ba fun z b2 k2=>ba fun h3 b3 k3=>ba fun h4 b4 k4=>?_
 have z1:=bw b1;have z2:=bw b2;have z3:=bw b3;have z4:=bw b4;have s1:h.size≤h1.size:=k1.size;have s2:h1.size≤z.size:=k2.size;have s3:z.size≤h3.size:=k3.size;have s4:=k4.size;have k04:=((k1.tr k2).tr k3).tr k4;have c0:=k4.get0 (k3.get0 (k2.get0 b1));have c1:=k4.get0 (k3.get0 b2);have c2:=k4.get0 b3;refine Join.intro (fun t h'=>t=false∧h'=h4) (fun R hR=>?_) ?_
 ·refine ao (fun e=>absurd e (by omega)) fun _=>hR _ _ ⟨decide_eq_false (by omega),rfl⟩
 rintro _ h7 ⟨rfl,e7⟩;rw[e7];refine ag.2 ?_;refine Join.intro (fun t h'=>t=false∧Upd No h4 h') (fun R hR=>?_) ?_
 ·refine⟨_,vc c0 0,_,vc c0 1,_,vc c0 2,_,vc c0 3,rb.2.2.2.2,vc c0 4,_,vc c1 0,_,vc c1 1,_,vc c1 2,_,vc c1 3,ro.2.2.2.2,vc c1 4,?_⟩
  refine Am (r:=rb) (q:=ro) fun h5 k5=>?_
  rw[zm jb jo];have d0:=k5.get0 c0;have d2:=k5.get0 c2;refine ag.2 ⟨_,vc d0 0,_,vc d0 1,_,vc d0 2,_,vc d0 3,rb.2.2.2.2,vc d0 4,_,vc d2 0,_,vc d2 1,_,vc d2 2,_,vc d2 3,rt.2.2.2.2,vc d2 4,?_⟩;refine Am (r:=rb) (q:=rt) fun h6 k6=>?_
  rw[zm jb jt];exact hR _ _ ⟨rfl,k5.tr k6⟩
 rintro t h45 ⟨rfl,k45⟩;have d0:=k45.get0 c0;have d1:=k45.get0 c1;have d2:=k45.get0 c2;have d3:=k45.get0 b4;have k045:=k04.tr k45;have s45:=k45.size;have nB:=fB.len;have nO:=fO.len;have nT:=fT.len;refine ag.2 ⟨_,vc d0 0,_,vc d0 1,_,vc d0 2,_,vc d0 3,rb.2.2.2.2,vc d0 4,_,vc d1 0,_,vc d1 1,_,vc d1 2,_,vc d1 3,ro.2.2.2.2,vc d1 4,_,vc d2 0,_,vc d2 1,_,vc d2 2,_,vc d2 3,rt.2.2.2.2,vc d2 4,?_⟩;refine ba fun h72 b72 k72=>?_
 have s72:=k72.size;have k072:=k045.tr k72;have hrow:∀i,i<3→∃r l,[B,O,T][i]? =some l∧RefIs W h kind x r l∧(l.length≤1000∧Few l.length l)∧∀h',Upd No h72 h'→aK h' (adr (adr (aL h45) (i*5)) 0)=some (.int .i64 r.1)∧aK h' (adr (adr (aL h45) (i*5)) 1)=some (.int .u64 r.2.1)∧aK h' (adr (adr (aL h45) (i*5)) 2)=some (.int .u64 r.2.2.1)∧aK h' (adr (adr (aL h45) (i*5)) 3)=some (.int .u64 r.2.2.2.1)∧aK h' (adr (adr (aL h45) (i*5)) 4)=some (.slice r.2.2.2.2.a r.2.2.2.2.len r.2.2.2.2.cap):=fun i hi=>by
  have hi:i=0∨i=1∨i=2:=by omega
  rcases hi with rfl|rfl|rfl
  ·exact⟨rb,B,rfl,jb,⟨by omega,fB.up,ai _,fB.fit⟩,fun h' k'=>have q:=k'.get0 b72;⟨gw q (0*5) 0,gw q (0*5) 1,gw q (0*5) 2,gw q (0*5) 3,gw q (0*5) 4⟩⟩
  ·exact⟨ro,O,rfl,jo,⟨by omega,fO.up,ai _,fO.fit⟩,fun h' k'=>have q:=k'.get0 b72;⟨gw q (1*5) 0,gw q (1*5) 1,gw q (1*5) 2,gw q (1*5) 3,gw q (1*5) 4⟩⟩
  ·exact⟨rt,T,rfl,jt,⟨by omega,fT.up,ai _,fT.fit⟩,fun h' k'=>have q:=k'.get0 b72;⟨gw q (2*5) 0,gw q (2*5) 1,gw q (2*5) 2,gw q (2*5) 3,gw q (2*5) 4⟩⟩
 refine LoopP.ghost (fun(i:Nat) (t:SliceV×Int) h'=>t.2=(i:Int)∧i≤3∧(∃acc,acc=([B,O,T].take i).foldl DL []∧Sl dQ 2 No h' t.1 acc∧bM acc∧acc.length≤i*1000∧∀q∈acc,q.1.size≤30)∧Upd No h72 h') (fun i=>3-i) 0 ⟨rfl,aN _,⟨[],rfl,Sl.nil fc,cf,aN _,fun _ h=>(by cases h)⟩,Upd.refl _ _⟩ ?_
 rintro I i ⟨sa,ti⟩ D ⟨e,hi,⟨acc,Z,hs,hra,hla,hka⟩,hu⟩ hI;(try simp only at e hs)
 subst e;refine ao (fun hlt=>?_) fun hge=>?_
 ·have hlt:i<3:=by(try simp only at hlt);omega
  obtain⟨r,l,el,⟨s,er,hl,_⟩,⟨ln,fl⟩,hc⟩:=hrow i hlt;obtain⟨e0,e1,e2,e3,e4⟩:=hc D hu;subst er;refine⟨⟨by(try simp only);omega,by(try simp only);omega⟩,_,rfl,_,e0,_,e1,_,e2,_,e3,s,e4,?_⟩
  refine Fh (r:=(kind,hx kind x.k0,hx kind x.k1,hx kind x.mask,s)) fun h83 b83 k83=>⟨s,vc b83 4,?_⟩
  have k083:=(k072.tr hu).tr k83;have hll:=hl.len;refine LoopP.ghost (fun(q:Nat) (t:SliceV×Int) h'=>t.2=(q:Int)∧q≤l.length∧(∃ac2,ac2=DL acc (l.take q)∧Sl dQ 2 No h' t.1 ac2∧bM ac2∧ac2.length≤acc.length+q∧∀q∈ac2,q.1.size≤30)∧Upd No h83 h') (fun q=>l.length-q) 0 ⟨rfl,aN _,⟨acc,rfl,hs.upd k83 fun _ h=>h.elim,hra,ai _,hka⟩,Upd.refl _ _⟩ ?_
  rintro I2 q ⟨sb,tq⟩ h87 ⟨e,hq,⟨ac2,eac2,hsb,hra2,hla2,hka2⟩,hu2⟩ hI2;(try simp only at e hsb)
  subst e;refine ao (fun u=>?_) fun hgq=>?_
  ·have u:q<l.length:=by(try simp only at u);omega
   obtain⟨a,ha,_,hv⟩:=(hl.upd (k083.tr hu2) fun _ h=>h.elim).at (af u)
   refine⟨⟨by(try simp only);omega,by(try simp only);omega⟩,a,ha,l[q].1,hv 0 _ rfl,l[q].2,hv 1 _ rfl,?_⟩
   have f30:=fl.fit _ (aH u);refine yx (p:=l[q]) fun h92 b92 k92=>⟨_,vc b92 0,_,vc b92 1,?_⟩
   refine Pc (p:=l[q]) (hsb.upd k92 fun _ h=>h.elim) hra2 (by omega) (by omega) fun s' h96 ho96 k96=>?_
   have hl1:=B6 l[q] (l:=ac2);(try simp only)
   rw[kX u (by omega)];refine hI2 (q+1) _ _ ⟨rfl,u,⟨_,rfl,?_,?_,?_,?_⟩,(hu2.tr k92).tr k96⟩ (by omega)
   ·rw[xS u,←eac2];exact ho96.sl fun _ _ _ h=>h
   ·rw[xS u,←eac2];exact nI _ hra2
   ·rw[xS u,←eac2];omega
   ·rw[xS u,←eac2]
    intro q' hq';rcases rJ hq' with rfl|hq'
    ·exact f30.1
    ·exact hka2 q' hq'
  ·have hql:q=l.length:=by(try simp only at hgq);omega
   subst hql;rw[bP]at eac2;(try simp only)
   rw[kX hlt (by omega)];refine hI (i+1) _ _ ⟨rfl,hlt,⟨ac2,?_,hsb,hra2,by omega,hka2⟩,(hu.tr k83).tr hu2⟩ (by omega)
   rw[List.take_add_one,el,List.foldl_append,←Z];exact eac2
 ·have hi3:i=3:=by(try simp only at hge);omega
  subst hi3;have Z:acc=wO B O T:=Z;have hU:bM acc:=hra;have u75:=k72.tr hu;have g0:=u75.get0 d0;have g1:=u75.get0 d1;have g2:=u75.get0 d2;have g3:=u75.get0 d3;have k075:=k045.tr u75;have s75:=u75.size;have jo':=jo;obtain⟨so,er,_,_⟩:=jo';subst er;refine⟨_,vc g1 0,_,vc g1 1,_,vc g1 2,_,vc g1 3,so,vc g1 4,?_⟩;refine Fh (r:=(kind,hx kind x.k0,hx kind x.k1,hx kind x.mask,so)) fun h103 b103 k103=>?_
  have s103:=k103.size;have z103:=bw b103;refine rA (i:=4) (c':=(sN (kind,hx kind x.k0,hx kind x.k1,hx kind x.mask,⟨none,0,0⟩)).toArray) b103 (show 4<5 by decide) rfl fun A b104 hu104=>?_
  have U:Upd No D A:=k103.own hu104 (ai _);have s104:=U.size;have z104:=bw b104;have hlen:=hs.len;have hM:zi B O T p acc=is B O T p:=by rw[Z];exact NF fB.up fO.up fT.up
  have hC:FU B O T p acc=ns B O T p:=by rw[Z];exact Oe fB.up fT.up
  clear Z hI;have hsU:Sl dQ 2 (fun y=>D.size≤y) A sa acc:=(hs.less fun b hb=>.inr hb).upd U fun _ h=>h.elim
  refine LoopP.ghost (fun(g:Nat×(Nat→Prop)×(Nat→Prop)) (t:SliceV×Int) z=>t.2=(g.1:Int)∧g.1≤acc.length∧OwnS sP 7 88 g.2.1 z t.1 ((FU B O T p (acc.take g.1)).map (BB B O T))∧(∃sv,OwnS dQ 2 169 g.2.2 z sv (zi B O T p (acc.take g.1))∧z[D.size]? =some (.cells (sN (kind,hx kind x.k0,hx kind x.k1,hx kind x.mask,sv)).toArray 111 (0,0)))∧(∀y,g.2.1 y→A.size≤y∧y<z.size∧¬g.2.2 y)∧(∀y,g.2.2 y→A.size≤y∧y<z.size)∧Upd (· =D.size) A z) (fun g=>acc.length-g.1) (0,No,No)
   ⟨rfl,aN _,OwnS.nil Ka,⟨⟨none,0,0⟩,OwnS.nil fc,b104⟩,fun _ h=>h.elim,fun _ h=>h.elim,Upd.refl _ _⟩ ?_
  rintro I3 ⟨q,S1,S2⟩ ⟨sc,tq⟩ h107 ⟨e,hq,hoc,⟨sv,hov,bv⟩,L,hS2,hu3⟩ hI3;(try simp only at e hq hoc hov L hS2)
  subst e;have s107:=hu3.size;have hn:∀{b:Nat},b<D.size→¬b=D.size:=fun h e=>by omega
  have q0:=hu3.get (U.get0 g0) (hn (by omega));have q1:=hu3.get (U.get0 g1) (hn (by omega));have q2:=hu3.get (U.get0 g2) (hn (by omega));have q3:=hu3.get (U.get0 g3) (hn (by omega));have k0107:Upd No h h107:=(k075.tr U).own hu3 (by omega);refine ao (fun u=>?_) fun hgq=>?_
  ·have u:q<acc.length:=by(try simp only at u);omega
   obtain⟨a,ha,_,hv⟩:=(hsU.upd hu3 fun y f=>.inl (by have f:y=D.size:=f;show D.size≤y;omega)).at (af u)
   have hcl:=To (B:=B) (O:=O) (T:=T) (p:=p) (l:=acc.take q);have hol:=Sr (B:=B) (O:=O) (T:=T) (p:=p) (l:=acc.take q);rw[List.length_take]at hcl hol;refine Join.intro (fun t z=>∃G S2',OwnS sP 7 88 G z t ((FU B O T p (acc.take (q+1))).map (BB B O T))∧(∃sv,OwnS dQ 2 169 S2' z sv (zi B O T p (acc.take (q+1)))∧z[D.size]? =some (.cells (sN (kind,hx kind x.k0,hx kind x.k1,hx kind x.mask,sv)).toArray 111 (0,0)))∧(∀y,G y→A.size≤y∧y<z.size∧¬S2' y)∧(∀y,S2' y→A.size≤y∧y<z.size)∧Upd (· =D.size) A z) (fun R hR=>⟨⟨by(try simp only);omega,by(try simp only);omega⟩,a,ha,acc[q].1,hv 0 _ rfl,acc[q].2,hv 1 _ rfl,?_⟩) ?_
   ·rw[QP u,Qq u,List.map_append]at hR
    have hk30:=hka _ (aH u);generalize acc[q]=c at hR hk30⊢;obtain⟨k,v⟩:=c;(try simp only at hR hk30)
    refine yx (p:=(k,v)) fun h113 J k113=>?_
    have s113:=k113.size;have z113:=bw J;have r0:=k113.get0 q0;have r1:=k113.get0 q1;have r2:=k113.get0 q2;have n:=k0107.tr k113;have hB:Fit B:=fB.fits;have hO:Fit O:=fO.fits;have hT:Fit T:=fT.fits;refine Join.intro (fun t z=>∃b,t=⟨b,0,none⟩∧z[b]? =some (.cells (sP (BB B O T k)).toArray 88 (0,0))∧Upd No h113 z) (fun R2 hR2=>?_) ?_
    ·refine⟨k,vc J 0,_,vc r0 0,_,vc r0 1,_,vc r0 2,_,vc r0 3,rb.2.2.2.2,vc r0 4,k,vc J 0,_,vc r1 0,_,vc r1 1,_,vc r1 2,_,vc r1 3,so,vc r1 4,k,vc J 0,_,vc r2 0,_,vc r2 1,_,vc r2 2,_,vc r2 3,rt.2.2.2.2,vc r2 4,k,vc J 0,?_,?_⟩
     ·refine lX (jb.upd0 n) fB.up hB (by omega) k fun h183 P=>?_
      have b183:=P.get0 J;have N:=P.get0 r1;have d:=P.get0 r2;refine⟨vc b183 0,⟨vc d 0,vc d 1,vc d 2,vc d 3,vc d 4⟩,vc b183 0,⟨vc N 0,vc N 1,vc N 2,vc N 3,vc N 4⟩,vc b183 0,?_,?_⟩
      ·refine lX (jo.upd0 (n.tr P)) fO.up hO (by omega) k fun h185 k185=>?_
       have b185:=k185.get0 b183;have d:=k185.get0 d;have u185:=P.tr k185;refine⟨vc b185 0,⟨vc d 0,vc d 1,vc d 2,vc d 3,vc d 4⟩,vc b185 0,?_,?_⟩
       ·refine lX (jt.upd0 (n.tr u185)) fT.up hT (by omega) k fun h187 k187=>?_
        have u187:=u185.tr k187;refine⟨vc (k187.get0 b185) 0,ba fun h188 b188 k188=>⟨vc (k188.get0 (k187.get0 b185)) 0,?_⟩⟩
        exact cn (c:=sP Uf) (vs:=sP (BB B O T k)) b188 rfl fun h189 S F=>hR2 _ _ ⟨_,rfl,S,(u187.tr k188).own F u187.size⟩
       ·refine ba fun h190 b190 k190=>?_
        have b190':=k190.get0 b185;have d:=k190.get0 d;have u190:=u185.tr k190;refine⟨vc b190' 0,⟨vc d 0,vc d 1,vc d 2,vc d 3,vc d 4⟩,vc b190' 0,?_⟩;refine lX (jt.upd0 (n.tr u190)) fT.up hT (by omega) k fun h192 k192=>?_
        refine⟨vc (k192.get0 b190') 0,?_⟩;exact cn (c:=sP Uf) (vs:=sP (BB B O T k)) (k192.get0 b190) rfl fun h189 S F=>hR2 _ _ ⟨_,rfl,S,(u190.tr k192).own F u185.size⟩
      ·refine ba fun h194 b194 k194=>?_
       have b194':=k194.get0 b183;have N:=k194.get0 N;have d:=k194.get0 d;have u194:=P.tr k194;refine⟨vc b194' 0,⟨vc d 0,vc d 1,vc d 2,vc d 3,vc d 4⟩,vc b194' 0,⟨vc N 0,vc N 1,vc N 2,vc N 3,vc N 4⟩,vc b194' 0,?_⟩;refine lX (jo.upd0 (n.tr u194)) fO.up hO (by omega) k fun h196 k196=>?_
       have b196':=k196.get0 b194';have b196:=k196.get0 b194;have d:=k196.get0 d;have u196:=u194.tr k196;refine⟨vc b196' 0,⟨vc d 0,vc d 1,vc d 2,vc d 3,vc d 4⟩,vc b196' 0,?_⟩;refine lX (jt.upd0 (n.tr u196)) fT.up hT (by omega) k fun h198 k198=>?_
       refine⟨vc (k198.get0 b196') 0,?_⟩;exact cn (c:=sP Uf) (vs:=sP (BB B O T k)) (k198.get0 b196) rfl fun h189 S F=>hR2 _ _ ⟨_,rfl,S,(u196.tr k198).own F P.size⟩
     ·refine ba fun h200 b200 Y=>?_
      have V:=Y.get0 J;have p0:=Y.get0 r0;have N:=Y.get0 r1;have d:=Y.get0 r2;refine⟨vc V 0,⟨vc d 0,vc d 1,vc d 2,vc d 3,vc d 4⟩,vc V 0,⟨vc N 0,vc N 1,vc N 2,vc N 3,vc N 4⟩,vc V 0,⟨vc p0 0,vc p0 1,vc p0 2,vc p0 3,vc p0 4⟩,vc V 0,?_⟩;refine lX (jb.upd0 (n.tr Y)) fB.up hB (by omega) k fun h202 k202=>?_
      have b202':=k202.get0 V;have b202:=k202.get0 b200;have N:=k202.get0 N;have d:=k202.get0 d;have u202:=Y.tr k202;refine⟨vc b202' 0,⟨vc d 0,vc d 1,vc d 2,vc d 3,vc d 4⟩,vc b202' 0,⟨vc N 0,vc N 1,vc N 2,vc N 3,vc N 4⟩,vc b202' 0,?_⟩;refine lX (jo.upd0 (n.tr u202)) fO.up hO (by omega) k fun h204 k204=>?_
      have b204':=k204.get0 b202';have b204:=k204.get0 b202;have d:=k204.get0 d;have u204:=u202.tr k204;refine⟨vc b204' 0,⟨vc d 0,vc d 1,vc d 2,vc d 3,vc d 4⟩,vc b204' 0,?_⟩;refine lX (jt.upd0 (n.tr u204)) fT.up hT (by omega) k fun h206 k206=>?_
      refine⟨vc (k206.get0 b204') 0,?_⟩;exact cn (c:=sP Uf) (vs:=sP (BB B O T k)) (k206.get0 b204) rfl fun h189 S F=>hR2 _ _ ⟨_,rfl,S,(u204.tr k206).own F (ai _)⟩
    rintro _ h142 ⟨bx,rfl,Q,k142⟩;refine⟨_,gw Q 1 0,_,gw Q 1 1,_,gw Q 3 0,_,gw Q 3 1,_,gw Q 5 0,_,gw Q 5 1,?_⟩;refine Se (b:=xN (look B k)) (o:=xN (look O k)) (t:=xN (look T k)) fun h150 k150=>?_
    rw[OY];have htk:rC (look B k) (look O k) (look T k) p=tk B O T p k:=rfl;rw[htk];generalize tk B O T p k=tkc at hR;refine VK (s:=xN tkc.1) fun h152 b152 k152=>?_
    have z152:=bw b152;have u152:=(k142.tr k150).tr k152;have u107:=k113.tr u152;have s152:=u107.size;have s150:h113.size≤h150.size:=(k142.tr k150).size;have b113':=u152.get0 J;have E:=(k150.tr k152).get0 Q;have bv152:=u107.get0 bv;refine Join.intro (fun t z=>∃G,OwnS sP 7 88 G z t ((FU B O T p (acc.take q)).map (BB B O T)++(if tkc.2=true then[]else[k]).map (BB B O T))∧(∀y,G y→A.size≤y∧y<z.size∧¬S2 y)∧(∀y,G y→S1 y∨h152.size≤y)∧Upd G h152 z) (fun R3 hR3=>?_) ?_
    ·refine CondP.intro (fun e=>?_) fun e=>?_
     ·have e2:tkc.2=false:=by simpa using e
      rw[e2,if_neg Bool.false_ne_true]at hR3;refine⟨_,vc E 0,_,vc E 1,_,vc E 2,_,vc E 3,_,vc E 4,_,vc E 5,_,vc E 6,?_⟩;refine Is (c:=BB B O T k) (M:=fun y=>S1 y∨h152.size≤y) ((hoc.upd u107 fun _ _ h=>h).more fun _ h=>.inl h) (fun _ h=>.inr h) (by rw[bS];omega) fun s163 X ho164 m=>?_
      have s164:=m.size;refine hR3 _ _ ⟨_,ho164.within,fun y f=>⟨?_,f.2,fun z=>?_⟩,fun y f=>f.1,?_⟩
      ·rcases f.1 with h|h
       ·exact(L y h).1
       ·omega
      ·rcases f.1 with h|h
       ·exact(L y h).2.2 z
       ·have:=(hS2 y z).2;omega
      ·exact m.mono fun y f=>f.elim (fun h=>.inl ⟨.inl h,by have:=(L y h).2.1;omega⟩) .inr
     ·have e2:tkc.2=true:=by simpa using e
      rw[e2,if_pos rfl,List.map_nil,be]at hR3;exact hR3 _ _ ⟨S1,hoc.upd u107 fun _ _ h=>h,fun y f=>⟨(L y f).1,by have:=(L y f).2.1;omega,(L y f).2.2⟩,fun y f=>.inl f,Upd.refl _ _⟩
    rintro sc' X ⟨G,hoc',j,hS1n,m⟩;have s164:=m.size;have nS:∀{b:Nat},b<A.size∨(h107.size≤b∧b<h152.size)→¬G b:=fun{b} hb hb'=>by
     have h1:=(j b hb').1;rcases hS1n b hb' with h|h
     ·have:=(L b h).2.1;omega
     ·omega
    have b152':=m.get b152 (nS (by omega));have b113'':=m.get b113' (nS (by omega));have bv164:=m.get bv152 (nS (by omega));have hov164:=(hov.upd u107 fun _ _ h=>h).upd m fun y f h1=>(j y h1).2.2 f
    have hu104:Upd (· =D.size) A X:=(hu3.tr u107.wide).trans m fun y f=>.inr (j y f).1
    refine⟨(xN tkc.1).2,vc b152' 1,?_⟩;cases hc1:tkc.1 with
    |none=>
     rw[hc1]at hR;refine ag.2 (hR _ _ ⟨G,S2,hoc',⟨sv,?_,bv164⟩,j,fun y f=>⟨(hS2 y f).1,by have:=(hS2 y f).2;omega⟩,hu104⟩)
     show OwnS dQ 2 169 S2 X sv (_++ [])
     rw[be];exact hov164
    |some w=>
     rw[hc1]at hR;rw[hc1]at b152';refine aw.2 ⟨sv,vc bv164 4,k,vc b113'' 0,w,vc b152' 0,bL ?_⟩;refine rX (p:=(k,w)) (M:=fun y=>S2 y∨X.size≤y) (hov164.more fun _ h=>.inl h) (fun _ h=>.inr h) (by omega) fun s171 h172 ho172 hu172=>?_
     have s172:=hu172.size;have nS2:¬(S2 D.size∨X.size≤D.size):=fun h=>by
      rcases h with h|h
      ·have:=(hS2 _ h).1;omega
      ·omega
     refine rA (i:=4) (c':=(sN (kind,hx kind x.k0,hx kind x.k1,hx kind x.mask,s171)).toArray) (hu172.get bv164 nS2) (show 4<5 by decide) rfl fun h173 b173 hu173=>?_
     have s173:=hu173.size;refine hR _ _ ⟨G,fun y=>(S2 y∨X.size≤y)∧y<h172.size,(hoc'.upd hu172 fun y f z=>?_).upd hu173 fun y f e=>?_,⟨s171,ho172.within.upd hu173 fun y f e=>?_,b173⟩,fun y f=>⟨(j y f).1,by have:=(j y f).2.1;omega,fun z=>?_⟩,fun y f=>⟨?_,by omega⟩,?_⟩
     ·rcases z with z|z
      ·exact(j y f).2.2 z
      ·have:=(j y f).2.1;omega
     ·have e:y=D.size:=e
      have:=(j y f).1;omega
     ·have e:y=D.size:=e
      exact nS2 (e▸f.1)
     ·rcases z.1 with z|z
      ·exact(j y f).2.2 z
      ·have:=(j y f).2.1;omega
     ·rcases f.1 with h|h
      ·exact(hS2 y h).1
      ·omega
     ·refine(hu104.trans hu172 fun y f=>.inr ?_).tr hu173
      rcases f with h|h
      ·exact(hS2 y h).1
      ·omega
   ·rintro sc' z ⟨G,S2',hoc',hex,j,hS2',hu'⟩
    (try simp only)
    rw[kX u (by omega)];exact hI3 (q+1,G,S2') _ _ ⟨rfl,u,hoc',hex,j,hS2',hu'⟩ (by show acc.length-(q+1)<acc.length-q;omega)
  ·have hql:q=acc.length:=by(try simp only at hgq);omega
   subst hql;rw[bP]at hoc hov;rw[hC]at hoc;rw[hM]at hov;have hscl:=hoc.len;rw[bS]at hscl;have hb:(ns B O T p= [])↔sc.len=0:=by rw[hscl];exact List.length_eq_zero_iff.symm
   refine Join.intro (fun t h'=>t=(decide (p=0)&&decide (sc.len>0))∧h'=h107) (fun R hR=>?_) ?_
   ·refine CondP.intro (fun e=>hR _ _ ⟨?_,rfl⟩) fun e=>hR _ _ ⟨?_,rfl⟩
    ·have e:p=0:=by simpa using e
     rw[decide_eq_true e,ko,decide_eq_decide];(try simp only);omega
    ·have e:p≠0:=by simpa using e
     rw[decide_eq_false e,Bool.false_and]
   rintro t h' ⟨rfl,e'⟩;rw[e'];have hslc:Sl sP 7 No h107 sc ((ns B O T p).map (BB B O T)):=hoc.sl fun _ _ _ h=>h
   refine CondP.intro (fun e=>?_) fun e=>?_
   ·have e:p=0∧sc.len>0:=by simpa using e
    refine⟨_,vc q1 0,_,vc q1 1,_,vc q1 2,_,vc q1 3,so,vc q1 4,?_⟩;refine cn (c:=sN O9) (vs:=sN (kind,hx kind x.k0,hx kind x.k1,hx kind x.mask,so)) q3 rfl fun h198 C H=>?_
    refine⟨_,vc C 0,_,vc C 1,_,vc C 2,_,vc C 3,so,vc C 4,?_⟩;refine hk0 e.1 (fun hc=>by have:=hb.1 hc;omega) h198 sc ((hoc.upd H fun y f e=>?_).sl fun b hb _ hw=>by have:=(L b hb).1;have hw:b<h.size:=hw;omega) (k0107.own H (by omega))
    have e:y=h3.size:=e;have:=(L y f).1;omega
   ·have e:p=0→sc.len=0:=fun hp=>by
     rw[decide_eq_true hp,ko]at e;have:=of_decide_eq_false e;omega
    refine⟨_,vc bv 0,_,vc bv 1,_,vc bv 2,_,vc bv 3,sv,vc bv 4,?_⟩;refine cn (c:=sN O9) (vs:=sN (kind,hx kind x.k0,hx kind x.k1,hx kind x.mask,sv)) q3 rfl fun h198 C H=>?_
    refine⟨_,vc C 0,_,vc C 1,_,vc C 2,_,vc C 3,sv,vc C 4,?_⟩;refine hk (fun hp=>hb.2 (e hp)) h198 (kind,hx kind x.k0,hx kind x.k1,hx kind x.mask,sv) sc ⟨sv,rfl,(hov.upd H fun y f e=>?_).sl fun y f _ hw=>?_,hov.cap⟩ ((hoc.upd H fun y f e=>?_).sl fun b hb _ hw=>by have:=(L b hb).1;have hw:b<h.size:=hw;omega) (k0107.own H (by omega))
    ·have e:y=h3.size:=e
     have:=(hS2 y f).1;omega
    ·have h1:=(hS2 y f).1
     have z:=hW y hw;omega
    ·have e:y=h3.size:=e
     have:=(L y f).1;omega
end Go.Proofs
