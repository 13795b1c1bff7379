/- A part of the proof that the named laws of this program answer true, whatever the input. -/
import Derived.Test.YtceikogjngfacaaGreatPart7
import Derived.Test.YtceikogjngfacaaGreatLaw0
import Derived.Sort.AssemblyPlain
import Derived.Test.YtceikogjngfacaaGreatPart6
import Derived.Test.YtceikogjngfacaaGreatPart8
open Bool renaming and_eq_true→aO,true_and→qD
open Go.IntKind renaming wrap→ac
open Go.Op renaming bytesLess→bH
open List renaming length_singleton→aI,mem_append→be,mem_singleton→aq,mem_cons→ar,getElem?_cons_zero→cJ,getElem?_cons_succ→fg,mem_of_getElem?→ao,mem_cons_of_mem→aA,pairwise_append→bW,getElem?_eq_getElem→ag,length_eq_zero_iff→ax,length_nil→aQ
open List.Pairwise renaming nil→dh
open Nat renaming lt_of_lt_of_le→aC,zero_le→aY,le_refl→ai
namespace Go.Proofs
open Go Go.Lift Go.Sort
abbrev LG(x:Int):List Value:= [.int .i64 x]
theorem US(x:Int):(LG x).length=1∧0<1:=⟨rfl,Nat.one_pos⟩
theorem SH{x:Int}{h:ae}{K:Bool→ae→Prop}(b:K false h):f5 219 [.int .i64 x] K h:=by
 refine xR x ?_;unfold rJ;rw[show(x !=x)=false by simp];exact b
theorem UH{x y:Int}{h:ae}{K:Bool→ae→Prop}(b:K (decide (x<y)) h):f5 178 [.int .i64 x,.int .i64 y] K h:=by
 refine eM (zr x y) .nil Tryz.func178 Tryz.call178 ?_;unfold zr;refine SH ?_;exact ay.2 b
theorem VF{M:Nat→Prop}{h:ae}{so:SliceV}{out:List Int}{x:Int}{K:SliceV→ae→Prop}(e:OwnS LG 1 3 M h so out)(hM:∀b,h.size≤b→M b)(i:out.length≤1000000000)
  (g:∀s' c,OwnS LG 1 3 M c s' (out++ [x])→Upd M h c→K s' c):
  ∃xs,SRow (hnew h [.int .i64 x] 3) (some (aJ h)) (1*1) xs∧AppP (some [.int .i64 0]) 1 8 3 so.a so.len so.cap 1 xs (hnew h [.int .i64 x] 3) K:=by
 have k:=Upd.hnew No h [.int .i64 x] 3;refine⟨_,((OwnS.one US (cO ..)).sl (W:=No) fun _ _ _ h=>h).srow,?_⟩
 refine AppP.own (ys:= [x]) (e.upd k fun _ _ h=>h) rfl rfl rfl rfl (by omega) (by simp only[aI];omega) (hM _ (by rw[eI];omega)) fun s' c d f=>?_
 exact g s' c d ((Upd.hnew M h _ _).tr f)
theorem IR{h:ae}{fv:Value}{N:Nat}{S:List Int→Prop}{Q:Nat→Prop}(hg:Gives PG fv LG N S Q h)(hN:N≤1000000000){K:SliceV→ae→Prop}
  (hk:∀s' d xs,S xs→OwnS LG 1 3 (fun b=>h.size≤b) d s' xs→Upd No h d→K s' d):fU 141 [.slice none 0 0,fv] K h:=by
 refine rG ⟨none,0,0⟩ fv ?_;unfold lO nU;have k0:=Upd.hnew No h [.slice none 0 0] 156;have b0:=cO h [.slice none 0 0] 156;have Y:(hnew h [.slice none 0 0] 156).size=h.size+1:=eI ..;have T:=hg.upd k0 fun _ _=>id
 simp only[At];generalize hnew h [.slice none 0 0] 156=h1 at T k0 b0 Y;refine⟨fun lo hlo n=>?_⟩
 obtain⟨f,first,cap,rfl,I⟩:=T.run
 refine⟨f,first,cap,rfl,?_⟩
 have k1:Upd No h1 ((h1.push (.deferred (some []))).push (lo .ready none)):=(Upd.push No _ _).tr (Upd.push No _ _);have l2:((h1.push (.deferred (some []))).push (lo .ready none))[h1.size+1]? =some (lo .ready none):=by
  have:=lD (h1.push (.deferred (some []))) (lo .ready none);rwa [Array.size_push]at this
 have l1:((h1.push (.deferred (some []))).push (lo .ready none))[h1.size]? =some (.deferred (some [])):=(Upd.push No _ _).get0 (lD h1 _);refine I (.func (.yield (h1.size+1)) #[] #[]) (fun m A d=>(∀b,A b→b<d.size∧h.size≤b)∧A h.size∧A h1.size∧A (h1.size+1)∧d[h1.size]? =some (.deferred (some []))∧d[h1.size+1]? =some (lo .ready none)∧
   ∃s:SliceV,d[h.size]? =some (.cells #[sv s] 156 (0,0))∧OwnS LG 1 3 (fun b=>A b∧h1.size+1<b) d s m∧m.length≤N)
  (fun b=>b=h.size∨b=h1.size∨b=h1.size+1) No _ _ ⟨fun _ _ _ L b c=>(L.1 b c).1,fun m A d h'' B L w U=>?_,fun m A d x K' L hlen hK=>?_⟩ ?_ k1 (fun _ _=>id) (fun b c hq=>?_) ?_
 ·obtain⟨G,h2,q,p,W,h6,s,h7,h8,h9⟩:=L
  exact⟨fun b c=>⟨aC (G b c).1 w.size,(G b c).2⟩,h2,q,p,w.get W (U _ q),w.get h6 (U _ p),s,w.get h7 (U _ h2),h8.upd w fun b c=>U b c.1,h9⟩
 ·obtain⟨C,i,y,g,hd,H,s,V,X,Z⟩:=L
  refine n x d K' H ⟨H,?_⟩;have z:Upd (· =h1.size+1) d (d.setIfInBounds (h1.size+1) (lo .busy none)):=Upd.set _ _ rfl
  have lb:=dU (o:=lo .busy none) H;have sb:=z.size;generalize d.setIfInBounds (h1.size+1) (lo .busy none)=h2 at z lb sb;refine⟨s,by rw[dA,bO (z.get V (by omega))];rfl,?_⟩
  refine VF (M:=fun b=>(A b∨h2.size≤b)∧h1.size+1<b) ((X.upd z fun b c=>by omega).more fun b c=>⟨.inl c.1,c.2⟩) (fun b c=>⟨.inr c,by have:=bc lb;omega⟩) (by omega) fun s' q ho3 j=>?_
  have u:q[h.size]? =some (.cells #[sv s] 156 (0,0)):=j.get (z.get V (by omega)) (by omega);refine⟨by rw[dA];exact fz u (by simp),?_⟩;have D:Upd (· =h.size) q (hset q (aJ h) (.slice s'.a s'.len s'.cap)):=Upd.hset _ _ rfl
  have E:(hset q (aJ h) (.slice s'.a s'.len s'.cap))[h.size]? =some (.cells #[sv s'] 156 (0,0)):=by
   rw[dA,ju u,dU u];rfl
  generalize hset q (aJ h) (.slice s'.a s'.len s'.cap)=p at D E;have O:p[h1.size+1]? =some (lo .busy none):=D.get (j.get lb (by omega)) (by omega);refine⟨O,?_⟩;have e:Upd (· =h1.size+1) p (p.setIfInBounds (h1.size+1) (lo .ready none)):=Upd.set _ _ rfl
  have hl5:=dU (o:=lo .ready none) O;have F:Upd A d p:=((z.mono (M':=A) fun b c=>.inl (c▸g)).trans j fun b c=>c.1.imp id fun h=>by omega).trans D fun b c=>.inl (c▸i)
  have z3:=j.size;have z4:=D.size;have z5:=e.size;refine hK _ (fun b=>(A b∨h2.size≤b)∧b<p.size) ⟨fun b c=>⟨aC c.2 z5,c.1.elim (fun h=>(C b h).2) fun h=>by have:=(C _ i).1;omega⟩,⟨.inl i,by have:=(C _ i).1;omega⟩,⟨.inl y,by have:=(C _ y).1;omega⟩,⟨.inl g,by have:=(C _ g).1;omega⟩,
   e.get (D.get (j.get (z.get hd (by omega)) (by omega)) (by omega)) (by omega),hl5,s',e.get E (by omega),?_,by simp;omega⟩ (F.trans e fun b c=>.inl (c▸g)) fun b c=>c.1.imp id fun h=>by omega
  exact(((ho3.upd D fun b c=>by omega).within).more fun b c=>⟨⟨c.1.1,c.2⟩,c.1.2⟩).upd e fun b c=>by omega
 ·refine⟨fun b c=>?_,.inl rfl,.inr (.inl rfl),.inr (.inr rfl),l1,l2,⟨none,0,0⟩,k1.get0 b0,OwnS.nil US,aY _⟩
  have:=bc l2;rcases c with rfl|rfl|rfl<;>omega
 ·have:=hg.lt b hq
  rcases c with rfl|rfl|rfl<;>omega
 ·rintro xs A' d hS ⟨C,i,y,g,hd,H,s,V,X,Z⟩ w hA'
  refine⟨.ready,none,by decide,H,?_⟩
  have e:Upd (· =h1.size+1) d (d.setIfInBounds (h1.size+1) (lo .exhausted none)):=Upd.set _ _ rfl
  show∃v:SliceV,bh (d.setIfInBounds (h1.size+1) (lo .exhausted none)) (aJ h)=some (.slice v.a v.len v.cap)∧_
  have P:=e.get hd (show ¬h1.size=h1.size+1 by omega)
  have J:=e.get V (show ¬h.size=h1.size+1 by omega)
  have R:=X.upd e fun b c=>by omega
  generalize d.setIfInBounds (h1.size+1) (lo .exhausted none)=W at e P J R;refine⟨s,by rw[dA,bO J];rfl,P,?_⟩
  have k6:Upd (· =h1.size) W (W.setIfInBounds h1.size (.deferred none)):=Upd.set _ _ rfl
  refine hk s _ xs hS ((R.upd k6 fun b c=>by omega).more fun b c=>(C b c.1).2) ?_
  refine(((k0.tr k1).trans w fun b c=>?_).trans e fun b c=>.inr (by omega)).trans k6 fun b c=>.inr (by omega)
  rcases c with rfl|rfl|rfl<;>(right;omega)
theorem N1{h:ae}{c:Value}{N:Nat}{S:List Int→Prop}{Q:Nat→Prop}(f:Gives PG c LG N S Q h)(d:N≤1000000000){K:SliceV→ae→Prop}
  (e:∀s' h' xs,S xs→OwnS LG 1 3 (fun b=>h.size≤b) h' s' xs→Upd No h h'→K s' h'):fU 111 [c] K h:=by
 refine eM (qY c) .nil Tryz.func111 Tryz.call111 ?_;unfold qY;exact IR f d e
end Go.Proofs
namespace Go.Proofs
open Go Go.Lift Go.Sort
section
theorem zY(l:List Int):l.flatMap LG=l.map fun x=>Value.int .i64 x:=by
 induction l with
 |nil=>rfl
 |cons x l ih=>rw[List.flatMap_cons,ih];rfl
structure SAJ(s:SliceV)(b:Nat)(rest:List Value)(h:ae)(d:Array Int):Prop where
 a:s.a=some ⟨b,0,none⟩
 len:s.len=d.size
 blk:h[b]? =some (.cells (d.toList.flatMap LG++rest).toArray 3 (0,0))
 small:d.size≤1000000000
variable {s:SliceV} {b:Nat} {rest:List Value} {h:ae} {d:Array Int}
theorem SAJ.get(c:SAJ s b rest h d){i:Nat}(hi:i<d.size):bh h (adr ⟨b,0,none⟩ (((i:Int)).toNat*1))=some (.int .i64 d[i]!):=by
 rw[cM,bO c.blk,List.getElem?_toArray,zY,List.getElem?_append_left (by simp;omega)];simp[hi]
theorem SAJ.upd{M:Nat→Prop}{e:ae}(c:SAJ s b rest h d)(k:Upd M h e)(f:¬M b):SAJ s b rest e d:=⟨c.a,c.len,k.get c.blk f,c.small⟩
theorem SAJ.put(c:SAJ s b rest h d){i:Nat}(hi:i<d.size)(x:Int):Wr h (adr ⟨b,0,none⟩ (((i:Int)).toNat*1))∧SAJ s b rest (hset h (adr ⟨b,0,none⟩ (((i:Int)).toNat*1)) (.int .i64 x)) (d.setIfInBounds i x)∧
  Upd (· =b) h (hset h (adr ⟨b,0,none⟩ (((i:Int)).toNat*1)) (.int .i64 x)):=by
 have e:adr ⟨b,0,none⟩ (((i:Int)).toNat*1)=⟨b,i,none⟩:=by rw[cM];simp
 rw[e];refine⟨fz c.blk (by rw[zY];simp;omega),⟨c.a,by rw[c.len];simp,?_,by simpa using c.small⟩,Upd.hset _ _ rfl⟩
 rw[ju c.blk,dU c.blk,zY,zY,Array.toList_setIfInBounds];congr 2
 rw[List.setIfInBounds_toArray,List.set_append_left _ _ (by simp;omega),List.map_set]
theorem SAJ.ld1(c:SAJ s b rest h d){t:Int}{i:Nat}(e:t=(i:Int))(hi:i<d.size){R:Int→Prop}(f:R d[i]!):
  ((0:Int)≤t∧t<((s.len:Nat):Int))∧∃a:Addr,s.a=some a∧∃v:Int,bh h (adr a (t.toNat*1))=some (.int .i64 v)∧R v:=by
 subst e;exact⟨by rw[c.len];omega,_,c.a,_,c.get hi,f⟩
theorem SAJ.st(c:SAJ s b rest h d){t x:Int}{i:Nat}(e:t=(i:Int))(hi:i<d.size){R:ae→Prop}(j:∀h',SAJ s b rest h' (d.setIfInBounds i x)→Upd (· =b) h h'→R h'):
  ((0:Int)≤t∧t<((s.len:Nat):Int))∧∃a:Addr,s.a=some a∧(Wr h (adr a (t.toNat*1))∧At (hset h (adr a (t.toNat*1)) (.int .i64 x)) R):=by
 subst e;obtain⟨g,h2,f⟩:=c.put hi x;exact⟨by rw[c.len];omega,_,c.a,g,j _ h2 f⟩
@[simp] theorem Ze(d:Array Int)(i j:Nat):(swp d i j).size=d.size:=by simp[swp]
theorem SAJ.swap(f:SAJ s b rest h d){ti c:Int}{i j:Nat}(o:ti=(i:Int))(p:c=(j:Int))(hi:i<d.size)(n:j<d.size){R:ae→Prop}(u:∀h',SAJ s b rest h' (swp d i j)→Upd (· =b) h h'→R h'):
  ((0:Int)≤c∧c<((s.len:Nat):Int))∧∃a:Addr,s.a=some a∧∃v:Int,bh h (adr a (c.toNat*1))=some (.int .i64 v)∧
   (((0:Int)≤ti∧ti<((s.len:Nat):Int))∧∃a':Addr,s.a=some a'∧∃v':Int,bh h (adr a' (ti.toNat*1))=some (.int .i64 v')∧
    (((0:Int)≤ti∧ti<((s.len:Nat):Int))∧∃a'':Addr,s.a=some a''∧(Wr h (adr a'' (ti.toNat*1))∧At (hset h (adr a'' (ti.toNat*1)) (.int .i64 v)) (fun e=>
     (((0:Int)≤c∧c<((s.len:Nat):Int))∧∃a3:Addr,s.a=some a3∧(Wr e (adr a3 (c.toNat*1))∧At (hset e (adr a3 (c.toNat*1)) (.int .i64 v')) R)))))):=by
 refine f.ld1 p n (f.ld1 o hi (f.st o hi fun e g k1=>g.st p (by simpa using n) fun h2 m q=>u h2 m (k1.tr q)))
theorem SAJ.less(e:SAJ s b rest h d){ti c:Int}{i j:Nat}(m:ti=(i:Int))(n:c=(j:Int))(hi:i<d.size)(f:j<d.size){R:Bool→ae→Prop}(g:R (ltInt d[i]! d[j]!) h):
  ((0:Int)≤ti∧ti<((s.len:Nat):Int))∧∃a:Addr,s.a=some a∧∃v:Int,bh h (adr a (ti.toNat*1))=some (.int .i64 v)∧
   (((0:Int)≤c∧c<((s.len:Nat):Int))∧∃a':Addr,s.a=some a'∧∃v':Int,bh h (adr a' (c.toNat*1))=some (.int .i64 v')∧f5 178 [.int .i64 v,.int .i64 v'] R h):=
 e.ld1 m hi (e.ld1 n f (UH g))
end
section
variable {s:SliceV} {b:Nat} {rest:List Value} {h:ae} {d:Array Int}
@[simp] theorem TU(lt:Int→Int→Bool)(hi first root:Nat)(d:Array Int):(siftDown lt hi first root d).size=d.size:=by
 fun_induction siftDown lt hi first root d<;>simp_all
@[simp] theorem Ft(lt:Int→Int→Bool)(hi first:Nat):∀(k:Nat) (d:Array Int),(heapBuild lt hi first k d).size=d.size
 |0,d=>rfl
 |k+1,d=>by rw[heapBuild,Ft lt hi first k];simp
theorem WE{root hi first:Nat}(G:SAJ s b rest h d)(U:first+hi≤d.size){K:Unit→ae→Prop}(E:∀f,SAJ s b rest f (siftDown ltInt hi first root d)→Upd (· =b) h f→K () f)(P:root≤1000000000):
  eJ 214 [.slice s.a s.len s.cap,.int .i64 root,.int .i64 hi,.int .i64 first] K h:=by
 refine eM (lI s root hi first) rM Tryz.func214 Tryz.call214 ?_
 dsimp only[lI,OI,FG,cg,ic,ji,Tl,dy,Tk,Tj];have O:=G.small;refine LoopP.ghost (fun(g:Nat×Array Int) (t:Int) f=>t=(g.1:Int)∧SAJ s b rest f g.2∧g.2.size=d.size∧siftDown ltInt hi first g.1 g.2=siftDown ltInt hi first root d∧Upd (· =b) h f∧g.1≤1000000000) (fun g=>hi-g.1) (root,d)
  ⟨rfl,G,rfl,rfl,Upd.refl _ _,P⟩ ?_
 rintro I ⟨i,m⟩ t J ⟨H,e,y,p,q,B⟩ Q;(try simp only at H e y p B)
 subst H;have S:ac .i64 (ac .i64 (2*(i:Int))+1)=((2*i+1:Nat):Int):=by rw[dL (x:=2*(i:Int)) (by omega),dL (by omega)];omega
 have F:ac .i64 (((2*i+1:Nat):Int)+1)=((2*i+2:Nat):Int):=by rw[dL (by omega)];omega
 rw[S];refine ak (fun L=>?_) fun z=>?_
 ·refine E _ ?_ q
  rw[←p,siftDown,dif_pos (by omega)];exact e
 ·have z:2*i+1<hi:=by omega
  refine Join.intro (fun t f=>f=J∧∃c:Nat,t=(c:Int)∧c=if 2*i+2<hi∧ltInt m[first+(2*i+1)]! m[first+(2*i+1)+1]! =true then 2*i+2 else 2*i+1) (fun R D=>?_) ?_
  ·refine Join.intro (fun t f=>f=J∧(t=true↔2*i+2<hi∧ltInt m[first+(2*i+1)]! m[first+(2*i+1)+1]! =true)) (fun R2 u=>?_) ?_
   ·show CondP (decide (ac .i64 (((2*i+1:Nat):Int)+1)<(hi:Int))) _ _
    rw[F];refine ak (fun o=>?_) fun o=>u _ _ ⟨rfl,by simp;omega⟩
    show(((0:Int)≤ac .i64 ((first:Int)+((2*i+1:Nat):Int))∧_)∧_)
    refine e.less (i:=first+(2*i+1)) (j:=first+(2*i+1)+1) (by rw[dL (by omega)];omega) (by rw[dL (x:=(first:Int)+_) (by omega),dL (by omega)];omega) (by omega) (by omega) (u _ _ ⟨rfl,?_⟩)
    simp;omega
   ·rintro t f ⟨rfl,v⟩
    refine CondP.intro (fun o=>?_) fun o=>?_
    ·show R (ac .i64 (((2*i+1:Nat):Int)+1)) _
     rw[F];exact D _ _ ⟨rfl,_,rfl,by rw[if_pos (v.1 o)]⟩
    ·exact D _ _ ⟨rfl,_,rfl,by rw[if_neg fun N=>by rw[v.2 N]at o;cases o]⟩
  ·rintro t f ⟨rfl,c,rfl,hc⟩
   have T:c<hi∧i<c:=by rw[hc];split<;>omega
   refine e.less (i:=first+i) (j:=first+c) (by rw[dL (by omega)];omega) (by rw[dL (by omega)];omega) (by omega) (by omega) ?_
   have n:siftDown ltInt hi first i m=if !ltInt m[first+i]! m[first+c]! then m else siftDown ltInt hi first c (swp m (first+i) (first+c)):=by
    rw[siftDown,dif_neg (by omega)];by_cases w:2*i+2<hi∧ltInt m[first+(2*i+1)]! m[first+(2*i+1)+1]! =true
    ·rw[if_pos (by simp only[aO,decide_eq_true_iff];exact w),dif_pos w.1]
     rw[if_pos w]at hc;rw[hc]
    ·rw[if_neg (by simp only[aO,decide_eq_true_iff];exact w)]
     rw[if_neg w]at hc;rw[hc]
   refine CondP.intro (fun o=>?_) fun o=>?_
   ·refine E _ ?_ q
    rw[←p,n,if_pos o];exact e
   ·refine e.swap (i:=first+i) (j:=first+c) (by rw[dL (by omega)];omega) (by rw[dL (by omega)];omega) (by omega) (by omega) fun V C A=>?_
    refine Q (c,swp m (first+i) (first+c)) _ _ ⟨rfl,C,by simp[y],?_,q.tr A,by(try simp only);omega⟩ (by(try simp only);omega)
    rw[←p,n,if_neg (by rw[o];simp)]
end
section
variable {s:SliceV} {b:Nat} {rest:List Value} {h:ae} {d:Array Int}
end
section
variable {s:SliceV} {b:Nat} {rest:List Value} {h:ae} {d:Array Int}
@[simp] theorem Fl(lt:Int→Int→Bool):∀(j:Nat) (d:Array Int),(shiftDown lt j d).size=d.size
 |0,d=>rfl
 |j+1,d=>by rw[shiftDown];split;rfl;rw[Fl lt j];simp
@[simp] theorem V3(lt:Int→Int→Bool)(e j:Nat)(d:Array Int):(shiftUp lt e j d).size=d.size:=by
 fun_induction shiftUp lt e j d<;>simp_all
theorem Uq{a e:Nat}(hs:SAJ s b rest h d)(ha:a<e)(he:e≤d.size){K:Bool→ae→Prop}(Q:∀m,SAJ s b rest m (partialInsertionSort ltInt d a e).1→Upd (· =b) h m→K (partialInsertionSort ltInt d a e).2 m):
  f5 177 [.slice s.a s.len s.cap,.int .i64 a,.int .i64 e] K h:=by
 refine eM (gI s a e) l8 Tryz.func177 Tryz.call177 ?_;dsimp only[gI,Tl,dy,ic,ji,FG,cg,XA,OI];have hsm:=hs.small;refine LoopP.ghost (fun(g:Nat×Nat×Array Int) (t:Int×Int) m=>t.1=(g.2.1:Int)∧t.2=5-(g.1:Int)∧SAJ s b rest m g.2.2∧g.2.2.size=d.size∧partialIns ltInt a e g.1 g.2.1 g.2.2=partialInsertionSort ltInt d a e∧Upd (· =b) h m∧g.1≤5∧a<g.2.1∧g.2.1≤e) (fun g=>g.1) (5,a+1,d)
  ⟨by(try simp only);rw[dL (by omega)];rfl,by(try simp only);omega,hs,rfl,rfl,Upd.refl _ _,by simp,by simp,by(try simp only);omega⟩ ?_
 rintro I ⟨st,i0,N⟩ ⟨t1,t2⟩ h1 ⟨Y,ht2,u,hz1,B,x,hst,U,hie⟩ hI;(try simp only at Y ht2 u hz1 B hst U hie)
 subst Y ht2;refine ak (fun hlt=>?_) fun hge=>?_
 ·obtain⟨st,rfl⟩:∃k,st=k+1:=⟨st-1,by have:5-(st:Int)<5:=hlt;omega⟩
  refine Join.intro (fun t m=>∃S V,t=(S:Nat)∧SAJ s b rest m V∧V.size=d.size∧partialIns ltInt a e st S V=partialInsertionSort ltInt d a e∧Upd (· =b) h m∧a<S∧S≤e) (fun R hR=>?_) ?_
  ·refine LoopP.ghost (fun(i:Nat) (t:Int) m=>t=(i:Int)∧m=h1∧scanSorted ltInt N e i=scanSorted ltInt N e i0∧a<i∧i≤e) (fun i=>e-i) i0 ⟨rfl,rfl,rfl,U,hie⟩ ?_
   rintro I2 i t m ⟨rfl,rfl,hsc,o,p⟩ hI2;refine Join.intro (fun c W=>W=m∧(c=true↔i<e∧ltInt N[i]! N[i-1]! =false)) (fun R2 hR2=>?_) ?_
   ·refine ak (fun hle=>?_) fun hgt=>hR2 _ _ ⟨rfl,by simp;omega⟩
    refine u.less (i:=i) (j:=i-1) rfl (by rw[dL (by omega)];omega) (by omega) (by omega) (hR2 _ _ ⟨rfl,by simp;omega⟩)
   ·rintro c W ⟨rfl,hc⟩
    refine CondP.intro (fun h2=>?_) fun h2=>?_
    ·have hh:=hc.1 h2
     refine hI2 (i+1) _ _ ⟨by rw[dL (by omega)];rfl,rfl,?_,by omega,by omega⟩ (by omega)
     rw[←hsc];conv=>rhs;rw[scanSorted]
     rw[if_pos (by simp[hh])]
    ·have hsi:scanSorted ltInt N e i=i:=by
      rw[scanSorted,if_neg];intro hh;simp only[aO,decide_eq_true_iff,Bool.not_eq_eq_eq_not,Bool.not_true]at hh;rw[hc.2 hh]at h2;cases h2
     have f:=B;rw[partialIns]at f;simp only[←hsc,hsi]at f;refine CondP.intro (fun J=>?_) fun J=>?_
     ·have J:i=e:=by have:(i:Int)=e:=(by simpa using J);omega
      rw[if_pos J]at f;rw[←f]at Q;exact Q _ u x
     ·have J:i≠e:=fun e'=>by subst e';simp at J
      rw[if_neg J]at f;have we:ac .i64 ((e:Int)-(a:Int))=((e-a:Nat):Int):=by rw[dL (by omega)];omega
      show CondP (decide (ac .i64 ((e:Int)-(a:Int))<50)) _ _
      rw[we];refine ak (fun h4=>?_) fun h4=>?_
      ·rw[if_pos (by omega)]at f
       rw[←f]at Q;exact Q _ u x
      ·rw[if_neg (by omega)]at f
       have hi1:1≤i:=by omega
       refine u.swap (i:=i) (j:=i-1) rfl (by rw[dL (by omega)];omega) (by omega) (by omega) fun h5 E hu5=>?_
       have C:(swp N i (i-1)).size=d.size:=by simp[hz1]
       generalize swp N i (i-1)=d5 at E C f;refine Join.intro (fun _ m=>SAJ s b rest m (if i-a≥2 then shiftDown ltInt (i-1) d5 else d5)∧Upd (· =b) h m) (fun R3 w=>?_) ?_
       ·have wi:ac .i64 ((i:Int)-(a:Int))=((i-a:Nat):Int):=by rw[dL (by omega)];omega
        show CondP (decide (ac .i64 ((i:Int)-(a:Int))≥2)) _ _
        rw[wi];refine ak (fun h6=>?_) fun h6=>?_
        ·rw[if_pos (by omega)]at w
         refine LoopP.ghost (fun(g:Nat×Array Int) (t:Int) m=>t=(g.1:Int)∧SAJ s b rest m g.2∧g.2.size=d.size∧shiftDown ltInt g.1 g.2=shiftDown ltInt (i-1) d5∧Upd (· =b) h m∧g.1<e) (fun g=>g.1) (i-1,d5)
          ⟨by rw[dL (by omega)];(try simp only);omega,E,C,rfl,x.tr hu5,by(try simp only);omega⟩ ?_
         rintro I4 ⟨j,d6⟩ t h7 ⟨X,v,hz7,q,L,F⟩ G;(try simp only at X v hz7 q F)
         subst X;refine ak (fun h8=>?_) fun h8=>?_
         ·obtain⟨j,rfl⟩:∃k,j=k+1:=⟨j-1,by omega⟩
          have P:ac .i64 (((j+1:Nat):Int)-1)=(j:Int):=by rw[dL (by omega)];omega
          rw[shiftDown]at q;refine v.less (i:=j+1) (j:=j) rfl P (by omega) (by omega) (CondP.intro (fun T=>?_) fun T=>?_)
          ·rw[if_pos T]at q
           exact w _ _ ⟨by rw[←q];exact v,L⟩
          ·rw[if_neg (by rw[T];simp)]at q
           refine v.swap (i:=j+1) (j:=j) rfl P (by omega) (by omega) fun A hs10 Z=>?_
           exact G (j,swp d6 (j+1) j) _ _ ⟨P,hs10,by simp[hz7],q,L.tr Z,by(try simp only);omega⟩ (by simp)
         ·have:j=0:=by omega
          subst this;exact w _ _ ⟨by rw[←q];exact v,L⟩
        ·rw[if_neg (by omega)]at w
         exact w _ _ ⟨E,x.tr hu5⟩
       ·rintro _ h6 ⟨O,hu6⟩
        have D:(if i-a≥2 then shiftDown ltInt (i-1) d5 else d5).size=d.size:=by split<;>simp[C]
        generalize (if i-a≥2 then shiftDown ltInt (i-1) d5 else d5)=d6 at O D f
        have wi:ac .i64 ((e:Int)-(i:Int))=((e-i:Nat):Int):=by rw[dL (by omega)];omega
        show CondP (decide (ac .i64 ((e:Int)-(i:Int))≥2)) _ _
        rw[wi];refine ak (fun h7=>?_) fun h7=>?_
        ·rw[if_pos (by omega)]at f
         refine LoopP.ghost (fun(g:Nat×Array Int) (t:Int) m=>t=(g.1:Int)∧SAJ s b rest m g.2∧g.2.size=d.size∧shiftUp ltInt e g.1 g.2=shiftUp ltInt e (i+1) d6∧Upd (· =b) h m∧1≤g.1∧g.1≤e) (fun g=>e-g.1) (i+1,d6)
          ⟨by rw[dL (by omega)];rfl,O,D,rfl,hu6,by simp,by(try simp only);omega⟩ ?_
         rintro I4 ⟨j,d7⟩ t h8 ⟨X,y,z,n,H,hj1,F⟩ G;(try simp only at X y z n hj1 F)
         subst X;refine ak (fun T=>?_) fun T=>?_
         ·have P:ac .i64 ((j:Int)-1)=((j-1:Nat):Int):=by rw[dL (by omega)];omega
          rw[shiftUp,if_pos (by omega)]at n;refine y.less (i:=j) (j:=j-1) rfl P (by omega) (by omega) (CondP.intro (fun A=>?_) fun A=>?_)
          ·rw[if_pos A]at n
           exact hR _ _ ⟨i,d7,rfl,y,z,by rw[n];exact f,H,o,p⟩
          ·rw[if_neg (by rw[A];simp)]at n
           refine y.swap (i:=j) (j:=j-1) rfl P (by omega) (by omega) fun h11 hs11 hu11=>?_
           exact G (j+1,swp d7 j (j-1)) _ _ ⟨by rw[dL (by omega)];rfl,hs11,by simp[z],n,H.tr hu11,by simp,by(try simp only);omega⟩ (by(try simp only);omega)
         ·rw[shiftUp,if_neg (by omega)]at n
          exact hR _ _ ⟨i,d7,rfl,y,z,by rw[n];exact f,H,o,p⟩
        ·rw[if_neg (by omega)]at f
         exact hR _ _ ⟨i,d6,rfl,O,D,f,hu6,o,p⟩
  ·rintro t m ⟨S,V,rfl,hs2,hz2,f,hu2,o,p⟩
   exact hI (st,S,V) _ _ ⟨rfl,by(try simp only);rw[dL (by omega)];omega,hs2,hz2,f,hu2,by(try simp only);omega,o,p⟩ (by simp)
 ·have:st=0:=by have:¬5-(st:Int)<5:=hge;omega
  subst this;rw[partialIns]at B;rw[←B]at Q;exact Q _ u x
end
section
variable {s:SliceV} {b:Nat} {rest:List Value} {h:ae} {d:Array Int}
end
section
variable {s:SliceV} {b:Nat} {rest:List Value} {h:ae} {d:Array Int}
end
end Go.Proofs
namespace Go.Proofs
open Go Go.Lift
section
variable {h:ae} {n m:ByteArray} {id p:Int} {s:SliceV} {t:Tr}
end
theorem EJ{n:ByteArray}(v:n.size≤1000000){h:ae}{K:Bool→ae→Prop}(f:K (jY n) h):f5 53 [.string n] K h:=by
 refine eM (E8 n) Ou Tryz.func53 Tryz.call53 ?_;dsimp only[E8,Bs];have j:n.data.toList.length=n.size:=Array.length_toList;refine LoopP.ghost (fun(i:Nat) (t:Int) m=>t=(i:Int)∧m=h∧i≤n.size∧∀b∈n.data.toList.take i,wy b=true) (fun i=>n.size-i) 0 ⟨rfl,rfl,aY _,by simp⟩ ?_
 rintro I i t m ⟨rfl,rfl,hi,o⟩ s;refine ak (fun d=>?_) fun u=>?_
 ·have d:i<n.size:=by omega
  have c:i<n.data.toList.length:=by omega
  have p:n[(i:Int).toNat]? =some n.data.toList[i]:=by
   rw[Int.toNat_natCast,getElem?_pos n i d];rfl
  refine Join.intro (fun t h2=>t=(!wy n.data.toList[i])∧h2=m) (fun R q=>⟨_,by omega,p,ak (fun e=>q _ _ ⟨?_,rfl⟩) fun e=>⟨_,by omega,p,q _ _ ⟨?_,rfl⟩⟩⟩) ?_
  ·unfold wy;rw[decide_eq_false (by omega:¬33≤n.data.toList[i].toNat)];rfl
  ·unfold wy;rw[decide_eq_true (by omega:33≤n.data.toList[i].toNat),qD,←decide_not,decide_eq_decide];omega
  ·rintro _ h2 ⟨rfl,rfl⟩
   refine CondP.intro (fun e=>?_) fun e=>?_
   ·rw[show jY n=false from ?_]at f
    ·exact f
    ·unfold jY
     rw[show n.data.toList.all wy=false from List.all_eq_false.2 ⟨_,List.getElem_mem c,by simpa using e⟩,Bool.and_false]
   ·rw[cX (n:=n.size) d (by omega)]
    refine s (i+1) _ _ ⟨rfl,rfl,by omega,?_⟩ (by omega)
    rw[List.take_succ_eq_append_getElem c];intro b g;rcases be.1 g with g|g
    ·exact o b g
    ·rw[aq.1 g];simpa using e
 ·have:i=n.size:=by omega
  subst this;rw[←j,List.take_length]at o;refine ak (fun e=>?_) fun e=>?_
  ·rw[show jY n=decide ((n.size:Int)<33)from by unfold jY;rw[List.all_eq_true.2 o,decide_eq_true (by omega:1≤n.size),qD,Bool.and_true,decide_eq_decide];omega]at f
   exact f
  ·rw[show jY n=false from by unfold jY;rw[decide_eq_false (by omega:¬1≤n.size)];rfl]at f
   exact f
end Go.Proofs
namespace Go.Proofs
open Go Go.Lift
theorem UL{h:ae}{r:Nat}{m:List (Int×Option Addr)}(hm:MapAt KI pA h r m){K:Value→ae→Prop}
  (o:∀fv h',Gives PG fv LG m.length (fun xs=>xs.Perm (m.map (·.1))) (fun b=>b=r∨b=h.size) h'→Upd No h h'→K fv h'):IK 71 [.map (some r)] K h:=by
 refine eM (fT (some r)) .nil Tryz.func71 Tryz.call71 ?_;unfold fT;have k:=Upd.hnew No h [.map (some r)] 119;refine o _ _ ?_ k;refine G7 (hm.upd k id) (bx:=h.size) (cO ..) fun y s K p f=>jQ y ⟨h.size,0,none⟩ ?_
 dsimp only[d9,Ti];obtain⟨c,⟨es,d⟩,f⟩:=f;refine⟨some r,by rw[bO p];rfl,c,.inr ⟨r,es,rfl,d⟩,?_⟩
 refine(f _ rfl).imp fun I t h n=>n.imp id fun e h2 ⟨x,v,i,j,g,q⟩=>⟨rfl,e,x,v,i,j,g,q⟩
end Go.Proofs
namespace Go.Proofs
open Go Go.Lift
section
variable {Ss:List Sp} {h h':ae} {M:Nat→Prop} {s s':Sp} {i:Nat}
theorem Own.cons(o:Own Ss h)(q:s'.Q h)(i:∀y,s'.T y→y<h.size∧¬AL Ss y):Own (s'::Ss) h:=by
 refine⟨fun a c=>?_,fun a c y f=>?_,fun p j a b c e g y f d=>?_⟩
 ·rcases ar.1 c with rfl|c
  ·exact q
  ·exact o.q a c
 ·rcases ar.1 c with rfl|c
  ·exact(i y f).1
  ·exact o.lt a c y f
 ·cases p with
  |zero=>
   cases j with
   |zero=>exact g rfl
   |succ j=>
    simp only[cJ,fg]at c e;cases c;exact(i y f).2 ⟨b,ao e,d⟩
  |succ p=>
   cases j with
   |zero=>
    simp only[cJ,fg]at c e;cases e;exact(i y d).2 ⟨a,ao c,f⟩
   |succ j=>
    simp only[fg]at c e;exact o.pd p j a b c e (by omega) y f d
theorem Own.tail(o:Own (s'::Ss) h):Own Ss h:=
 ⟨fun a c=>o.q a (aA _ c),fun a c=>o.lt a (aA _ c),fun p j a b c e d=>o.pd (p+1) (j+1) a b (by simpa using c) (by simpa using e) (by omega)⟩
theorem Own.al(o:Own Ss h){y:Nat}(b:AL Ss y):y<h.size:=by obtain⟨a,c,b⟩:=b;exact o.lt a c y b
theorem qw{y:Nat}(b:AL (s'::Ss) y):s'.T y∨AL Ss y:=by
 obtain⟨a,c,b⟩:=b;rcases ar.1 c with rfl|c
 ·exact .inl b
 ·exact .inr ⟨a,c,b⟩
end
structure SwAt(z h:ae)(sp vp sm pb cb:Nat)(s:VS)(last:Int)(ids:List Int)(es:List Se)(Ss:List Sp):Prop where
 g:SsAt h sp vp sm pb cb s last ids es
 o:Own Ss h
 ap:∀y,AL Ss y→sp<y∧∀q∈es,q.eb≠y∧q.tb≠y
 k:Upd No z h
 lo:z.size≤cb
section
variable {z h h':ae} {sp vp sm pb cb:Nat} {s:VS} {last:Int} {ids:List Int} {es:List Se} {Ss:List Sp} {M:Nat→Prop} {a s':Sp} {i:Nat}
theorem SwAt.up0(w:SwAt z h sp vp sm pb cb s last ids es Ss)(k:Upd No h h'):SwAt z h' sp vp sm pb cb s last ids es Ss:=⟨w.g.up0 k,w.o.away k fun _ _ h=>h,w.ap,w.k.tr k,w.lo⟩
theorem SwAt.cons(w:SwAt z h sp vp sm pb cb s last ids es Ss)(q:s'.Q h)(c:∀y,s'.T y→y<h.size∧sp<y∧¬AL Ss y∧∀q∈es,q.eb≠y∧q.tb≠y):SwAt z h sp vp sm pb cb s last ids es (s'::Ss):=
 ⟨w.g,w.o.cons q fun y b=>⟨(c y b).1,(c y b).2.2.1⟩,fun y b=>(qw b).elim (fun b=>⟨(c y b).2.1,(c y b).2.2.2⟩) (w.ap y),w.k,w.lo⟩
theorem SwAt.new(w:SwAt z h sp vp sm pb cb s last ids es Ss)(k:Upd No h h')(q:s'.Q h')(d:∀y,s'.T y→h.size≤y∧y<h'.size):SwAt z h' sp vp sm pb cb s last ids es (s'::Ss):=by
 have g:=bc w.g.b;refine(w.up0 k).cons q fun y f=>?_
 have t:=d y f;exact⟨t.2,by omega,fun c=>by have:=w.o.al c;omega,fun e b=>by have:=w.g.lt e b;omega⟩
theorem SwAt.tail(w:SwAt z h sp vp sm pb cb s last ids es (s'::Ss)):SwAt z h sp vp sm pb cb s last ids es Ss:=
 ⟨w.g,w.o.tail,fun y ⟨a,b,c⟩=>w.ap y ⟨a,aA _ b,c⟩,w.k,w.lo⟩
theorem SwAt.off(w:SwAt z h sp vp sm pb cb s last ids es Ss){b:Nat}(u:Upd (· =b) h h')(d:sp<b)(c:∀e∈es,e.eb≠b∧e.tb≠b)(f:¬AL Ss b):SwAt z h' sp vp sm pb cb s last ids es Ss:=
 ⟨w.g.own u d c,w.o.away u fun y g e=>f (by have e:y=b:=e;rw[←e];exact g),w.ap,w.k.own u (by have i:=w.g.o;have lo:=w.lo;omega),w.lo⟩
end
end Go.Proofs
namespace Go.Proofs
open Go Go.Lift
theorem N6(l:List UInt8):(VB l).size=l.length:=by simp[VB,ByteArray.size]
theorem tw(b:Nat)(c:Int)(s:dV):(cI b c s).1.size≤b:=by
 unfold cI;split
 ·split
  ·exact aY _
  ·split
   ·exact aY _
   ·split
    ·exact aY _
    ·rw[N6,List.length_take];omega
 ·exact aY _
theorem JO{c:Nat}{b:Int}{s:dV}(d:b≠0)(h:(cI c b s).2.2=0):(cI c b s).2.1.length+1≤s.1.length:=by
 unfold cI at h⊢;split
 ·rename_i h0
  rw[if_pos h0]at h;cases e:sE 0 0 s.1 with
  |none=>rw[e]at h;exact absurd (show(9:Int)=0 from h) (by decide)
  |some p=>
   obtain⟨n,k⟩:=p;rw[e]at h;simp only at h⊢;have:=xk s.1 0 0 (by omega) (by simp) e;split at h
   ·exact absurd h d
   ·rename_i h1
    rw[if_neg h1];split at h
    ·exact absurd (show(9:Int)=0 from h) (by decide)
    ·rename_i h2
     rw[if_neg h2];simp only[List.length_drop];omega
 ·rename_i h0
  rw[if_neg h0]at h;exact absurd h h0
theorem wt{s t:dV}(g:Go1 s t)(h:t.2=0):s.2=0:=by
 by_cases e:s.2=0
 ·exact e
 ·rw[g.2 e]at h;exact absurd h e
theorem JR(l:List Pr)(s:dV):Go1 s (fc l s).2:=by
 unfold fc;have a:=(yD 256 2 s).trans (yD 4096 3 (cI 256 2 s).2);split
 ·split
  ·exact a
  ·exact a.trans (tB _)
 ·exact a
theorem Pj(l:List Pr){s:dV}(h:(fc l s).2.2=0):(fc l s).2.1.length+1≤s.1.length:=by
 have key:∀t:dV,Go1 (cI 4096 3 (cI 256 2 s).2).2 t→t.2=0→t.1.length+1≤s.1.length:=fun t g h=>by
  have h2:=wt g h;have a:=JO (by decide) h2;have b:=g.1;have c:=(yD 256 2 s).1;omega
 refine key _ ?_ h;unfold fc;split
 ·split
  ·exact Go1.refl _
  ·exact tB _
 ·exact Go1.refl _
theorem xh(l:List Pr)(s:dV):(fc l s).1=l++ [((cI 256 2 s).1,(cI 4096 3 (cI 256 2 s).2).1)]:=rfl
theorem Lj{l:List Pr}{s:dV}(f:fE l)(h:(fc l s).2.2=0):fE (fc l s).1:=by
 rw[xh];refine bW.2 ⟨f,List.pairwise_singleton ..,fun q b p g=>?_⟩
 rw[aq.1 g];unfold fc at h;cases e:l.getLast? with
 |none=>rw[List.getLast?_eq_none_iff]at e;rw[e]at b;cases b
 |some r=>
  rw[e]at h;simp only at h;have c:kl r.1 (cI 256 2 s).1:=by
   unfold kl;by_cases d:bH r.1.toList (cI 256 2 s).1.toList=true
   ·exact d
   ·rw[if_neg d]at h
    unfold cS at h;split at h
    ·exact absurd (show(13:Int)=0 from h) (by decide)
    ·rename_i h0;exact absurd h h0
  have hm:=List.getLast?_eq_some_iff.1 e;obtain⟨ys,rfl⟩:=hm;rcases be.1 b with b|b
  ·exact ii ((bW.1 f).2.2 q b r (aq.2 rfl)) c
  ·rw[aq.1 b];exact c
structure RdL(N:Nat)(l:List Pr)(s:dV):Prop where
 fit:∀p∈l,p.1.size≤256∧p.2.size≤4096
 len:l.length+s.1.length≤N+1
 len0:s.2=0→l.length+s.1.length≤N
 up:s.2=0→fE l
theorem RdL.pair{N:Nat}{l:List Pr}{s:dV}(r:RdL N l s)(d:s.2=0):RdL N (fc l s).1 (fc l s).2:=by
 have f:(fc l s).1.length=l.length+1:=by rw[xh,List.length_append];rfl
 have a:=r.len0 d;have b:=(JR l s).1;refine⟨fun p c=>?_,by omega,fun e=>?_,fun e=>Lj (r.up d) e⟩
 ·rw[xh]at c
  rcases be.1 c with c|c
  ·exact r.fit p c
  ·rw[aq.1 c];exact⟨tw ..,tw ..⟩
 ·have:=Pj l e;omega
theorem EF:∀(n:Nat) (l:List Pr) (s:dV),jc n l s=rV (fun g:List Pr×dV=>g.2) (fun g=>fc g.1 g.2) n (l,s)
 |0,_,_=>rfl
 |n+1,l,s=>by
  unfold jc rV;split
  ·exact EF n _ _
  ·rfl
theorem vZ:∀(n:Nat) (l:List Pr) (s:dV),Go1 s (jc n l s).2
 |0,_,s=>Go1.refl s
 |n+1,l,s=>by
  unfold jc;split
  ·exact(JR l s).trans (vZ n _ _)
  ·exact Go1.refl s
theorem tq(s:dV):Go1 s (fj s).2:=(jF s).trans (vZ ..)
end Go.Proofs
namespace Go.Proofs
open Go Go.Lift
structure Rd(q b:Nat)(s:dV)(Ss:List Sp)(h:ae):Prop where
 i:InAt (·≠q) h b s
 o:Own Ss h
 nb:¬AL Ss b
 nq:¬AL Ss q
 lq:q<h.size
section
variable {q b:Nat} {s s':dV} {Ss:List Sp} {h h':ae} {a a':Sp} {M:Nat→Prop} {j p:Nat} {k:Int} {x:Hs} {c:List Value} {t:TypeId}
theorem Rd.lt(r:Rd q b s Ss h):b<h.size:=r.i.lt
theorem Rd.rd(r:Rd q b s Ss h)(i:InAt (·≠q) h' b s')(u:Upd (· =b) h h'):Rd q b s' Ss h':=
 ⟨i,r.o.away u fun y c e=>r.nb (by have e:y=b:=e;subst e;exact c),r.nb,r.nq,aC r.lq u.size⟩
theorem Rd.up0(r:Rd q b s Ss h)(u:Upd No h h'):Rd q b s Ss h':=
 ⟨r.i.upd0 u,r.o.away u fun _ _ h=>h,r.nb,r.nq,aC r.lq u.size⟩
theorem Rd.cons(r:Rd q b s Ss h)(Q:a.Q h)(c:∀y,a.T y→y<h.size∧¬AL Ss y∧y≠b∧y≠q):Rd q b s (a::Ss) h:=
 ⟨r.i,r.o.cons Q fun y d=>⟨(c y d).1,(c y d).2.1⟩,fun e=>(qw e).elim (fun e=>(c _ e).2.2.1 rfl) r.nb,fun e=>(qw e).elim (fun e=>(c _ e).2.2.2 rfl) r.nq,r.lq⟩
theorem Rd.new(r:Rd q b s Ss h)(u:Upd No h h')(Q:a.Q h')(c:∀y,a.T y→h.size≤y∧y<h'.size):Rd q b s (a::Ss) h':=
 (r.up0 u).cons Q fun y d=>⟨(c y d).2,fun e=>by have:=r.o.al e;have:=(c y d).1;omega,fun e=>by have:=r.lt;have:=(c y d).1;omega,fun e=>by have:=r.lq;have:=(c y d).1;omega⟩
theorem Rd.set(r:Rd q b s Ss h)(f:Ss[j]? =some a) (u:Upd M h h') (hm:∀y,M y→a.T y∨h.size≤y) (Q:a'.Q h') (g:∀y,a'.T y→(a.T y∨h.size≤y)∧y<h'.size):Rd q b s (Ss.set j a') h':=by
 have d:∀{y},a.T y→AL Ss y:=fun c=>⟨a,ao f,c⟩
 have i:=r.lt;have lq:=r.lq;refine⟨r.i.upd u (fun e=>(hm _ e).elim (fun e=>r.nb (d e)) fun e=>by omega) fun y c=>.inl fun e=>?_,r.o.set f u hm Q g,fun e=>?_,fun e=>?_,aC lq u.size⟩
 ·subst e;exact(hm _ c).elim (fun e=>r.nq (d e)) fun e=>by omega
 ·exact(D9 f (fun y c=>(g y c).1) b e).elim r.nb fun e=>by omega
 ·exact(D9 f (fun y c=>(g y c).1) q e).elim r.nq fun e=>by omega
theorem Rd.tail(r:Rd q b s (a::Ss) h):Rd q b s Ss h:=
 ⟨r.i,r.o.tail,fun⟨z,c,d⟩=>r.nb ⟨z,aA _ c,d⟩,fun⟨z,c,d⟩=>r.nq ⟨z,aA _ c,d⟩,r.lq⟩
theorem Rd.var(r:Rd q b s Ss h){f:ae→Prop}(e:∀h',Rd q b s (bU h.size c t::Ss) h'→Upd No h h'→h.size<h'.size→f h'):At (hnew h c t) f:=
 bj fun g b1 k1=>e g (r.new k1 b1 fun y d=>by have d:y=h.size:=d;subst d;exact⟨ai _,bc b1⟩) k1 (bc b1)
theorem Rd.cl(r:Rd q b s Ss h)(j:Nat)(d:Ss[j]? =some (bU p c t)) (i:Nat):bh h (adr ⟨p,0,none⟩ i)=c[i]?:=by
 have:h[p]? =some (.cells c.toArray t (0,0)):=r.o.get d;rw[vc this i];simp
theorem Rd.wr(r:Rd q b s Ss h)(j:Nat)(e:Ss[j]? =some (bU p c t)) {i:Nat} (hi:i<c.length) {v:Value} {f:ae→Prop} (m:∀h',Rd q b s (Ss.set j (bU p (c.set i v) t)) h'→Upd (· =p) h h'→f h'):Wr h (adr ⟨p,0,none⟩ i)∧At (hset h (adr ⟨p,0,none⟩ i) v) f:=by
 have n:h[p]? =some (.cells c.toArray t (0,0)):=r.o.get e;exact nJ n (c':=(c.set i v).toArray) (by simpa using hi) (by simp) fun h' g u=>m h' (r.set e u (fun y d=>.inl d) g fun y d=>⟨.inl d,by have d:y=p:=d;subst d;exact bc g⟩) u
theorem Rd.fill(r:Rd q b s Ss h)(j:Nat)(e:Ss[j]? =some (bU p c t)) {vs:List Value} (n:vs.length=c.length) {f:ae→Prop} (i:∀h',Rd q b s (Ss.set j (bU p vs t)) h'→Upd (· =p) h h'→f h'):xw h (some ⟨p,0,none⟩) 0 vs∧At (iw h ⟨p,0,none⟩ 0 vs) f:=by
 have m:h[p]? =some (.cells c.toArray t (0,0)):=r.o.get e;exact dt m n fun h' g u=>i h' (r.set e u (fun y d=>.inl d) g fun y d=>⟨.inl d,by have d:y=p:=d;subst d;exact bc g⟩) u
theorem Rd.push{α:Type}{f:α→List Value}{sz bytes:Nat}{ty:TypeId}{so:SliceV}{out:List α}{z:List Value}{y:α}(r:Rd q b s Ss h)(j:Nat)(n:Ss[j]? =some (bV f sz ty so out)) (u:h[p]? =some (.cells (f y).toArray ty (0,0))) (e:cF (f y)=true) (v:z.length=sz) (g:0<bytes∧bytes≤64*64) (w:out.length+1≤1000000)
  {K:SliceV→ae→Prop} (o:∀s' h',Rd q b s (Ss.set j (bV f sz ty s' (out++ [y]))) h'→Upd (sb so) h h'→(∀y,sb s' y→sb so y∨h.size≤y)→K s' h'):
  ∃xs,SRow h (some ⟨p,0,none⟩) (1*sz) xs∧AppP (some z) sz bytes ty so.a so.len so.cap 1 xs h K:=by
 have m:OwnS f sz ty (sb so) h so out:=r.o.get n;refine⟨_,((OwnS.one m.ne u).sl (W:=No) fun _ _ _ h=>h).srow,?_⟩
 refine AppP.own (M:=fun y=>sb so y∨h.size≤y) (ys:= [y]) (m.more fun y c=>.inl c) rfl rfl (by simpa using e) v g.1 ?_ (.inr (ai _)) fun s' h' d i=>?_
 ·simp only[aI]
  calc (out.length+1)*bytes≤1000000*(64*64):=Nat.mul_le_mul w g.2
   _≤140737488355328:=by omega
 ·have i:Upd (sb so) h h':=i.mono fun y c=>c
  exact o s' h' (r.set n i (fun y c=>.inl c) d.its fun y c=>d.sub y c) i fun y c=>(d.sub y c).1
end
end Go.Proofs
namespace Go.Proofs
open Go Go.Lift
abbrev aba(s:SliceV):List Value:= [.slice s.a s.len s.cap]
abbrev aal(b yi c:Nat)(k:Int)(x:Hs)(sl:SliceV)(l:List Pr)(A:Sp)(Ss:List Sp):List Sp:=bV fw 2 201 sl l::bU c (aba sl) 143::A::bU yi (Q1 b k x) 95::Ss
section
variable {q b:Nat} {s s':dV} {Ss:List Sp} {h h':ae} {a a' A:Sp} {M:Nat→Prop} {j p:Nat} {k:Int} {x:Hs} {c:List Value} {t:TypeId}
theorem TP{yi n:Nat}{sl:SliceV}{l:List Pr}(r:Rd q b s (aal b yi n k x sl l A Ss) h)(hl:l.length≤900000){K:Unit→ae→Prop}
  (T:∀h' sl',Rd q b (fc l s).2 (aal b yi n k x sl' (fc l s).1 A Ss) h'→Upd (fun y=>y=b∨y=n∨sb sl y) h h'→(∀y,sb sl' y→sb sl y∨h.size≤y)→K () h'):
  eJ 118 [gF yi,gF n] K h:=by
 refine Eh _ _ ?_;dsimp only[qm,eP,nv,sq,ce,AU,ja,iR,fG,CS,FC,cg,ic,ji,Aj,IV];refine Join.intro (fun t h'=>∃pb,t=⟨pb,0,none⟩∧Rd q b (cI 4096 3 (cI 256 2 s).2).2 (bU pb (fw ((cI 256 2 s).1,(cI 4096 3 (cI 256 2 s).2).1)) 201::aal b yi n k x sl l A Ss) h'∧Upd (· =b) h h')
  (fun R I=>⟨_,r.cl 3 rfl 0,_,r.cl 3 rfl 0,⟨?_,?_⟩⟩) ?_
 ·refine sY r.i 256 (by omega) 2 (by decide) fun O i1 E=>?_
  have j:=r.rd i1 E;refine⟨j.cl 3 rfl 0,⟨?_,?_⟩⟩
  ·refine sY j.i 4096 (by omega) 3 (by decide) fun h2 L m=>(j.rd L m).var fun F v P _=>v.fill 0 rfl (by rfl) fun H C B=>I _ _ ⟨_,rfl,C,?_⟩
   exact((E.tr m).tr P.wide).trans B fun y f=>.inr (by have f:y=h2.size:=f;have:=(E.tr m).size;omega)
  ·refine j.var fun h2 d Q _=>⟨d.cl 4 rfl 0,sY d.i 4096 (by omega) 3 (by decide) fun F N g=>(d.rd N g).fill 0 rfl (by rfl) fun H C B=>I _ _ ⟨_,rfl,C,?_⟩⟩
   exact((E.tr Q.wide).tr g).trans B fun y f=>.inr (by have f:y=O.size:=f;have:=E.size;omega)
 ·refine r.var fun O j k1 _=>⟨j.cl 4 rfl 0,j.cl 4 rfl 0,sY j.i 256 (by omega) 2 (by decide) fun h2 L m=>?_⟩
  have d:=j.rd L m;refine⟨d.cl 4 rfl 0,sY d.i 4096 (by omega) 3 (by decide) fun F N g=>(d.rd N g).fill 0 rfl (by rfl) fun H C B=>I _ _ ⟨_,rfl,C,?_⟩⟩
  exact((k1.wide.tr m).tr g).trans B fun y f=>.inr (by have f:y=h.size:=f;omega)
 rintro _ h2 ⟨pb,rfl,d,m⟩;refine Join.intro (fun _ h'=>Rd q b (fc l s).2 (bU pb (fw ((cI 256 2 s).1,(cI 4096 3 (cI 256 2 s).2).1)) 201::aal b yi n k x sl l A Ss) h'∧Upd (· =b) h h')
  (fun R2 z=>Join.intro (fun t h'=>h'=h2∧(fc l s).2=if t=true then cS 13 (cI 4096 3 (cI 256 2 s).2).2 else(cI 4096 3 (cI 256 2 s).2).2) (fun R3 D=>⟨sl,d.cl 2 rfl 0,?_⟩) ?_) ?_
 ·have o:OwnS fw 2 201 (sb sl) h2 sl l:=d.o.get (i:=1) rfl
  have hn:=o.len;refine ak (fun c=>?_) fun c=>D _ _ ⟨rfl,?_⟩
  ·have w:l.length-1<l.length:=by omega
   obtain⟨Y,V,_,hv⟩:=(o.sl (W:=No) fun _ _ _ h=>h).at (ag w)
   have U:ac .i64 ((sl.len:Int)-1)=((l.length-1:Nat):Int):=by rw[Go.IntWalk.i64_in _ (by omega)];omega
   refine⟨_,d.cl 0 rfl 0,sl,d.cl 2 rfl 0,sl,d.cl 2 rfl 0,?_⟩;rw[U];refine⟨⟨by omega,by omega⟩,Y,V,_,hv 0 _ rfl,D _ _ ⟨rfl,?_⟩⟩
   have Z:l.getLast? =some l[l.length-1]:=by rw[List.getLast?_eq_getElem?,ag w]
   unfold fc;rw[Z];(try simp only)
   by_cases u:bH l[l.length-1].1.toList (cI 256 2 s).1.toList=true
   ·rw[if_pos u,if_neg]
    intro e;rcases(Bool.or_eq_true _ _).mp e with e|e
    ·exact dS _ (ii u e)
    ·have G:(cI 256 2 s).1.toList=l[l.length-1].1.toList:=by simpa using e
     rw[G]at u;exact dS _ u
   ·rw[if_neg u,if_pos]
    by_cases e:(cI 256 2 s).1=l[l.length-1].1
    ·rw[e];simp
    ·have:kl (cI 256 2 s).1 l[l.length-1].1:=vF u (fun G=>e (by first|exact G|exact G.symm))
     unfold kl at this;rw[this];rfl
  ·have h0:l= []:=ax.1 (by omega)
   subst h0;rfl
 ·rintro t h' ⟨rfl,e⟩
  refine CondP.intro (fun c=>⟨_,d.cl 4 rfl 0,lX d.i fun F j3 g=>z _ _ ⟨?_,m.tr g⟩⟩) fun c=>z _ _ ⟨?_,m⟩
  ·rw[e,if_pos c];exact d.rd j3 g
  ·rw[e,if_neg (by simpa using c)];exact d
 rintro _ F ⟨v,g⟩;refine⟨sl,v.cl 2 rfl 0,_,v.cl 0 rfl 0,_,v.cl 0 rfl 1,bj fun H b4 J=>(v.up0 J).push (y:=(_,_)) 1 rfl b4 rfl rfl ⟨by decide,by decide⟩ (by omega) fun s' h5 r5 u5 hs=>r5.wr (p:=n) (i:=0) 2 rfl (by simp) fun h6 X S=>T h6 s' X.tail ?_ fun y f=>?_⟩
 ·exact(((g.mono fun y f=>.inl (.inl f)).tr J.wide).tr (u5.mono fun y f=>.inl (.inr (.inr f)))).tr (S.mono fun y f=>.inl (.inr (.inl f)))
 ·exact(hs y f).imp id fun e=>by have:=g.size;have:=J.size;omega
theorem NW:∀{l:List Pr},(∀p∈l,p.1.size≤256∧p.2.size≤4096)→D3 l=0
 | [],_=>rfl
 |p::l,h=>by
  have c:=h p (List.mem_cons_self ..);have:Sk p=0:=by unfold Sk;rw[if_neg (by omega),if_neg (by omega)]
  unfold D3;rw[if_pos this];exact NW fun p b=>h p (aA _ b)
theorem Nh(r:Rd q b s Ss h)(A:k=0∨k=1)(hn:s.1.length≤90000){K:Tr→ae→Prop}(V:∀h' t,Rd q b (fj s).2 Ss h'→Upd (· =b) h h'→TreeIs (fun y=>y<h.size) h' k x t (rp (fj s).1)→K t h'):
  xn 80 [UP b k x] K h:=by
 refine eM (zh (YH b k x)) .nil Tryz.func80 Tryz.call80 ?_;dsimp only[zh,aR,nv,BR,oX,js,jP,Cg,IU,au,aG,vJ,db,Aj,L9,eP,Dv,uN];refine r.var fun O U k1 z1=>U.var fun h2 Y Q z2=>Y.var fun u r3 P z3=>?_
 have m:=r3.cons (a:=bV fw 2 201 fL []) (OwnS.nil kj) fun y c=>absurd c (ie y)
 have D:Upd (fun y=>y=b∨h.size≤y) h u:=((k1.tr Q).tr P).wide
 have lb:=r.lt;refine⟨_,m.cl 3 rfl 0,_,m.cl 3 rfl 1,_,m.cl 3 rfl 2,_,m.cl 3 rfl 3,_,m.cl 3 rfl 4,?_⟩;refine wk (G:=List Pr×dV) (Inv:=fun g h'=>∃sl,Rd q b g.2 (aal b h.size h2.size k x sl g.1 (bU O.size (kA qG) 101) Ss) h'∧RdL s.1.length g.1 g.2∧u.size<h'.size∧(∀y,sb sl y→u.size<y)∧Upd (fun y=>y=b∨h.size≤y) h h') (st:=fun g=>g.2) (step:=fun g=>fc g.1 g.2) (M:=fun y=>y=b∨y=h2.size∨u.size<y) m.i ([],(dX s).2) ?_ ?_ ?_ ?_ ?_
 ·rintro(e|e|e)
  ·omega
  ·omega
  ·exact Nat.lt_irrefl _ e
 ·intro h' i' z H
  have a:=(jF s).1;refine⟨fL,m.rd i' z,⟨fun p hp=>(by cases hp),by simp only[aQ];omega,fun _=>by simp only[aQ];omega,fun _=>dh⟩,H,fun y c=>absurd c (ie y),D.tr (z.mono fun y c=>.inl (.inl c))⟩
 ·rintro g h' ⟨sl,E,_⟩;exact E.i
 ·rintro⟨l,s1⟩ S ⟨sl,E,w,H,j,z⟩ h0
  have J:=w.len;(try simp only at J)
  refine TP E (show l.length≤900000 by omega) fun h'' C F v hs=>⟨⟨C,F,w.pair h0,aC H v.size,fun y c=>(hs y c).elim (j y) fun e=>by omega,z.tr (v.mono fun y c=>?_)⟩,v.mono fun y c=>.inl (c.imp id fun e=>e.imp id (j y))⟩
  rcases c with e|e|e
  ·exact .inl (.inl e)
  ·exact .inl (.inr (by omega))
  ·exact .inl (.inr (by have:=j y e;omega))
 ·rintro h5 ⟨sl,d,w,R,_,u5⟩
  have e:rV (fun g:List Pr×dV=>g.2) (fun g=>fc g.1 g.2) (dX s).1 ([],(dX s).2)=fj s:=(EF ..).symm
  rw[e]at d w;have o:OwnS fw 2 201 (sb sl) h5 sl (fj s).1:=d.o.get (i:=0) rfl;have J:=w.len;refine⟨_,d.cl 3 rfl 1,_,d.cl 3 rfl 2,_,d.cl 3 rfl 3,_,d.cl 3 rfl 4,sl,d.cl 1 rfl 0,?_⟩;refine IM (W:=fun y=>y<u.size) (o.sl (W:=No) fun _ _ _ h=>h) (fun y c=>Nat.lt_trans c R) (by omega) (fun e1 e2=>absurd A (by omega)) (fun _ e=>absurd (NW w.fit) e) fun _ _ I t ti B=>?_
  refine(d.tail.up0 B).var fun h7 Z X z7=>Z.fill 0 rfl (by rfl) fun h8 n u8=>?_
  refine⟨_,n.cl 0 rfl 0,_,n.cl 0 rfl 1,_,n.cl 0 rfl 2,_,n.cl 0 rfl 3,_,n.cl 0 rfl 4,_,n.cl 0 rfl 5,n.fill 2 rfl (by rfl) fun L f T=>?_⟩
  have z6:=B.size;have N:Upd (fun y=>y=O.size∨I.size≤y) I L:=(X.wide.tr (u8.mono fun y c=>.inl (.inr (by have c:y=I.size:=c;omega)))).tr (T.mono fun y c=>.inl (.inl c))
  refine⟨_,f.cl 2 rfl 0,_,f.cl 2 rfl 1,_,f.cl 2 rfl 2,_,f.cl 2 rfl 3,_,f.cl 2 rfl 4,_,f.cl 2 rfl 5,V L t f.tail.tail.tail.tail ?_ ?_⟩
  ·exact((u5.tr B.wide).tr (N.mono fun y c=>.inl (.inr (by omega)))).mono fun y c=>c
  ·exact(ti.updM N fun y c=>c.imp (fun e=>by show y<u.size;omega) id).less fun y c=>.inl (by show y<u.size;have c:y<h.size:=c;omega)
end
end Go.Proofs
namespace Go.Proofs
open Go Go.Lift
abbrev ptL(k a b c nx:Int)(br tg:SliceV)(last:Int)(ss:SliceV):List Value:= [.int .i64 k,.int .u64 a,.int .u64 b,.int .u64 c,.int .u32 nx,.slice none 0 0,.slice br.a br.len br.cap,.slice tg.a tg.len tg.cap,.int .i64 last,.slice ss.a ss.len ss.cap]
abbrev WR:List Value:=ptL 0 0 0 0 0 fL fL 0 fL
section
variable {z h0 h h':ae} {sp vp sm pb cb:Nat} {s:VS} {last:Int} {ids:List Int} {es:List Se} {Ss:List Sp}
def Gr0(h:ae)(p:Nat)(nx:Int):Prop:=h[p+1]? =some (.cells #[.map (some p),.int .u32 nx] 210 (0,0))∧MapAt KE sv h p []
theorem Gr0.upd0{p:Nat}{nx:Int}(g:Gr0 h p nx)(k:Upd No h h'):Gr0 h' p nx:=⟨k.get0 g.1,g.2.upd k fun h=>h⟩
theorem Gr0.at{p:Nat}{nx:Int}(g:Gr0 h p nx):GraphAt (yV (p+1) p) h (p+1) p [] nx:=
 ⟨g.1,⟨[],g.2,fun _=>.inr ⟨rfl,rfl⟩⟩,.inl rfl,.inr rfl,fun y b=>by rcases b with rfl|rfl;exact bc g.1;exact g.2.lt,List.nodup_nil⟩
theorem Gr0.off{p b:Nat}{nx:Int}{cs:List Value}{t:TypeId}(g:Gr0 h p nx)(c:h[b]? =some (.cells cs.toArray t (0,0))) (hc:3≤cs.length) (u:Upd (· =b) h h'):Gr0 h' p nx:=by
 refine⟨u.oth g.1 fun e=>?_,g.2.upd u fun e=>?_⟩
 ·have e:p+1=b:=e
  subst e;have:=c.symm.trans g.1;injection this with e1;injection e1 with e1;have:=congrArg Array.size e1;simp at this;omega
 ·have e:p=b:=e
  subst e;obtain⟨es,cl,d,_⟩:=g.2.isMap;have:=c.symm.trans d;cases this
structure G1(z h0 h:ae)(sp vp sm pb cb:Nat)(s:VS)(last:Int)(ids:List Int)(es:List Se)(Ss:List Sp)(ps ts:List Nat):Prop where
 w:SwAt z h sp vp sm pb cb s last ids es Ss
 k:Upd No h0 h
 gs:∀p∈ps,Gr0 h p s.nx∧h0.size≤p
 ts:∀b∈ts,h[b]? =some (.cells (kA qG).toArray 101 (0,0))∧h0.size≤b
variable {ps ts:List Nat}
theorem G1.upd0(n:G1 z h0 h sp vp sm pb cb s last ids es Ss ps ts)(k:Upd No h h'):G1 z h0 h' sp vp sm pb cb s last ids es Ss ps ts:=
 ⟨n.w.up0 k,n.k.tr k,fun p d=>⟨(n.gs p d).1.upd0 k,(n.gs p d).2⟩,fun b c=>⟨k.get0 (n.ts b c).1,(n.ts b c).2⟩⟩
theorem G1.graph(n:G1 z h0 h sp vp sm pb cb s last ids es Ss ps ts)(i:s.L= []){K:Option Addr→ae→Prop}(g:∀h',G1 z h0 h' sp vp sm pb cb s last ids es Ss (h.size::ps) ts→K (some ⟨h.size+1,0,none⟩) h'):fh 60 [gF vp] K h:=by
 refine JB n.w.g.v fun h' k c=>?_
 have d:=n.upd0 k;refine g h' ⟨d.w,d.k,fun p f=>?_,d.ts⟩
 rcases ar.1 f with rfl|f
 ·rw[i]at c
  obtain⟨m,hm,j⟩:=c.map;have b:=j.len hm.nodup c.nd;have e:m= []:=ax.1 b;subst e;exact⟨⟨c.blk,hm⟩,n.k.size⟩
 ·exact d.gs p f
theorem G1.empty(n:G1 z h0 h sp vp sm pb cb s last ids es Ss ps ts){K:Tr→ae→Prop}(b:∀h',G1 z h0 h' sp vp sm pb cb s last ids es Ss ps ts→K s.e h'):xn 61 [gF vp] K h:=
 Dx n.w.g.v fun h' k=>b h' (n.upd0 k)
theorem G1.put(n:G1 z h0 h sp vp sm pb cb s last ids es Ss ps ts){k:ae→Prop}(e:∀h',G1 z h0 h' sp vp sm pb cb s last ids es Ss ps (h.size::ts)→k h'):At (hnew h (kA qG) 101) k:=by
 refine bj fun h' f k'=>e h' ?_
 have c:=n.upd0 k';refine⟨c.w,c.k,c.gs,fun b d=>?_⟩
 rcases ar.1 d with rfl|d
 ·exact⟨f,n.k.size⟩
 ·exact c.ts b d
theorem SwAt.young(c:SwAt z h0 sp vp sm pb cb s last ids es Ss){b:Nat}(g:h0.size≤b):sp<b∧(∀e∈es,e.eb≠b∧e.tb≠b)∧¬AL Ss b:=
 ⟨by have:=bc c.g.b;omega,fun e f=>by have:=c.g.lt e f;omega,fun d=>by have:=c.o.al d;omega⟩
theorem G1.fin(f:SwAt z h0 sp vp sm pb cb s last ids es Ss)(n:G1 z h0 h sp vp sm pb cb s last ids es Ss ps ts){p b:Nat}(o:p∈ps)(m:b∈ts){R:Option Addr×Addr→ae→Prop}
  (j:∀t h',(∃p b,t=(some ⟨p+1,0,none⟩,⟨b,0,none⟩)∧SwAt z h' sp vp sm pb cb s last ids es Ss∧Upd No h0 h'∧Gr0 h' p s.nx∧h'[b]? =some (.cells (kA s.e).toArray 101 (0,0))∧h0.size≤b)→R t h'):
  xw h (some ⟨b,0,none⟩) 0 (kA s.e)∧At (iw h ⟨b,0,none⟩ 0 (kA s.e)) fun h'=>R (some ⟨p+1,0,none⟩,⟨b,0,none⟩) h':=by
 obtain⟨b1,b2⟩:=n.ts b m;obtain⟨g,v⟩:=n.gs p o;obtain⟨e,q,u⟩:=f.young b2;exact dt (c:=kA qG) (vs:=kA s.e) b1 rfl fun h' i d=>j _ _ ⟨p,b,rfl,n.w.off d e q u,n.k.own d b2,g.off b1 (by simp) d,i,b2⟩
variable {p eb:Nat}
end
end Go.Proofs
namespace Go.Proofs
open Go Go.Lift
abbrev SR:=Int×Bool×Tr
abbrev La(r:SR):List Value:= [.int .i64 r.1,.bool r.2.1]++kA r.2.2
theorem TZ(r:SR):(La r).length=8∧0<8:=⟨rfl,by decide⟩
abbrev Pt:=Int×Int×Int×Int×Int×SliceV×SliceV×SliceV×Int×SliceV
section
variable {z h h':ae} {sp vp sm pb cb:Nat} {s:VS} {last:Int} {ids:List Int} {es:List Se} {Ss:List Sp}
end
end Go.Proofs
namespace Go.Proofs
open Go Go.Lift
section
variable {q b:Nat} {s s':dV} {Ss:List Sp} {h h':ae} {a a' A:Sp} {M:Nat→Prop} {j p:Nat} {k:Int} {x:Hs} {c:List Value} {t:TypeId}
theorem Rd.fillAt(r:Rd q b s Ss h)(j:Nat)(g:Ss[j]? =some (bU p c t)) {m:Nat} {vs:List Value} (v:m+vs.length≤c.length) {f:ae→Prop} (o:∀h',Rd q b s (Ss.set j (bU p (c.take m++vs++c.drop (m+vs.length)) t)) h'→Upd (· =p) h h'→f h'):xw h (some (adr ⟨p,0,none⟩ m)) 0 vs∧At (iw h (adr ⟨p,0,none⟩ m) 0 vs) f:=by
 have i:h[p]? =some (.cells c.toArray t (0,0)):=r.o.get g;have e:=gQ vs h m 0 c i (by omega);rw[Nat.zero_add]at e;refine⟨.inr ⟨_,rfl,fun j g=>by rw[cM,cM];exact fz i (by rw[List.size_toArray];omega)⟩,cP ?_⟩
 rw[zW,Nat.add_zero,e];have n:(h.setIfInBounds p (.cells (c.take m++vs++c.drop (m+vs.length)).toArray t (0,0)))[p]? =some (.cells (c.take m++vs++c.drop (m+vs.length)).toArray t (0,0)):=dU i;have u:=Upd.set (M:=(· =p)) h (.cells (c.take m++vs++c.drop (m+vs.length)).toArray t (0,0)) rfl
 exact o _ (r.set g u (fun y d=>.inl d) n fun y d=>⟨.inl d,by have d:y=p:=d;subst d;exact bc n⟩) u
end
abbrev RV:=Int×SliceV×Tr
abbrev sr(v:RV):List Value:= [.int .u32 v.1,.slice v.2.1.a v.2.1.len v.2.1.cap]++kA v.2.2
theorem Qz(v:RV):(sr v).length=8∧0<8:=⟨rfl,by decide⟩
abbrev fJ(v:ByteArray×Int):List Value:= [.string v.1,.int .u32 v.2]
theorem Cr(v:ByteArray×Int):(fJ v).length=2∧0<2:=⟨rfl,by decide⟩
def VerOk(W:Nat→Prop)(h:ae)(k:Int)(x:Hs)(v:RV)(r:tL):Prop:=v.1=r.1∧Nums W h v.2.1 r.2.1∧TreeIs W h k x v.2.2 (rp r.2.2)
def SesOk(W:Nat→Prop)(h:ae)(k:Int)(x:Hs)(v:SR)(r:Int×Bool×List Pr):Prop:=v.1=r.1∧v.2.1=r.2.1∧TreeIs W h k x v.2.2 (rp r.2.2)
section
variable {W W' M:Nat→Prop} {h h':ae} {k:Int} {x:Hs}
theorem VerOk.re{v:RV}{r:tL}(o:VerOk W h k x v r)(u:Upd M h h')(hm:∀b,M b→W b∨h.size≤b)(d:∀b,W' b→W b∨h.size≤b):VerOk W' h' k x v r:=
 ⟨o.1,((o.2.1.less (W':=fun b=>W b∨h.size≤b) fun _ c=>c).upd u fun b c=>.inl (hm b c)).less fun b c=>.inl (d b c),o.2.2.re u hm d⟩
theorem SesOk.re{v:SR}{r:Int×Bool×List Pr}(o:SesOk W h k x v r)(u:Upd M h h')(hm:∀b,M b→W b∨h.size≤b)(c:∀b,W' b→W b∨h.size≤b):SesOk W' h' k x v r:=
 ⟨o.1,o.2.1,o.2.2.re u hm c⟩
end
theorem Cd:∀(n:Nat) (l:List Int) (s:dV),Go1 s (ph n l s).2
 |0,_,s=>Go1.refl s
 |n+1,l,s=>by
  unfold ph;exact(dW _ s).trans (Cd n _ _)
section
variable {q b:Nat} {s s':dV} {Ss:List Sp} {h h':ae} {a a' A:Sp} {M:Nat→Prop} {j p:Nat} {k:Int} {x:Hs} {c:List Value} {t:TypeId}
theorem Ng(r:Rd q b s Ss h)(T:k=0∨k=1)(hn:s.1.length≤90000){K:RV→ae→Prop}(N:∀h' v,Rd q b (nT s).2 Ss h'→Upd (· =b) h h'→VerOk (fun y=>y<h.size) h' k x v (nT s).1→K v h'):
  Z8 33 [UP b k x] K h:=by
 refine eM (uY (YH b k x)) Di Tryz.func33 Tryz.call33 ?_;dsimp only[uY,du,cq,eP,nv,vz,aG,oX,F8,MI,jP,Cg,IU,aR,au,iv,dy,Mb];have lb:=r.lt;refine r.var fun P r1 k1 z1=>r1.var fun h2 A k2 z2=>⟨_,A.cl 1 rfl 0,_,A.cl 1 rfl 1,_,A.cl 1 rfl 2,_,A.cl 1 rfl 3,_,A.cl 1 rfl 4,GP A.i fun C i3 S=>(A.rd i3 S).var fun h4 r4 k4 z4=>r4.fill 0 rfl (by rfl) fun h5 B u5=>⟨_,B.cl 2 rfl 0,_,B.cl 2 rfl 1,_,B.cl 2 rfl 2,_,B.cl 2 rfl 3,_,B.cl 2 rfl 4,zS B.i 2 fun h6 i6 U=>?_⟩⟩
 have r6:=B.rd i6 U;have z3:=S.size;have z5:=u5.size;have z6:=U.size;have w6:Upd (fun y=>y=b∨h.size≤y) h h6:=(((((k1.tr k2).wide).tr (S.mono fun y d=>.inl (.inl d))).tr k4.wide).tr (u5.mono fun y d=>.inl (.inr (by have d:y=C.size:=d;omega)))).tr (U.mono fun y d=>.inl (.inl d))
 have r7:=r6.cons (a:=bV u32 1 31 fL []) (OwnS.nil yq) fun y d=>absurd d (ie y)
 have e2:=fK 2 (aS 4294967295 s).2;have ge:(nT s)=((((aS 4294967295 s).1:Int),(ph (aS 2 (aS 4294967295 s).2).1 [] (aS 2 (aS 4294967295 s).2).2).1,(fj (ph (aS 2 (aS 4294967295 s).2).1 [] (aS 2 (aS 4294967295 s).2).2).2).1),(fj (ph (aS 2 (aS 4294967295 s).2).1 [] (aS 2 (aS 4294967295 s).2).2).2).2):=rfl;have g1:=(dW 4294967295 s).1
 have g2:=(dW 2 (aS 4294967295 s).2).1;rw[ge]at N;generalize (aS 2 (aS 4294967295 s).2).1=n at*;generalize (aS 2 (aS 4294967295 s).2).2=s6 at*;generalize (aS 4294967295 s).1=id at*;refine LoopP.ghost (fun(g:Nat×List Int×dV) (t:Int) h'=>t=(g.1:Int)∧g.1≤n∧g.2.1.length=g.1∧g.2.2.1.length≤s.1.length∧ph (n-g.1) g.2.1 g.2.2=ph n [] s6∧∃sl,Rd q b g.2.2 (bV u32 1 31 sl g.2.1::bU C.size (sr (id,sl,qG)) 103::bU P.size (sr (0,fL,qG)) 103::bU h.size (Q1 b k x) 95::Ss) h'∧Upd (fun y=>y=b∨h.size≤y) h h'∧h5.size≤h'.size∧∀y,sb sl y→h5.size≤y) (fun g=>n-g.1) (0,[],s6)
  ⟨rfl,aY _,rfl,by(try simp only);omega,rfl,fL,r7,w6,z6,fun y d=>absurd d (ie y)⟩ ?_
 rintro I ⟨i,l,E⟩ t h7 ⟨rfl,hi,W,hs,G,sl,r,w,z,u⟩ hI;(try simp only at hi W hs G r)
 refine ak (fun c=>?_) fun c=>?_
 ·have F:i<n:=by have c:(i:Int)<(n:Int):=c;omega
  obtain⟨m,em⟩:∃m,n-i=m+1:=⟨n-i-1,by omega⟩
  refine Join.plain ⟨sl,r.cl 1 rfl 1,_,r.cl 3 rfl 0,_,r.cl 3 rfl 1,_,r.cl 3 rfl 2,_,r.cl 3 rfl 3,_,r.cl 3 rfl 4,GP r.i fun X i8 D=>?_⟩
  have O:=r.rd i8 D;refine⟨O.cl 1 rfl 1,bj fun Y b9 Q=>?_⟩
  have f:=O.up0 Q;have z8:=D.size;have z9:=Q.size;refine⟨f.cl 1 rfl 1,f.push (y:=(((aS 4294967295 E).1:Nat):Int)) 0 rfl b9 rfl rfl ⟨by decide,by decide⟩ (by omega) fun s' H j L V=>j.wr (p:=C.size) (i:=1) 1 rfl (by simp) fun hb rb ub=>?_⟩
  have z11:=L.size;have z12:=ub.size;have ew:ac .u64 ((i:Int)+1)=((i+1:Nat):Int):=by rw[Go.IntWalk.u64_in _ (by omega)];omega
  have g3:=(dW 4294967295 E).1;refine hI (i+1,l++ [(((aS 4294967295 E).1:Nat):Int)],(aS 4294967295 E).2) _ _ ⟨ew,F,by simp[W],by(try simp only);omega,?_,s',rb,((w.tr (D.mono fun y d=>.inl (.inl d))).tr Q.wide).tr ((L.mono fun y d=>.inl (.inr (by have:=u y d;omega))).tr (ub.mono fun y d=>.inl (.inr (by have d:y=C.size:=d;omega)))),by omega,fun y d=>(V y d).elim (u y) fun e=>by omega⟩ (by(try simp only);omega)
  rw[em,ph]at G;rw[show n-(i+1)=m by omega];exact G
 ·have R:i=n:=by have c:¬(i:Int)<(n:Int):=c;omega
  subst R;rw[Nat.sub_self,ph]at G;rw[←G]at N;(try simp only at N)
  refine⟨_,r.cl 3 rfl 0,_,r.cl 3 rfl 1,_,r.cl 3 rfl 2,_,r.cl 3 rfl 3,_,r.cl 3 rfl 4,Nh r T (by omega) fun X J O D ti=>O.fillAt 1 rfl (by simp) fun Y f u9=>?_⟩
  have f:Rd q b (fj E).2 (bV u32 1 31 sl l::bU C.size (sr (id,sl,J)) 103::bU P.size (sr (0,fL,qG)) 103::bU h.size (Q1 b k x) 95::Ss) Y:=f;have z7:=w.size;have z8:=D.size;refine⟨_,f.cl 1 rfl 0,sl,f.cl 1 rfl 1,_,f.cl 1 rfl 2,_,f.cl 1 rfl 3,_,f.cl 1 rfl 4,_,f.cl 1 rfl 5,_,f.cl 1 rfl 6,_,f.cl 1 rfl 7,f.fill 2 rfl (by rfl) fun H j L=>?_⟩
  have j:Rd q b (fj E).2 (bV u32 1 31 sl l::bU C.size (sr (id,sl,J)) 103::bU P.size (sr (id,sl,J)) 103::bU h.size (Q1 b k x) 95::Ss) H:=j;have o:OwnS u32 1 31 (sb sl) H sl l:=j.o.get (i:=0) rfl;have Z:Upd (fun y=>y=C.size∨y=P.size) X H:=(u9.mono fun y d=>.inl (.inl d)).tr (L.mono fun y d=>.inl (.inr d))
  refine⟨_,j.cl 2 rfl 0,sl,j.cl 2 rfl 1,_,j.cl 2 rfl 2,_,j.cl 2 rfl 3,_,j.cl 2 rfl 4,_,j.cl 2 rfl 5,_,j.cl 2 rfl 6,_,j.cl 2 rfl 7,N H (id,sl,J) j.tail.tail.tail.tail ?_ ⟨rfl,o.sl fun y d _ F=>?_,?_⟩⟩
  ·exact((w.tr (D.mono fun y d=>.inl (.inl d))).tr (Z.mono fun y d=>.inl (.inr (by omega)))).mono fun y d=>d
  ·have:=u y d;omega
  ·exact(ti.updM Z fun y d=>.inl (by show y<h7.size;omega)).less fun y d=>.inl (by show y<h7.size;have d:y<h.size:=d;omega)
end
end Go.Proofs
namespace Go.Proofs
open Go Go.Lift
section
variable {q b:Nat} {s s':dV} {Ss:List Sp} {h h':ae} {a a' A:Sp} {M:Nat→Prop} {j p:Nat} {k:Int} {x:Hs} {c:List Value} {t:TypeId}
theorem Nj(r:Rd q b s Ss h){K:ByteArray×Int→ae→Prop}(n:∀h',Rd q b (f7 s).2 Ss h'→Upd (· =b) h h'→K (f7 s).1 h'):
  YK 35 [UP b k x] K h:=by
 refine eM (zi (YH b k x)) .nil Tryz.func35 Tryz.call35 ?_;dsimp only[zi,aR,au,du,eP,aG,oX,cE,AU,Fk,AS,Cg,IU];have C:=r.lt;refine r.var fun u m k1 B=>m.var fun h2 c j A=>⟨_,c.cl 1 rfl 0,_,c.cl 1 rfl 0,_,c.cl 1 rfl 1,_,c.cl 1 rfl 2,_,c.cl 1 rfl 3,_,c.cl 1 rfl 4,sY c.i 32 (by omega) 9 (by decide) fun D o f=>?_⟩
 have d:=c.rd o f;refine⟨⟨d.cl 1 rfl 0,d.cl 1 rfl 1,d.cl 1 rfl 2,d.cl 1 rfl 3,d.cl 1 rfl 4⟩,GP d.i fun z w g=>(d.rd w g).fill 0 rfl (by rfl) fun p e v=>⟨_,e.cl 0 rfl 0,_,e.cl 0 rfl 1,n p e.tail.tail ?_⟩⟩
 exact((((k1.tr j).wide).tr f).tr g).trans v fun y i=>.inr (by have i:y=u.size:=i;omega)
theorem M8(s:dV):(aP s).1<256:=UInt8.toNat_lt _
theorem Ni(r:Rd q b s Ss h)(C:k=0∨k=1)(hn:s.1.length≤90000){K:SR→ae→Prop}(J:∀h' v,Rd q b (oB s).2 Ss h'→Upd (· =b) h h'→SesOk (fun y=>y<h.size) h' k x v (oB s).1→K v h'):
  Z7 39 [UP b k x] K h:=by
 refine eM (uZ (YH b k x)) Dj Tryz.func39 Tryz.call39 ?_;dsimp only[uZ,eP,nv,jO,vz,dy,sq,aG,oX,Ir,MH,jP,Cg,IU,aR,au,Mb,kR];have lb:=r.lt;have e0:=fK 2147483648 s;refine r.var fun A V k1 z1=>V.var fun h2 j S z2=>⟨_,j.cl 1 rfl 0,_,j.cl 1 rfl 1,_,j.cl 1 rfl 2,_,j.cl 1 rfl 3,_,j.cl 1 rfl 4,zS j.i 2147483648 fun m i3 B=>(j.rd i3 B).var fun h4 W Z z4=>?_⟩
 rw[Go.IntWalk.i64_in _ (by omega)];refine W.fill 0 rfl (by rfl) fun h5 F P=>⟨_,F.cl 2 rfl 0,DZ F.i fun O i6 D=>?_⟩
 have u:=F.rd i6 D;have z3:=B.size;have z5:=P.size;have z6:=D.size;have L:Upd (fun y=>y=b∨h.size≤y) h O:=(((((k1.tr S).wide).tr (B.mono fun y d=>.inl (.inl d))).tr Z.wide).tr (P.mono fun y d=>.inl (.inr (by have d:y=m.size:=d;omega)))).tr (D.mono fun y d=>.inl (.inl d))
 have g1:=(dW 2147483648 s).1;have g2:(ig (aS 2147483648 s).2).2.1.length≤(aS 2147483648 s).2.1.length:=by
  have a:=(GD 1 (aS 2147483648 s).2).1;unfold ig aP;(try simp only)
  split
  ·have:=(tB (e:=9) (fH 1 (aS 2147483648 s).2).2).1;omega
  ·exact a
 have ge:(oB s)=((((aS 2147483648 s).1:Int),decide ((aP (aS 2147483648 s).2).1=1),(fj (ig (aS 2147483648 s).2).2).1),(fj (ig (aS 2147483648 s).2).2).2):=rfl;have eb:(ig (aS 2147483648 s).2).2=if 1<(aP (aS 2147483648 s).2).1 then cS 9 (aP (aS 2147483648 s).2).2 else(aP (aS 2147483648 s).2).2:=rfl
 rw[ge]at J;generalize (ig (aS 2147483648 s).2).2=s7 at*;generalize (aP (aS 2147483648 s).2).1=n at*;generalize (aP (aS 2147483648 s).2).2=s6 at*;generalize (aS 2147483648 s).1=id at*;refine Join.intro (fun _ h'=>Rd q b s7 (bU m.size (La ((id:Int),false,qG)) 110::bU A.size (La (0,false,qG)) 110::bU h.size (Q1 b k x) 95::Ss) h'∧Upd (fun y=>y=b∨h.size≤y) h h'∧O.size≤h'.size)
  (fun R I=>ak (fun c=>⟨_,u.cl 2 rfl 0,lX u.i fun H i7 G=>I _ _ ⟨?_,L.tr (G.mono fun y d=>.inl (.inl d)),G.size⟩⟩) fun c=>I _ _ ⟨?_,L,ai _⟩) ?_
 ·have c:(n:Int)>1:=c
  rw[eb,if_pos (by omega)];exact u.rd i7 G
 ·have c:¬(n:Int)>1:=c
  rw[eb,if_neg (by omega)];exact u
 rintro _ H ⟨r,w,z⟩;have z7:=w.size;refine⟨_,r.cl 2 rfl 0,_,r.cl 2 rfl 1,_,r.cl 2 rfl 2,_,r.cl 2 rfl 3,_,r.cl 2 rfl 4,Nh r C (by omega) fun T o Y u8 ti=>Y.wr (p:=m.size) (i:=1) 0 rfl (by simp) fun h9 Q U=>Q.fillAt 0 rfl (by simp) fun hA f uA=>?_⟩
 have X:((n:Int)==(1:Int))=decide (n=1):=by
  by_cases e:n=1
  ·subst e;rfl
  ·rw[decide_eq_false e];exact beq_eq_false_iff_ne.2 (by omega)
 rw[X]at f;have f:Rd q b (fj s7).2 (bU m.size (La ((id:Int),decide (n=1),o)) 110::bU A.size (La (0,false,qG)) 110::bU h.size (Q1 b k x) 95::Ss) hA:=f;refine⟨_,f.cl 0 rfl 0,_,f.cl 0 rfl 1,_,f.cl 0 rfl 2,_,f.cl 0 rfl 3,_,f.cl 0 rfl 4,_,f.cl 0 rfl 5,_,f.cl 0 rfl 6,_,f.cl 0 rfl 7,f.fill 1 rfl (by rfl) fun E g uB=>?_⟩
 have g:Rd q b (fj s7).2 (bU m.size (La ((id:Int),decide (n=1),o)) 110::bU A.size (La ((id:Int),decide (n=1),o)) 110::bU h.size (Q1 b k x) 95::Ss) E:=g;have N:Upd (fun y=>y=m.size∨y=A.size) T E:=((U.mono fun y d=>.inl (.inl d)).tr (uA.mono fun y d=>.inl (.inl d))).tr (uB.mono fun y d=>.inl (.inr d))
 refine⟨_,g.cl 1 rfl 0,_,g.cl 1 rfl 1,_,g.cl 1 rfl 2,_,g.cl 1 rfl 3,_,g.cl 1 rfl 4,_,g.cl 1 rfl 5,_,g.cl 1 rfl 6,_,g.cl 1 rfl 7,J E ((id:Int),decide (n=1),o) g.tail.tail.tail ?_ ⟨rfl,rfl,?_⟩⟩
 ·exact((w.tr (u8.mono fun y d=>.inl (.inl d))).tr (N.mono fun y d=>.inl (.inr (by omega)))).mono fun y d=>d
 ·exact(ti.updM N fun y d=>.inl (by show y<H.size;omega)).less fun y d=>.inl (by show y<H.size;have d:y<h.size:=d;omega)
theorem PE{yi:Nat}(r:Rd q b s (bU yi (Q1 b 0 ⟨0,0,0⟩) 95::Ss) h){K:Unit→ae→Prop}
  (n:∀h',Rd q b (jW s).2 (bU yi (Q1 b (jW s).1.1 (jW s).1.2) 95::Ss) h'→Upd (fun y=>y=b∨y=yi) h h'→K () h'):
  eJ 29 [gF yi] K h:=by
 refine Ei _ ?_;dsimp only[wR,vz,sq,Zc,ce,dq,mH,pP,dg,FA,dy];refine Join.intro (fun _ h'=>Rd q b (if(aP s).1=81 then(aP s).2 else cS 9 (aP s).2) (bU yi (Q1 b 0 ⟨0,0,0⟩) 95::Ss) h'∧Upd (fun y=>y=b∨y=yi) h h')
  (fun R E=>⟨_,rfl,_,r.cl 0 rfl 0,DZ r.i fun P v j=>CondP.intro (fun c=>⟨_,rfl,_,(r.rd v j).cl 0 rfl 0,lX v fun h2 x o=>E _ _ ⟨?_,(j.tr o).mono fun y d=>.inl (.inl d)⟩⟩) fun c=>E _ _ ⟨?_,j.mono fun y d=>.inl (.inl d)⟩⟩) ?_
 ·have c:(aP s).1≠81:=fun e=>by rw[e]at c;exact absurd c (by decide)
  rw[if_neg c];exact(r.rd v j).rd x o
 ·have c:(aP s).1=81:=by
   have c:((aP s).1:Int)=81:=by simpa using c
   omega
  rw[if_pos c];exact r.rd v j
 rintro _ P ⟨w,j⟩;have L:jW s=(if(aP (if(aP s).1=81 then(aP s).2 else cS 9 (aP s).2)).1=0 then
   ((0,⟨(f8 (aP (if(aP s).1=81 then(aP s).2 else cS 9 (aP s).2)).2).1,(f8 (f8 (aP (if(aP s).1=81 then(aP s).2 else cS 9 (aP s).2)).2).2).1,(f8 (f8 (f8 (aP (if(aP s).1=81 then(aP s).2 else cS 9 (aP s).2)).2).2).2).1⟩),(f8 (f8 (f8 (aP (if(aP s).1=81 then(aP s).2 else cS 9 (aP s).2)).2).2).2).2)
   else if(aP (if(aP s).1=81 then(aP s).2 else cS 9 (aP s).2)).1=1 then((1,⟨0,0,0⟩),(aP (if(aP s).1=81 then(aP s).2 else cS 9 (aP s).2)).2)else(((aP (if(aP s).1=81 then(aP s).2 else cS 9 (aP s).2)).1,⟨0,0,0⟩),cS 11 (aP (if(aP s).1=81 then(aP s).2 else cS 9 (aP s).2)).2)):=rfl
 rw[L]at n;generalize (if(aP s).1=81 then(aP s).2 else cS 9 (aP s).2)=s1 at*
 have T:=M8 s1;refine⟨_,rfl,_,w.cl 0 rfl 0,DZ w.i fun h2 x o=>?_⟩
 rw[Go.IntWalk.i64_in _ (by omega)];refine⟨_,rfl,(w.rd x o).wr (p:=yi) (i:=1) 0 rfl (by simp) fun B f J=>?_⟩
 have z:Upd (fun y=>y=b∨y=yi) h B:=(j.tr (o.mono fun y d=>.inl (.inl d))).tr (J.mono fun y d=>.inl (.inr d))
 have f:Rd q b (aP s1).2 (bU yi (Q1 b (aP s1).1 ⟨0,0,0⟩) 95::Ss) B:=f;refine⟨_,rfl,_,f.cl 0 rfl 1,CondP.intro (fun c=>?_) fun c=>CondP.intro (fun g=>n B ?_ z) fun g=>⟨_,rfl,_,f.cl 0 rfl 0,lX f.i fun D C m=>n D ?_ (z.tr (m.mono fun y d=>.inl (.inl d)))⟩⟩
 ·have c:(aP s1).1=0:=by
   have c:((aP s1).1:Int)=0:=by simpa using c
   omega
  rw[if_pos c]at n;refine⟨_,rfl,_,f.cl 0 rfl 0,_,rfl,_,f.cl 0 rfl 0,_,rfl,_,f.cl 0 rfl 0,Bh f.i fun D C m=>?_⟩
  have u:=f.rd C m;refine⟨u.cl 0 rfl 0,u.cl 0 rfl 0,Bh u.i fun S I H=>?_⟩
  have A:=u.rd I H;refine⟨A.cl 0 rfl 0,Bh A.i fun U N F=>⟨_,rfl,(A.rd N F).fillAt 0 rfl (by simp) fun Q G O=>n Q ?_ ?_⟩⟩
  ·rw[c]at G;exact G
  ·exact(((z.tr (m.mono fun y d=>.inl (.inl d))).tr (H.mono fun y d=>.inl (.inl d))).tr (F.mono fun y d=>.inl (.inl d))).tr (O.mono fun y d=>.inl (.inr d))
 ·have c:(aP s1).1≠0:=fun e=>by rw[e]at c;exact absurd c (by decide)
  have g:(aP s1).1=1:=by
   have c:((aP s1).1:Int)=1:=by simpa using g
   omega
  rw[if_neg c,if_pos g];rw[g]at f;exact f
 ·have c:(aP s1).1≠0:=fun e=>by rw[e]at c;exact absurd c (by decide)
  have g:(aP s1).1≠1:=fun e=>by rw[e]at g;exact absurd g (by decide)
  rw[if_neg c,if_neg g];exact f.rd C m
end
end Go.Proofs
