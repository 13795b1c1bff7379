/- A part of the proof that the named laws of this program answer true, whatever the input. -/
import Derived.Test.YtceikogjngfacaaGreatPart6
import Derived.Test.YtceikogjngfacaaGreatLaw0
import Derived.Test.YtceikogjngfacaaGreatPart0
import Derived.Sort.AssemblyPlain
open BitVec renaming ofInt→ao
open Bool renaming and_eq_true→bc
open Go.IntKind renaming wrap→ac,bits→ai
open Int renaming tdiv→jF,tdiv_eq_ediv_of_nonneg→nF
open List renaming length_singleton→aQ
open List.Pairwise renaming nil→fG
open Nat renaming lt_of_lt_of_le→aG,zero_le→bJ,le_refl→aq,mul_le_mul_left→kQ,le_of_eq→kj,div_mul_le_self→kR,mul_comm→ig,mul_assoc→pi
open Prod renaming mk→sd
namespace Go.Proofs
open Go Go.Lift
theorem Ts{M:Nat→Prop}{h:af}{so:SliceV}{out:List Int}{x:Int}{K:SliceV→af→Prop}(e:OwnS u32 1 lC M h so out)(hM:∀b,h.size≤b→M b)(i:out.length≤1000000000)
  (f:∀s' c,OwnS u32 1 lC M c s' (out++ [x])→Upd M h c→K s' c):
  ∃xs,SRow (hnew h [.int .u32 x] lC) (some (aI h)) (1*1) xs∧AppP (some [.int .u32 0]) 1 4 lC so.a so.len so.cap 1 xs (hnew h [.int .u32 x] lC) K:=by
 have k:=Upd.hnew No h [.int .u32 x] lC;refine⟨_,((T8 (M:=fun _=>True) h x trivial).sl (W:=No) fun _ _ _ h=>h).srow,?_⟩
 refine AppP.own (ys:= [x]) (e.upd k fun _ _ h=>h) rfl rfl rfl rfl (by omega) (by simp only[aQ];omega) (hM _ (by rw[gS];omega)) fun s' c d g=>?_
 exact f s' c d ((Upd.hnew M h _ _).tr g)
theorem QR{h:af}{r:Nat}{m:List (Int×SliceV)}(hm:MapAt KE sv h r m){K:Value→af→Prop}
  (p:∀fv h',Gives PG fv u32 m.length (fun xs=>xs.Perm (m.map (·.1))) (fun b=>b=r∨b=h.size) h'→Upd No h h'→K fv h'):HC PG gd [.map (some r)] [.c .raw] K h:=by
 refine qg (some r) ?_;unfold jP;have k:=Upd.hnew No h [.map (some r)] rV;refine p _ _ ?_ k;refine FP (hm.upd k id) (bx:=h.size) (c6 ..) fun y s K j f=>oC y ⟨h.size,0,none⟩ ?_
 unfold fO;obtain⟨c,⟨es,d⟩,f⟩:=f;refine⟨some r,by rw[bP j];rfl,c,.inr ⟨r,es,rfl,d⟩,?_⟩
 refine(f _ rfl).imp fun I t h n=>n.imp id fun e h2 ⟨x,v,g,o,q,i⟩=>⟨rfl,e,x,v,g,o,q,i⟩
theorem JN{h:af}{fv:Value}{N:Nat}{S:List Int→Prop}{Q:Nat→Prop}(hg:Gives PG fv u32 N S Q h)(hN:N≤1000000000){K:SliceV→af→Prop}
  (hk:∀s' d xs,S xs→OwnS u32 1 lC (fun b=>h.size≤b) d s' xs→Upd No h d→K s' d):HC PG iR [.slice none 0 0,fv] [.c .slice] K h:=by
 refine tf ⟨none,0,0⟩ fv ?_;unfold mg Uk;have k0:=Upd.hnew No h [.slice none 0 0] vq;have b0:=c6 h [.slice none 0 0] vq;have V:(hnew h [.slice none 0 0] vq).size=h.size+1:=gS ..;have O:=hg.upd k0 fun _ _=>id
 simp only[At];generalize hnew h [.slice none 0 0] vq=h1 at O k0 b0 V;refine⟨fun lo hlo m=>?_⟩
 obtain⟨f,first,cap,rfl,D⟩:=O.run
 refine⟨f,first,cap,rfl,?_⟩
 have k1:Upd No h1 ((h1.push (.deferred (some []))).push (lo .ready none)):=(Upd.push No _ _).tr (Upd.push No _ _);have l2:((h1.push (.deferred (some []))).push (lo .ready none))[h1.size+1]? =some (lo .ready none):=by
  have:=qo (h1.push (.deferred (some []))) (lo .ready none);rwa [Array.size_push]at this
 have l1:((h1.push (.deferred (some []))).push (lo .ready none))[h1.size]? =some (.deferred (some [])):=(Upd.push No _ _).get0 (qo h1 _);refine D (.func (.yield (h1.size+1)) #[] #[]) (fun k A d=>(∀b,A b→b<d.size∧h.size≤b)∧A h.size∧A h1.size∧A (h1.size+1)∧d[h1.size]? =some (.deferred (some []))∧d[h1.size+1]? =some (lo .ready none)∧
   ∃s:SliceV,d[h.size]? =some (.cells #[sv s] vq (0,0))∧OwnS u32 1 lC (fun b=>A b∧h1.size+1<b) d s k∧k.length≤N)
  (fun b=>b=h.size∨b=h1.size∨b=h1.size+1) No _ _ ⟨fun _ _ _ L b c=>(L.1 b c).1,fun k A d h'' B L y T=>?_,fun k A d x K' L hlen hK=>?_⟩ ?_ k1 (fun _ _=>id) (fun b c hq=>?_) ?_
 ·obtain⟨F,h2,n,p,R,h6,s,h7,h8,h9⟩:=L
  exact⟨fun b c=>⟨aG (F b c).1 y.size,(F b c).2⟩,h2,n,p,y.get R (T _ n),y.get h6 (T _ p),s,y.get h7 (T _ h2),h8.upd y fun b c=>T b c.1,h9⟩
 ·obtain⟨w,e,u,i,hd,I,s,U,Y,Z⟩:=L
  refine m x d K' I ⟨I,?_⟩;have t:Upd (· =h1.size+1) d (d.setIfInBounds (h1.size+1) (lo .busy none)):=Upd.set _ _ rfl
  have X:=fe (o:=lo .busy none) I;have sb:=t.size;generalize d.setIfInBounds (h1.size+1) (lo .busy none)=h2 at t X sb;refine⟨s,by rw[eS,bP (t.get U (by omega))];rfl,?_⟩
  refine Ts (M:=fun b=>(A b∨h2.size≤b)∧h1.size+1<b) ((Y.upd t fun b c=>by omega).more fun b c=>⟨.inl c.1,c.2⟩) (fun b c=>⟨.inr c,by have:=bo X;omega⟩) (by omega) fun s' n ho3 g=>?_
  have q:n[h.size]? =some (.cells #[sv s] vq (0,0)):=g.get (t.get U (by omega)) (by omega);refine⟨by rw[eS];exact gI q (by simp),?_⟩;have z:Upd (· =h.size) n (hset n (aI h) (.slice s'.a s'.len s'.cap)):=Upd.hset _ _ rfl
  have E:(hset n (aI h) (.slice s'.a s'.len s'.cap))[h.size]? =some (.cells #[sv s'] vq (0,0)):=by
   rw[eS,oL q,fe q];rfl
  generalize hset n (aI h) (.slice s'.a s'.len s'.cap)=p at z E;have G:p[h1.size+1]? =some (lo .busy none):=z.get (g.get X (by omega)) (by omega);refine⟨G,?_⟩;have j:Upd (· =h1.size+1) p (p.setIfInBounds (h1.size+1) (lo .ready none)):=Upd.set _ _ rfl
  have W:=fe (o:=lo .ready none) G;have C:Upd A d p:=((t.mono (M':=A) fun b c=>.inl (c▸i)).trans g fun b c=>c.1.imp id fun h=>by omega).trans z fun b c=>.inl (c▸e)
  have z3:=g.size;have z4:=z.size;have z5:=j.size;refine hK _ (fun b=>(A b∨h2.size≤b)∧b<p.size) ⟨fun b c=>⟨aG c.2 z5,c.1.elim (fun h=>(w b h).2) fun h=>by have:=(w _ e).1;omega⟩,⟨.inl e,by have:=(w _ e).1;omega⟩,⟨.inl u,by have:=(w _ u).1;omega⟩,⟨.inl i,by have:=(w _ i).1;omega⟩,
   j.get (z.get (g.get (t.get hd (by omega)) (by omega)) (by omega)) (by omega),W,s',j.get E (by omega),?_,by simp;omega⟩ (C.trans j fun b c=>.inl (c▸i)) fun b c=>c.1.imp id fun h=>by omega
  exact(((ho3.upd z fun b c=>by omega).within).more fun b c=>⟨⟨c.1.1,c.2⟩,c.1.2⟩).upd j fun b c=>by omega
 ·refine⟨fun b c=>?_,.inl rfl,.inr (.inl rfl),.inr (.inr rfl),l1,l2,⟨none,0,0⟩,k1.get0 b0,OwnS.nil IS,bJ _⟩
  have:=bo l2;rcases c with rfl|rfl|rfl<;>omega
 ·have:=hg.lt b hq
  rcases c with rfl|rfl|rfl<;>omega
 ·rintro xs A' d hS ⟨w,e,u,i,hd,I,s,U,Y,Z⟩ y hA'
  refine⟨.ready,none,by decide,I,?_⟩
  have j:Upd (· =h1.size+1) d (d.setIfInBounds (h1.size+1) (lo .exhausted none)):=Upd.set _ _ rfl
  show∃v:SliceV,bj (d.setIfInBounds (h1.size+1) (lo .exhausted none)) (aI h)=some (.slice v.a v.len v.cap)∧_
  have H:=j.get hd (show ¬h1.size=h1.size+1 by omega)
  have P:=j.get U (show ¬h.size=h1.size+1 by omega)
  have J:=Y.upd j fun b c=>by omega
  generalize d.setIfInBounds (h1.size+1) (lo .exhausted none)=R at j H P J;refine⟨s,by rw[eS,bP P];rfl,H,?_⟩
  have k6:Upd (· =h1.size) R (R.setIfInBounds h1.size (.deferred none)):=Upd.set _ _ rfl
  refine hk s _ xs hS ((J.upd k6 fun b c=>by omega).more fun b c=>(w b c.1).2) ?_
  refine(((k0.tr k1).trans y fun b c=>?_).trans j fun b c=>.inr (by omega)).trans k6 fun b c=>.inr (by omega)
  rcases c with rfl|rfl|rfl<;>(right;omega)
theorem M3{h:af}{c:Value}{N:Nat}{S:List Int→Prop}{Q:Nat→Prop}(d:Gives PG c u32 N S Q h)(e:N≤1000000000){K:SliceV→af→Prop}
  (f:∀s' h' xs,S xs→OwnS u32 1 lC (fun b=>h.size≤b) h' s' xs→Upd No h h'→K s' h'):HC PG ng [c] [.c .slice] K h:=by
 refine za c ?_;unfold sI;exact JN d e f
end Go.Proofs
namespace Go.Proofs
open Go Go.Lift Go.Sort
abbrev Jv(x:Int):List Value:= [.int .i64 x]
theorem QZ(x:Int):(Jv x).length=1∧0<1:=⟨rfl,Nat.one_pos⟩
abbrev VJ(W:Nat→Prop)(h:af)(s:SliceV)(xs:List Int):Prop:=Sl Jv 1 W h s xs
theorem O3{x:Int}{h:af}{K:Bool→af→Prop}(b:K false h):HC PG iU [.int .i64 x] [.c .bool] K h:=by
 refine yg x ?_;unfold tp;rw[show(x !=x)=false by simp];exact b
theorem QM{x y:Int}{h:af}{K:Bool→af→Prop}(b:K (decide (x<y)) h):HC PG db [.int .i64 x,.int .i64 y] [.c .bool] K h:=by
 refine Gz x y ?_;unfold zF;refine O3 ?_;exact aH.2 b
theorem RZ{M:Nat→Prop}{h:af}{so:SliceV}{out:List Int}{x:Int}{K:SliceV→af→Prop}(e:OwnS Jv 1 il M h so out)(hM:∀b,h.size≤b→M b)(i:out.length≤1000000000)
  (f:∀s' c,OwnS Jv 1 il M c s' (out++ [x])→Upd M h c→K s' c):
  ∃xs,SRow (hnew h [.int .i64 x] il) (some (aI h)) (1*1) xs∧AppP (some [.int .i64 0]) 1 8 il so.a so.len so.cap 1 xs (hnew h [.int .i64 x] il) K:=by
 have k:=Upd.hnew No h [.int .i64 x] il;refine⟨_,((OwnS.one QZ (c6 ..)).sl (W:=No) fun _ _ _ h=>h).srow,?_⟩
 refine AppP.own (ys:= [x]) (e.upd k fun _ _ h=>h) rfl rfl rfl rfl (by omega) (by simp only[aQ];omega) (hM _ (by rw[gS];omega)) fun s' c d g=>?_
 exact f s' c d ((Upd.hnew M h _ _).tr g)
theorem Hg{h:af}{fv:Value}{N:Nat}{S:List Int→Prop}{Q:Nat→Prop}(hg:Gives PG fv Jv N S Q h)(hN:N≤1000000000){K:SliceV→af→Prop}
  (hk:∀s' d xs,S xs→OwnS Jv 1 il (fun b=>h.size≤b) d s' xs→Upd No h d→K s' d):HC PG iS [.slice none 0 0,fv] [.c .slice] K h:=by
 refine th ⟨none,0,0⟩ fv ?_;unfold mh pF;have k0:=Upd.hnew No h [.slice none 0 0] vr;have b0:=c6 h [.slice none 0 0] vr;have V:(hnew h [.slice none 0 0] vr).size=h.size+1:=gS ..;have O:=hg.upd k0 fun _ _=>id
 simp only[At];generalize hnew h [.slice none 0 0] vr=h1 at O k0 b0 V;refine⟨fun lo hlo m=>?_⟩
 obtain⟨f,first,cap,rfl,D⟩:=O.run
 refine⟨f,first,cap,rfl,?_⟩
 have k1:Upd No h1 ((h1.push (.deferred (some []))).push (lo .ready none)):=(Upd.push No _ _).tr (Upd.push No _ _);have l2:((h1.push (.deferred (some []))).push (lo .ready none))[h1.size+1]? =some (lo .ready none):=by
  have:=qo (h1.push (.deferred (some []))) (lo .ready none);rwa [Array.size_push]at this
 have l1:((h1.push (.deferred (some []))).push (lo .ready none))[h1.size]? =some (.deferred (some [])):=(Upd.push No _ _).get0 (qo h1 _);refine D (.func (.yield (h1.size+1)) #[] #[]) (fun k A d=>(∀b,A b→b<d.size∧h.size≤b)∧A h.size∧A h1.size∧A (h1.size+1)∧d[h1.size]? =some (.deferred (some []))∧d[h1.size+1]? =some (lo .ready none)∧
   ∃s:SliceV,d[h.size]? =some (.cells #[sv s] vr (0,0))∧OwnS Jv 1 il (fun b=>A b∧h1.size+1<b) d s k∧k.length≤N)
  (fun b=>b=h.size∨b=h1.size∨b=h1.size+1) No _ _ ⟨fun _ _ _ L b c=>(L.1 b c).1,fun k A d h'' B L y T=>?_,fun k A d x K' L hlen hK=>?_⟩ ?_ k1 (fun _ _=>id) (fun b c hq=>?_) ?_
 ·obtain⟨F,h2,n,p,R,h6,s,h7,h8,h9⟩:=L
  exact⟨fun b c=>⟨aG (F b c).1 y.size,(F b c).2⟩,h2,n,p,y.get R (T _ n),y.get h6 (T _ p),s,y.get h7 (T _ h2),h8.upd y fun b c=>T b c.1,h9⟩
 ·obtain⟨w,e,u,i,hd,I,s,U,Y,Z⟩:=L
  refine m x d K' I ⟨I,?_⟩;have t:Upd (· =h1.size+1) d (d.setIfInBounds (h1.size+1) (lo .busy none)):=Upd.set _ _ rfl
  have X:=fe (o:=lo .busy none) I;have sb:=t.size;generalize d.setIfInBounds (h1.size+1) (lo .busy none)=h2 at t X sb;refine⟨s,by rw[eS,bP (t.get U (by omega))];rfl,?_⟩
  refine RZ (M:=fun b=>(A b∨h2.size≤b)∧h1.size+1<b) ((Y.upd t fun b c=>by omega).more fun b c=>⟨.inl c.1,c.2⟩) (fun b c=>⟨.inr c,by have:=bo X;omega⟩) (by omega) fun s' n ho3 g=>?_
  have q:n[h.size]? =some (.cells #[sv s] vr (0,0)):=g.get (t.get U (by omega)) (by omega);refine⟨by rw[eS];exact gI q (by simp),?_⟩;have z:Upd (· =h.size) n (hset n (aI h) (.slice s'.a s'.len s'.cap)):=Upd.hset _ _ rfl
  have E:(hset n (aI h) (.slice s'.a s'.len s'.cap))[h.size]? =some (.cells #[sv s'] vr (0,0)):=by
   rw[eS,oL q,fe q];rfl
  generalize hset n (aI h) (.slice s'.a s'.len s'.cap)=p at z E;have G:p[h1.size+1]? =some (lo .busy none):=z.get (g.get X (by omega)) (by omega);refine⟨G,?_⟩;have j:Upd (· =h1.size+1) p (p.setIfInBounds (h1.size+1) (lo .ready none)):=Upd.set _ _ rfl
  have W:=fe (o:=lo .ready none) G;have C:Upd A d p:=((t.mono (M':=A) fun b c=>.inl (c▸i)).trans g fun b c=>c.1.imp id fun h=>by omega).trans z fun b c=>.inl (c▸e)
  have z3:=g.size;have z4:=z.size;have z5:=j.size;refine hK _ (fun b=>(A b∨h2.size≤b)∧b<p.size) ⟨fun b c=>⟨aG c.2 z5,c.1.elim (fun h=>(w b h).2) fun h=>by have:=(w _ e).1;omega⟩,⟨.inl e,by have:=(w _ e).1;omega⟩,⟨.inl u,by have:=(w _ u).1;omega⟩,⟨.inl i,by have:=(w _ i).1;omega⟩,
   j.get (z.get (g.get (t.get hd (by omega)) (by omega)) (by omega)) (by omega),W,s',j.get E (by omega),?_,by simp;omega⟩ (C.trans j fun b c=>.inl (c▸i)) fun b c=>c.1.imp id fun h=>by omega
  exact(((ho3.upd z fun b c=>by omega).within).more fun b c=>⟨⟨c.1.1,c.2⟩,c.1.2⟩).upd j fun b c=>by omega
 ·refine⟨fun b c=>?_,.inl rfl,.inr (.inl rfl),.inr (.inr rfl),l1,l2,⟨none,0,0⟩,k1.get0 b0,OwnS.nil QZ,bJ _⟩
  have:=bo l2;rcases c with rfl|rfl|rfl<;>omega
 ·have:=hg.lt b hq
  rcases c with rfl|rfl|rfl<;>omega
 ·rintro xs A' d hS ⟨w,e,u,i,hd,I,s,U,Y,Z⟩ y hA'
  refine⟨.ready,none,by decide,I,?_⟩
  have j:Upd (· =h1.size+1) d (d.setIfInBounds (h1.size+1) (lo .exhausted none)):=Upd.set _ _ rfl
  show∃v:SliceV,bj (d.setIfInBounds (h1.size+1) (lo .exhausted none)) (aI h)=some (.slice v.a v.len v.cap)∧_
  have H:=j.get hd (show ¬h1.size=h1.size+1 by omega)
  have P:=j.get U (show ¬h.size=h1.size+1 by omega)
  have J:=Y.upd j fun b c=>by omega
  generalize d.setIfInBounds (h1.size+1) (lo .exhausted none)=R at j H P J;refine⟨s,by rw[eS,bP P];rfl,H,?_⟩
  have k6:Upd (· =h1.size) R (R.setIfInBounds h1.size (.deferred none)):=Upd.set _ _ rfl
  refine hk s _ xs hS ((J.upd k6 fun b c=>by omega).more fun b c=>(w b c.1).2) ?_
  refine(((k0.tr k1).trans y fun b c=>?_).trans j fun b c=>.inr (by omega)).trans k6 fun b c=>.inr (by omega)
  rcases c with rfl|rfl|rfl<;>(right;omega)
theorem Lp{h:af}{c:Value}{N:Nat}{S:List Int→Prop}{Q:Nat→Prop}(d:Gives PG c Jv N S Q h)(e:N≤1000000000){K:SliceV→af→Prop}
  (f:∀s' h' xs,S xs→OwnS Jv 1 il (fun b=>h.size≤b) h' s' xs→Upd No h h'→K s' h'):HC PG nh [c] [.c .slice] K h:=by
 refine zd c ?_;unfold sJ;exact Hg d e f
end Go.Proofs
namespace Go.Proofs
open Go Go.Lift Go.Sort
section
theorem Aa(l:List Int):l.flatMap Jv=l.map fun x=>Value.int .i64 x:=by
 induction l with
 |nil=>rfl
 |cons x l ih=>rw[List.flatMap_cons,ih];rfl
structure SAJ(s:SliceV)(b:Nat)(rest:List Value)(h:af)(d:Array Int):Prop where
 a:s.a=some ⟨b,0,none⟩
 len:s.len=d.size
 blk:h[b]? =some (.cells (d.toList.flatMap Jv++rest).toArray il (0,0))
 small:d.size≤1000000000
variable {s:SliceV} {b:Nat} {rest:List Value} {h:af} {d:Array Int}
theorem SAJ.get(c:SAJ s b rest h d){i:Nat}(hi:i<d.size):bj h (adr ⟨b,0,none⟩ (((i:Int)).toNat*1))=some (.int .i64 d[i]!):=by
 rw[dt,bP c.blk,List.getElem?_toArray,Aa,List.getElem?_append_left (by simp;omega)];simp[hi]
theorem SAJ.upd{M:Nat→Prop}{e:af}(c:SAJ s b rest h d)(k:Upd M h e)(f:¬M b):SAJ s b rest e d:=⟨c.a,c.len,k.get c.blk f,c.small⟩
theorem SAJ.put(c:SAJ s b rest h d){i:Nat}(hi:i<d.size)(x:Int):Wr h (adr ⟨b,0,none⟩ (((i:Int)).toNat*1))∧SAJ s b rest (hset h (adr ⟨b,0,none⟩ (((i:Int)).toNat*1)) (.int .i64 x)) (d.setIfInBounds i x)∧
  Upd (· =b) h (hset h (adr ⟨b,0,none⟩ (((i:Int)).toNat*1)) (.int .i64 x)):=by
 have e:adr ⟨b,0,none⟩ (((i:Int)).toNat*1)=⟨b,i,none⟩:=by rw[dt];simp
 rw[e];refine⟨gI c.blk (by rw[Aa];simp;omega),⟨c.a,by rw[c.len];simp,?_,by simpa using c.small⟩,Upd.hset _ _ rfl⟩
 rw[oL c.blk,fe c.blk,Aa,Aa,Array.toList_setIfInBounds];congr 2
 rw[List.setIfInBounds_toArray,List.set_append_left _ _ (by simp;omega),List.map_set]
theorem SAJ.ld1(c:SAJ s b rest h d){t:Int}{i:Nat}(e:t=(i:Int))(hi:i<d.size){R:Int→Prop}(f:R d[i]!):
  ((0:Int)≤t∧t<((s.len:Nat):Int))∧∃a:Addr,s.a=some a∧∃v:Int,bj h (adr a (t.toNat*1))=some (.int .i64 v)∧R v:=by
 subst e;exact⟨by rw[c.len];omega,_,c.a,_,c.get hi,f⟩
theorem SAJ.st(c:SAJ s b rest h d){t x:Int}{i:Nat}(e:t=(i:Int))(hi:i<d.size){R:af→Prop}(j:∀h',SAJ s b rest h' (d.setIfInBounds i x)→Upd (· =b) h h'→R h'):
  ((0:Int)≤t∧t<((s.len:Nat):Int))∧∃a:Addr,s.a=some a∧(Wr h (adr a (t.toNat*1))∧At (hset h (adr a (t.toNat*1)) (.int .i64 x)) R):=by
 subst e;obtain⟨g,h2,f⟩:=c.put hi x;exact⟨by rw[c.len];omega,_,c.a,g,j _ h2 f⟩
@[simp] theorem UQ(d:Array Int)(i j:Nat):(swp d i j).size=d.size:=by simp[swp]
theorem SAJ.swap(f:SAJ s b rest h d){ti c:Int}{i j:Nat}(n:ti=(i:Int))(o:c=(j:Int))(hi:i<d.size)(m:j<d.size){R:af→Prop}(q:∀h',SAJ s b rest h' (swp d i j)→Upd (· =b) h h'→R h'):
  ((0:Int)≤c∧c<((s.len:Nat):Int))∧∃a:Addr,s.a=some a∧∃v:Int,bj h (adr a (c.toNat*1))=some (.int .i64 v)∧
   (((0:Int)≤ti∧ti<((s.len:Nat):Int))∧∃a':Addr,s.a=some a'∧∃v':Int,bj h (adr a' (ti.toNat*1))=some (.int .i64 v')∧
    (((0:Int)≤ti∧ti<((s.len:Nat):Int))∧∃a'':Addr,s.a=some a''∧(Wr h (adr a'' (ti.toNat*1))∧At (hset h (adr a'' (ti.toNat*1)) (.int .i64 v)) (fun k=>
     (((0:Int)≤c∧c<((s.len:Nat):Int))∧∃a3:Addr,s.a=some a3∧(Wr k (adr a3 (c.toNat*1))∧At (hset k (adr a3 (c.toNat*1)) (.int .i64 v')) R)))))):=by
 refine f.ld1 o m (f.ld1 n hi (f.st n hi fun k g k1=>g.st o (by simpa using m) fun h2 e p=>q h2 e (k1.tr p)))
theorem SAJ.less(e:SAJ s b rest h d){ti c:Int}{i j:Nat}(f:ti=(i:Int))(k:c=(j:Int))(hi:i<d.size)(g:j<d.size){R:Bool→af→Prop}(m:R (ltInt d[i]! d[j]!) h):
  ((0:Int)≤ti∧ti<((s.len:Nat):Int))∧∃a:Addr,s.a=some a∧∃v:Int,bj h (adr a (ti.toNat*1))=some (.int .i64 v)∧
   (((0:Int)≤c∧c<((s.len:Nat):Int))∧∃a':Addr,s.a=some a'∧∃v':Int,bj h (adr a' (c.toNat*1))=some (.int .i64 v')∧HC PG db [.int .i64 v,.int .i64 v'] [.c .bool] R h):=
 e.ld1 f hi (e.ld1 k g (QM m))
theorem K9(N:SAJ s b rest h d){a e:Nat}(ha:a≤e)(Y:e≤d.size){K:Unit→af→Prop}(T:∀c,SAJ s b rest c (insertionSort ltInt d a e)→Upd (· =b) h c→K () c):
  HC PG gb [.slice s.a s.len s.cap,.int .i64 a,.int .i64 e] [] K h:=by
 refine jM s a e ?_;unfold gf aW cp cu ru;have V:=N.small;refine LoopP.ghost (fun(g:Nat×Array Int) (t:Int) c=>t=(g.1:Int)∧SAJ s b rest c g.2∧g.2.size=d.size∧insOuter ltInt a e g.1 g.2=insertionSort ltInt d a e∧Upd (· =b) h c∧a<g.1) (fun g=>e-g.1) (a+1,d)
  ⟨by rw[dW (by omega)];rfl,N,rfl,rfl,Upd.refl _ _,by simp⟩ ?_
 rintro I ⟨i,L⟩ t h1 ⟨v,n,w,q,y,F⟩ W;simp only at v n w q F;subst v;refine av (fun z=>?_) fun Q=>?_
 ·have z:i<e:=by omega
  refine LoopP.ghost (fun(g:Nat×Array Int) (t:Int) c=>t=(g.1:Int)∧SAJ s b rest c g.2∧g.2.size=d.size∧insInner ltInt a g.1 g.2=insInner ltInt a i L∧Upd (· =b) h c∧g.1≤i) (fun g=>g.1) (i,L)
   ⟨rfl,n,w,rfl,y,aq _⟩ ?_
  rintro Z ⟨j,m⟩ t h2 ⟨v,f,o,p,u,H⟩ C;simp only at v f o p H;subst v;refine Join.intro (fun t c=>c=h2∧(t=true↔a<j∧ltInt m[j]! m[j-1]! =true)) (fun R P=>?_) ?_
  ·refine av (fun A=>?_) fun U=>P _ _ ⟨rfl,by simp;omega⟩
   have A:a<j:=by omega
   exact f.less rfl (j:=j-1) (by rw[dW (by omega)];omega) (by omega) (by omega) (P _ _ ⟨rfl,by simp[A]⟩)
  ·rintro t c ⟨rfl,x⟩
   refine CondP.intro (fun B=>?_) fun B=>?_
   ·obtain⟨S,J⟩:=x.1 B
    refine f.swap (i:=j) (j:=j-1) rfl (by rw[dW (by omega)];omega) (by omega) (by omega) fun h6 D G=>?_
    refine C (j-1,swp m j (j-1)) _ _ ⟨by rw[dW (by omega)];simp only;omega,D,by simp[o],?_,u.tr G,by simp only;omega⟩ (by simp only;omega)
    rw[←p];obtain⟨O,rfl⟩:∃O,j=O+1:=⟨j-1,by omega⟩
    simp only[Nat.add_sub_cancel]at J⊢;rw[insInner,if_pos (by simp[J,S])]
   ·have k:¬(a<j∧ltInt m[j]! m[j-1]! =true):=fun X=>by rw[x.2 X]at B;cases B
    have E:insInner ltInt a j m=m:=by
     cases j with
     |zero=>rw[insInner]
     |succ j=>
      simp only[Nat.add_sub_cancel]at k;rw[insInner,if_neg (by simpa using k)]
    refine W (i+1,m) _ _ ⟨by rw[dW (by omega)];rfl,f,o,?_,u,by simp only;omega⟩ (by simp only;omega)
    rw[←q];conv=>rhs;rw[insOuter]
    rw[if_pos z,←p,E]
 ·refine T _ ?_ y
  rw[←q,insOuter,if_neg (by omega)];exact n
end
section
variable {s:SliceV} {b:Nat} {rest:List Value} {h:af} {d:Array Int}
@[simp] theorem Qg(lt:Int→Int→Bool)(hi first root:Nat)(d:Array Int):(siftDown lt hi first root d).size=d.size:=by
 fun_induction siftDown lt hi first root d<;>simp_all
@[simp] theorem Ey(lt:Int→Int→Bool)(hi first:Nat):∀(k:Nat) (d:Array Int),(heapBuild lt hi first k d).size=d.size
 |0,d=>rfl
 |k+1,d=>by rw[heapBuild,Ey lt hi first k];simp
theorem B0{root hi first:Nat}(D:SAJ s b rest h d)(U:first+hi≤d.size){K:Unit→af→Prop}(F:∀k,SAJ s b rest k (siftDown ltInt hi first root d)→Upd (· =b) h k→K () k)(N:root≤1000000000):
  HC PG fS [.slice s.a s.len s.cap,.int .i64 root,.int .i64 hi,.int .i64 first] [] K h:=by
 refine td s root hi first ?_
 unfold me aW cp cu ru;have O:=D.small;refine LoopP.ghost (fun(g:Nat×Array Int) (t:Int) k=>t=(g.1:Int)∧SAJ s b rest k g.2∧g.2.size=d.size∧siftDown ltInt hi first g.1 g.2=siftDown ltInt hi first root d∧Upd (· =b) h k∧g.1≤1000000000) (fun g=>hi-g.1) (root,d)
  ⟨rfl,D,rfl,rfl,Upd.refl _ _,N⟩ ?_
 rintro I ⟨i,f⟩ t H ⟨E,e,u,o,p,z⟩ P;simp only at E e u o z;subst E;have L:ac .i64 (ac .i64 (2*(i:Int))+1)=((2*i+1:Nat):Int):=by rw[dW (x:=2*(i:Int)) (by omega),dW (by omega)];omega
 have C:ac .i64 (((2*i+1:Nat):Int)+1)=((2*i+2:Nat):Int):=by rw[dW (by omega)];omega
 rw[L];refine av (fun J=>?_) fun B=>?_
 ·refine F _ ?_ p
  rw[←o,siftDown,dif_pos (by omega)];exact e
 ·have B:2*i+1<hi:=by omega
  refine Join.intro (fun t k=>k=H∧∃c:Nat,t=(c:Int)∧c=if 2*i+2<hi∧ltInt f[first+(2*i+1)]! f[first+(2*i+1)+1]! =true then 2*i+2 else 2*i+1) (fun R G=>?_) ?_
  ·refine Join.intro (fun t k=>k=H∧(t=true↔2*i+2<hi∧ltInt f[first+(2*i+1)]! f[first+(2*i+1)+1]! =true)) (fun R2 q=>?_) ?_
   ·show CondP (decide (ac .i64 (((2*i+1:Nat):Int)+1)<(hi:Int))) _ _
    rw[C];refine av (fun n=>?_) fun n=>q _ _ ⟨rfl,by simp;omega⟩
    show(((0:Int)≤ac .i64 ((first:Int)+((2*i+1:Nat):Int))∧_)∧_)
    refine e.less (i:=first+(2*i+1)) (j:=first+(2*i+1)+1) (by rw[dW (by omega)];omega) (by rw[dW (x:=(first:Int)+_) (by omega),dW (by omega)];omega) (by omega) (by omega) (q _ _ ⟨rfl,?_⟩)
    simp;omega
   ·rintro t k ⟨rfl,w⟩
    refine CondP.intro (fun n=>?_) fun n=>?_
    ·show R (ac .i64 (((2*i+1:Nat):Int)+1)) _
     rw[C];exact G _ _ ⟨rfl,_,rfl,by rw[if_pos (w.1 n)]⟩
    ·exact G _ _ ⟨rfl,_,rfl,by rw[if_neg fun S=>by rw[w.2 S]at n;cases n]⟩
  ·rintro t k ⟨rfl,c,rfl,hc⟩
   have Q:c<hi∧i<c:=by rw[hc];split<;>omega
   refine e.less (i:=first+i) (j:=first+c) (by rw[dW (by omega)];omega) (by rw[dW (by omega)];omega) (by omega) (by omega) ?_
   have m:siftDown ltInt hi first i f=if !ltInt f[first+i]! f[first+c]! then f else siftDown ltInt hi first c (swp f (first+i) (first+c)):=by
    rw[siftDown,dif_neg (by omega)];by_cases v:2*i+2<hi∧ltInt f[first+(2*i+1)]! f[first+(2*i+1)+1]! =true
    ·rw[if_pos (by simp only[bc,decide_eq_true_iff];exact v),dif_pos v.1]
     rw[if_pos v]at hc;rw[hc]
    ·rw[if_neg (by simp only[bc,decide_eq_true_iff];exact v)]
     rw[if_neg v]at hc;rw[hc]
   refine CondP.intro (fun n=>?_) fun n=>?_
   ·refine F _ ?_ p
    rw[←o,m,if_pos n];exact e
   ·refine e.swap (i:=first+i) (j:=first+c) (by rw[dW (by omega)];omega) (by rw[dW (by omega)];omega) (by omega) (by omega) fun T y A=>?_
    refine P (c,swp f (first+i) (first+c)) _ _ ⟨rfl,y,by simp[u],?_,p.tr A,by simp only;omega⟩ (by simp only;omega)
    rw[←o,m,if_neg (by rw[n];simp)]
theorem Jy{a e:Nat}(J:SAJ s b rest h d)(Z:a≤e)(U:e≤d.size){K:Unit→af→Prop}(P:∀m,SAJ s b rest m (heapSort ltInt d a e)→Upd (· =b) h m→K () m):
  HC PG iQ [.slice s.a s.len s.cap,.int .i64 a,.int .i64 e] [] K h:=by
 refine te s a e ?_;unfold mf aW cp cu un;have R:=J.small;have N:ac .i64 ((e:Int)-(a:Int))=((e-a:Nat):Int):=by rw[dW (by omega)];omega
 rw[N];refine⟨by decide,?_⟩;have G:ac .i64 (jF (ac .i64 (((e-a:Nat):Int)-1)) 2)=(((e-a-1)/2+1:Nat):Int)-1:=by
  rw[dW (x:=((e-a:Nat):Int)-1) (by omega)];by_cases Q:e-a=0
  ·rw[Q];decide
  ·rw[nF (by omega),dW (by omega)];omega
 show LoopP _ (ac .i64 (jF (ac .i64 (((e-a:Nat):Int)-1)) 2)) h
 rw[G];refine LoopP.ghost (fun(g:Nat×Array Int) (t:Int) m=>t=(g.1:Int)-1∧SAJ s b rest m g.2∧g.2.size=d.size∧heapBuild ltInt (e-a) a g.1 g.2=heapBuild ltInt (e-a) a ((e-a-1)/2+1) d∧Upd (· =b) h m∧g.1≤1000000000) (fun g=>g.1) ((e-a-1)/2+1,d)
  ⟨rfl,J,rfl,rfl,Upd.refl _ _,by simp only;omega⟩ ?_
 rintro I ⟨k,O⟩ t h1 ⟨v,n,o,q,w,A⟩ T;simp only at v n o q A;subst v;refine av (fun B=>?_) fun S=>?_
 ·obtain⟨k,rfl⟩:∃k',k=k'+1:=⟨k-1,by omega⟩
  have F:((k+1:Nat):Int)-1=(k:Int):=by omega
  rw[F];refine B0 n (by omega) (fun h2 c f=>T (k,_) _ _ ⟨by rw[dW (by omega)],c,by simp[o],?_,w.tr f,by simp only;omega⟩ (by simp)) (by omega)
  rw[←q];rfl
 ·have:k=0:=by omega
  subst this;rw[dW (x:=((e-a:Nat):Int)-1) (by omega)];refine LoopP.ghost (fun(g:Nat×Array Int) (t:Int) m=>t=(g.1:Int)-1∧SAJ s b rest m g.2∧g.2.size=d.size∧heapPop ltInt a g.1 g.2=heapSort ltInt d a e∧Upd (· =b) h m∧g.1≤e-a) (fun g=>g.1) (e-a,O)
   ⟨rfl,n,o,by rw[heapSort,←q];rfl,w,aq _⟩ ?_
  rintro V ⟨k,X⟩ t h2 ⟨v,c,u,p,f,z⟩ y;simp only at v c u p z;subst v;refine av (fun B=>?_) fun L=>?_
  ·obtain⟨k,rfl⟩:∃k',k=k'+1:=⟨k-1,by omega⟩
   have F:((k+1:Nat):Int)-1=(k:Int):=by omega
   rw[F];refine c.swap (i:=a) (j:=a+k) rfl (by rw[dW (by omega)];omega) (by omega) (by omega) fun W C H=>?_
   refine B0 (root:=0) C (by simp;omega) (fun Y D E=>y (k,_) _ _ ⟨by rw[dW (by omega)],D,by simp[u],?_,(f.tr H).tr E,by simp only;omega⟩ (by simp)) (by omega)
   rw[←p];rfl
  ·have:k=0:=by omega
   subst this;refine P _ ?_ f;rw[←p];exact c
theorem Kv{a e:Nat}(x:SAJ s b rest h d)(G:a<e)(D:e≤d.size){K:Unit→af→Prop}(z:∀m,SAJ s b rest m (reverseRange d a e)→Upd (· =b) h m→K () m):
  HC PG gt [.slice s.a s.len s.cap,.int .i64 a,.int .i64 e] [] K h:=by
 refine qM s a e ?_;unfold ki aW cp cu;have B:=x.small;refine LoopP.ghost (fun(g:Nat×Nat×Array Int) (t:Int×Int) m=>t.1=(g.1:Int)∧t.2=(g.2.1:Int)∧SAJ s b rest m g.2.2∧g.2.2.size=d.size∧reverseLoop g.1 g.2.1 g.2.2=reverseRange d a e∧Upd (· =b) h m∧g.2.1<e) (fun g=>g.2.1-g.1) (a,e-1,d)
  ⟨rfl,by simp only;rw[dW (by omega)];omega,x,rfl,rfl,Upd.refl _ _,by simp only;omega⟩ ?_
 rintro I ⟨i,j,y⟩ ⟨F,E⟩ H ⟨p,n,c,q,k,u,A⟩ C;simp only at p n c q k A;subst p n;refine av (fun f=>?_) fun o=>?_
 ·have f:i<j:=by have:(i:Int)<(j:Int):=f;omega
  refine c.swap (i:=i) (j:=j) rfl rfl (by omega) (by omega) fun h2 w v=>?_
  refine C (i+1,j-1,swp y i j) _ _ ⟨by simp only;rw[dW (by omega)];rfl,by simp only;rw[dW (by omega)];omega,w,by simp[q],?_,u.tr v,by simp only;omega⟩ (by simp only;omega)
  rw[←k];conv=>rhs;rw[reverseLoop]
  rw[if_pos f]
 ·refine z _ ?_ u
  rw[←k,reverseLoop,if_neg (by have o:¬(i:Int)<(j:Int):=o;omega)];exact c
end
section
variable {s:SliceV} {b:Nat} {rest:List Value} {h:af} {d:Array Int}
theorem A4{T:Int→(Bool→af→Prop)→af→Prop}{REST:Int→af→Prop}{p:Int→Bool}{o n:Int}{j i0:Nat}(s:n=(i0:Int))(z:o=(j:Int))(A:j≤1000000000)(w:i0≤1000000000)
  (y:∀(i:Nat) (R:Bool→af→Prop),i0≤i→i≤j→R (p d[i]!) h→T (i:Int) R h) (g:REST ((scanUp p d j i0:Nat):Int) h):
  LoopP (fun(I:Int→af→Prop) (t:Int) e=>Join (fun(c:Bool) b=>CondP c (I (ac .i64 (t+1)) b) (REST t b)) (fun J=>CondP (decide (t≤o)) (T t J e) (J false e))) n h:=by
 subst s z;refine LoopP.ghost (fun(i:Nat) (t:Int) e=>t=(i:Int)∧e=h∧i0≤i∧i≤1000000001∧scanUp p d j i=scanUp p d j i0) (fun i=>j+1-i) i0 ⟨rfl,rfl,aq _,by omega,rfl⟩ ?_
 rintro I i t e ⟨rfl,rfl,hi,q,f⟩ v;refine Join.intro (fun c b=>b=e∧(c=true↔i≤j∧p d[i]! =true)) (fun R g=>?_) ?_
 ·refine av (fun x=>?_) fun u=>g _ _ ⟨rfl,by simp;omega⟩
  exact y i _ hi (by omega) (g _ _ ⟨rfl,by simp;omega⟩)
 ·rintro c b ⟨rfl,hc⟩
  refine CondP.intro (fun k=>?_) fun k=>?_
  ·have m:=hc.1 k
   refine v (i+1) _ _ ⟨by rw[dW (by omega)];rfl,rfl,by omega,by omega,?_⟩ (by omega)
   rw[←f];conv=>rhs;rw[scanUp]
   rw[if_pos (by simp[m])]
  ·have:scanUp p d j i=i:=by
    rw[scanUp,if_neg];intro m;simp only[bc,decide_eq_true_iff]at m;rw[hc.2 m]at k;cases k
   rw[←f,this]at g;exact g
theorem xA{T:Int→(Bool→af→Prop)→af→Prop}{REST:Int→af→Prop}{p:Int→Bool}{ti q:Int}{j0 i:Nat}(s:q=(j0:Int))(w:ti=(i:Int))(A:j0≤1000000000)(x:1≤i)
  (z:∀(j:Nat) (R:Bool→af→Prop),i≤j→j≤j0→R (p d[j]!) h→T (j:Int) R h) (g:REST ((scanDown p d i j0:Nat):Int) h):
  LoopP (fun(I:Int→af→Prop) (t:Int) e=>Join (fun(c:Bool) b=>CondP c (I (ac .i64 (t-1)) b) (REST t b)) (fun J=>CondP (decide (ti≤t)) (T t J e) (J false e))) q h:=by
 subst s w;refine LoopP.ghost (fun(j:Nat) (t:Int) e=>t=(j:Int)∧e=h∧j≤j0∧scanDown p d i j=scanDown p d i j0) (fun j=>j) j0 ⟨rfl,rfl,aq _,rfl⟩ ?_
 rintro I j t e ⟨rfl,rfl,o,f⟩ v;refine Join.intro (fun c b=>b=e∧(c=true↔i≤j∧p d[j]! =true)) (fun R g=>?_) ?_
 ·refine av (fun y=>?_) fun u=>g _ _ ⟨rfl,by simp;omega⟩
  exact z j _ (by omega) o (g _ _ ⟨rfl,by simp;omega⟩)
 ·rintro c b ⟨rfl,hc⟩
  refine CondP.intro (fun m=>?_) fun m=>?_
  ·have n:=hc.1 m
   obtain⟨j,rfl⟩:∃k,j=k+1:=⟨j-1,by omega⟩
   refine v j _ _ ⟨by rw[dW (by omega)];omega,rfl,by omega,?_⟩ (by omega)
   rw[←f];conv=>rhs;rw[scanDown]
   rw[if_pos (by simp[n])]
  ·have:scanDown p d i j=j:=by
    cases j with
    |zero=>rw[scanDown]
    |succ j=>
     rw[scanDown,if_neg];intro n;simp only[bc,decide_eq_true_iff]at n;rw[hc.2 n]at m;cases m
   rw[←f,this]at g;exact g
theorem MD{a e n:Nat}(H:SAJ s b rest h d)(Z:a≤n)(W:n<e)(U:e≤d.size){K:Int→af→Prop}(J:∀o,SAJ s b rest o (partitionEqual ltInt d a e n).2→Upd (· =b) h o→K ((partitionEqual ltInt d a e n).1:Nat) o):
  HC PG fZ [.slice s.a s.len s.cap,.int .i64 a,.int .i64 e,.int .i64 n] [.c (.int .i64)] K h:=by
 refine pO s a e n ?_;unfold jB aW cp cu ru;have Q:=H.small;refine H.swap (i:=a) (j:=n) rfl rfl (by omega) (by omega) fun Y B C=>?_
 refine LoopP.ghost (fun(g:Nat×Nat×Array Int) (t:Int×Int) o=>t.1=(g.1:Int)∧t.2=(g.2.1:Int)∧SAJ s b rest o g.2.2∧g.2.2.size=d.size∧partEqLoop ltInt a g.1 g.2.1 g.2.2=partitionEqual ltInt d a e n∧Upd (· =b) h o∧g.2.1<e∧a<g.1∧g.1≤1000000000) (fun g=>g.2.1+1-g.1) (a+1,e-1,swp d a n)
  ⟨by simp only;rw[dW (by omega)];rfl,by simp only;rw[dW (by omega)];omega,B,by simp,rfl,C,by simp only;omega,by simp,by simp only;omega⟩ ?_
 rintro I ⟨i,j,f⟩ ⟨X,V⟩ h1 ⟨u,q,m,v,c,y,P,F,w⟩ T;simp only at u q m v c P F w;subst u q;have L:=scanUp_ge (fun x=> !ltInt f[a]! x) f j i
 rw[partEqLoop_eq]at c;refine A4 (d:=f) (p:=fun x=> !ltInt f[a]! x) (i0:=i) rfl rfl (by omega) w (fun k R A z G=>m.less (i:=a) (j:=k) rfl rfl (by omega) (by omega) G) ?_
 generalize scanUp (fun x=> !ltInt f[a]! x) f j i=i2 at L c
 have N:=scanDown_le (fun x=>ltInt f[a]! x) f i2 j
 refine xA (d:=f) (p:=fun x=>ltInt f[a]! x) (j0:=j) (i:=i2) rfl rfl (by omega) (by omega) (fun k R A z G=>m.less (i:=a) (j:=k) rfl rfl (by omega) (by omega) G) ?_
 generalize scanDown (fun x=>ltInt f[a]! x) f i2 j=j2 at N c
 refine av (fun S=>?_) fun O=>?_
 ·rw[if_pos (by omega)]at c
  rw[←c]at J;exact J _ m y
 ·rw[if_neg (by omega)]at c
  refine m.swap (i:=i2) (j:=j2) rfl rfl (by omega) (by omega) fun h2 E D=>?_
  exact T (i2+1,j2-1,swp f i2 j2) _ _ ⟨by simp only;rw[dW (by omega)];rfl,by simp only;rw[dW (by omega)];omega,E,by simp[v],c,y.tr D,by simp only;omega,by simp only;omega,by simp only;omega⟩ (by simp only;omega)
theorem Qz{a e m:Nat}(U:SAJ s b rest h d)(ha:a≤m)(hp:m<e)(he:e≤d.size){K:Int×Bool→af→Prop}
  (N:∀C,SAJ s b rest C (partition ltInt d a e m).2.2→Upd (· =b) h C→K (((partition ltInt d a e m).1:Nat),(partition ltInt d a e m).2.1) C):
  HC PG iq [.slice s.a s.len s.cap,.int .i64 a,.int .i64 e,.int .i64 m] [.c (.int .i64),.c .bool] K h:=by
 refine sH s a e m ?_;unfold lG aW cp cu ru;have hsm:=U.small;refine U.swap (i:=a) (j:=m) rfl rfl (by omega) (by omega) fun h0 o F=>?_
 have J:(swp d a m).size=d.size:=by simp
 have q:partition ltInt d a e m=(let d:=swp d a m
  let i:=scanUp (fun x=>ltInt x d[a]!) d (e-1) (a+1)
  let j:=scanDown (fun x=> !ltInt x d[a]!) d i (e-1)
  if i>j then(j,true,swp d j a)else
  let r:=partLoop ltInt a (i+1) (j-1) (swp d i j)
  (r.1,false,swp r.2 r.1 a)):=rfl
 simp only at q;generalize swp d a m=d0 at o J q;have S:ac .i64 ((e:Int)-1)=((e-1:Nat):Int):=by rw[dW (by omega)];omega
 have V:ac .i64 ((a:Int)+1)=((a+1:Nat):Int):=by rw[dW (by omega)];rfl
 have X:=scanUp_ge (fun x=>ltInt x d0[a]!) d0 (e-1) (a+1)
 refine A4 (d:=d0) (p:=fun x=>ltInt x d0[a]!) (j:=e-1) (i0:=a+1) V S (by omega) (by omega) (fun k R v u A=>o.less (i:=k) (j:=a) rfl rfl (by omega) (by omega) A) ?_
 generalize scanUp (fun x=>ltInt x d0[a]!) d0 (e-1) (a+1)=i2 at X q
 have Y:=scanDown_le (fun x=> !ltInt x d0[a]!) d0 i2 (e-1)
 refine xA (d:=d0) (p:=fun x=> !ltInt x d0[a]!) (j0:=e-1) (i:=i2) S rfl (by omega) (by omega) (fun k R v u A=>o.less (i:=k) (j:=a) rfl rfl (by omega) (by omega) A) ?_
 generalize scanDown (fun x=> !ltInt x d0[a]!) d0 i2 (e-1)=j2 at Y q
 refine av (fun P=>?_) fun Z=>?_
 ·rw[if_pos (by omega)]at q
  rw[q]at N;exact o.swap (i:=j2) (j:=a) rfl rfl (by omega) (by omega) fun h2 z y=>N h2 z (F.tr y)
 ·rw[if_neg (by omega)]at q
  refine o.swap (i:=i2) (j:=j2) rfl rfl (by omega) (by omega) fun h2 z y=>?_
  refine LoopP.ghost (fun(g:Nat×Nat×Array Int) (t:Int×Int) C=>t.1=(g.1:Int)∧t.2=(g.2.1:Int)∧SAJ s b rest C g.2.2∧g.2.2.size=d.size∧partLoop ltInt a g.1 g.2.1 g.2.2=partLoop ltInt a (i2+1) (j2-1) (swp d0 i2 j2)∧Upd (· =b) h C∧g.2.1<e∧a<g.1∧g.1≤1000000000) (fun g=>g.2.1+1-g.1) (i2+1,j2-1,swp d0 i2 j2)
   ⟨by simp only;rw[dW (by omega)];rfl,by simp only;rw[dW (by omega)];omega,z,by simp[J],rfl,F.tr y,by simp only;omega,by simp only;omega,by simp only;omega⟩ ?_
  rintro I ⟨i,j,f⟩ ⟨t1,t2⟩ h1 ⟨E,D,n,G,c,L,hj,O,H⟩ hI;simp only at E D n G c hj O H;subst E D;have g3:=scanUp_ge (fun x=>ltInt x f[a]!) f j i
  rw[partLoop_eq]at c;refine A4 (d:=f) (p:=fun x=>ltInt x f[a]!) (i0:=i) rfl rfl (by omega) H (fun k R v u A=>n.less (i:=k) (j:=a) rfl rfl (by omega) (by omega) A) ?_
  generalize scanUp (fun x=>ltInt x f[a]!) f j i=i3 at g3 c
  have W:=scanDown_le (fun x=> !ltInt x f[a]!) f i3 j
  refine xA (d:=f) (p:=fun x=> !ltInt x f[a]!) (j0:=j) (i:=i3) rfl rfl (by omega) (by omega) (fun k R v u A=>n.less (i:=k) (j:=a) rfl rfl (by omega) (by omega) A) ?_
  generalize scanDown (fun x=> !ltInt x f[a]!) f i3 j=j3 at W c
  refine av (fun P=>?_) fun Q=>?_
  ·rw[if_pos (by omega)]at c
   rw[q,←c]at N;exact n.swap (i:=j3) (j:=a) rfl rfl (by omega) (by omega) fun T w B=>N T w (L.tr B)
  ·rw[if_neg (by omega)]at c
   refine n.swap (i:=i3) (j:=j3) rfl rfl (by omega) (by omega) fun T w B=>?_
   exact hI (i3+1,j3-1,swp f i3 j3) _ _ ⟨by simp only;rw[dW (by omega)];rfl,by simp only;rw[dW (by omega)];omega,w,by simp[G],c,L.tr B,by simp only;omega,by simp only;omega,by simp only;omega⟩ (by simp only;omega)
end
section
variable {s:SliceV} {b:Nat} {rest:List Value} {h:af} {d:Array Int}
@[simp] theorem Et(lt:Int→Int→Bool):∀(j:Nat) (d:Array Int),(shiftDown lt j d).size=d.size
 |0,d=>rfl
 |j+1,d=>by rw[shiftDown];split;rfl;rw[Et lt j];simp
@[simp] theorem Su(lt:Int→Int→Bool)(e j:Nat)(d:Array Int):(shiftUp lt e j d).size=d.size:=by
 fun_induction shiftUp lt e j d<;>simp_all
theorem FC{a e:Nat}(hs:SAJ s b rest h d)(ha:a<e)(he:e≤d.size){K:Bool→af→Prop}(Q:∀m,SAJ s b rest m (partialInsertionSort ltInt d a e).1→Upd (· =b) h m→K (partialInsertionSort ltInt d a e).2 m):
  HC PG eO [.slice s.a s.len s.cap,.int .i64 a,.int .i64 e] [.c .bool] K h:=by
 refine mA s a e ?_;unfold gM aW cp cu ru;have hsm:=hs.small;refine LoopP.ghost (fun(g:Nat×Nat×Array Int) (t:Int×Int) m=>t.1=(g.2.1:Int)∧t.2=5-(g.1:Int)∧SAJ s b rest m g.2.2∧g.2.2.size=d.size∧partialIns ltInt a e g.1 g.2.1 g.2.2=partialInsertionSort ltInt d a e∧Upd (· =b) h m∧g.1≤5∧a<g.2.1∧g.2.1≤e) (fun g=>g.1) (5,a+1,d)
  ⟨by simp only;rw[dW (by omega)];rfl,by simp only;omega,hs,rfl,rfl,Upd.refl _ _,by simp,by simp,by simp only;omega⟩ ?_
 rintro I ⟨st,i0,H⟩ ⟨t1,t2⟩ h1 ⟨ht1,ht2,u,X,B,y,hst,hai,V⟩ hI;simp only at ht1 ht2 u X B hst hai V;subst ht1 ht2;refine av (fun hlt=>?_) fun hge=>?_
 ·obtain⟨st,rfl⟩:∃k,st=k+1:=⟨st-1,by have:5-(st:Int)<5:=hlt;omega⟩
  refine Join.intro (fun t m=>∃P d2,t=(P:Nat)∧SAJ s b rest m d2∧d2.size=d.size∧partialIns ltInt a e st P d2=partialInsertionSort ltInt d a e∧Upd (· =b) h m∧a<P∧P≤e) (fun R hR=>?_) ?_
  ·refine LoopP.ghost (fun(i:Nat) (t:Int) m=>t=(i:Int)∧m=h1∧scanSorted ltInt H e i=scanSorted ltInt H e i0∧a<i∧i≤e) (fun i=>e-i) i0 ⟨rfl,rfl,rfl,hai,V⟩ ?_
   rintro I2 i t m ⟨rfl,rfl,hsc,o,p⟩ hI2;refine Join.intro (fun c U=>U=m∧(c=true↔i<e∧ltInt H[i]! H[i-1]! =false)) (fun R2 W=>?_) ?_
   ·refine av (fun hle=>?_) fun hgt=>W _ _ ⟨rfl,by simp;omega⟩
    refine u.less (i:=i) (j:=i-1) rfl (by rw[dW (by omega)];omega) (by omega) (by omega) (W _ _ ⟨rfl,by simp;omega⟩)
   ·rintro c U ⟨rfl,hc⟩
    refine CondP.intro (fun h2=>?_) fun h2=>?_
    ·have hh:=hc.1 h2
     refine hI2 (i+1) _ _ ⟨by rw[dW (by omega)];rfl,rfl,?_,by omega,by omega⟩ (by omega)
     rw[←hsc];conv=>rhs;rw[scanSorted]
     rw[if_pos (by simp[hh])]
    ·have hsi:scanSorted ltInt H e i=i:=by
      rw[scanSorted,if_neg];intro hh;simp only[bc,decide_eq_true_iff,Bool.not_eq_eq_eq_not,Bool.not_true]at hh;rw[hc.2 hh]at h2;cases h2
     have f:=B;rw[partialIns]at f;simp only[←hsc,hsi]at f;refine CondP.intro (fun G=>?_) fun G=>?_
     ·have G:i=e:=by have:(i:Int)=e:=(by simpa using G);omega
      rw[if_pos G]at f;rw[←f]at Q;exact Q _ u y
     ·have G:i≠e:=fun e'=>by subst e';simp at G
      rw[if_neg G]at f;have we:ac .i64 ((e:Int)-(a:Int))=((e-a:Nat):Int):=by rw[dW (by omega)];omega
      show CondP (decide (ac .i64 ((e:Int)-(a:Int))<50)) _ _
      rw[we];refine av (fun h4=>?_) fun h4=>?_
      ·rw[if_pos (by omega)]at f
       rw[←f]at Q;exact Q _ u y
      ·rw[if_neg (by omega)]at f
       have hi1:1≤i:=by omega
       refine u.swap (i:=i) (j:=i-1) rfl (by rw[dW (by omega)];omega) (by omega) (by omega) fun h5 J hu5=>?_
       have O:(swp H i (i-1)).size=d.size:=by simp[X]
       generalize swp H i (i-1)=d5 at J O f;refine Join.intro (fun _ m=>SAJ s b rest m (if i-a≥2 then shiftDown ltInt (i-1) d5 else d5)∧Upd (· =b) h m) (fun R3 v=>?_) ?_
       ·have wi:ac .i64 ((i:Int)-(a:Int))=((i-a:Nat):Int):=by rw[dW (by omega)];omega
        show CondP (decide (ac .i64 ((i:Int)-(a:Int))≥2)) _ _
        rw[wi];refine av (fun h6=>?_) fun h6=>?_
        ·rw[if_pos (by omega)]at v
         refine LoopP.ghost (fun(g:Nat×Array Int) (t:Int) m=>t=(g.1:Int)∧SAJ s b rest m g.2∧g.2.size=d.size∧shiftDown ltInt g.1 g.2=shiftDown ltInt (i-1) d5∧Upd (· =b) h m∧g.1<e) (fun g=>g.1) (i-1,d5)
          ⟨by rw[dW (by omega)];simp only;omega,J,O,rfl,y.tr hu5,by simp only;omega⟩ ?_
         rintro I4 ⟨j,Y⟩ t h7 ⟨ht,w,hz7,q,C,D⟩ L;simp only at ht w hz7 q D;subst ht;refine av (fun h8=>?_) fun h8=>?_
         ·obtain⟨j,rfl⟩:∃k,j=k+1:=⟨j-1,by omega⟩
          have S:ac .i64 (((j+1:Nat):Int)-1)=(j:Int):=by rw[dW (by omega)];omega
          rw[shiftDown]at q;refine w.less (i:=j+1) (j:=j) rfl S (by omega) (by omega) (CondP.intro (fun h9=>?_) fun h9=>?_)
          ·rw[if_pos h9]at q
           exact v _ _ ⟨by rw[←q];exact w,C⟩
          ·rw[if_neg (by rw[h9];simp)]at q
           refine w.swap (i:=j+1) (j:=j) rfl S (by omega) (by omega) fun z Z T=>?_
           exact L (j,swp Y (j+1) j) _ _ ⟨S,Z,by simp[hz7],q,C.tr T,by simp only;omega⟩ (by simp)
         ·have:j=0:=by omega
          subst this;exact v _ _ ⟨by rw[←q];exact w,C⟩
        ·rw[if_neg (by omega)]at v
         exact v _ _ ⟨J,y.tr hu5⟩
       ·rintro _ h6 ⟨F,hu6⟩
        have N:(if i-a≥2 then shiftDown ltInt (i-1) d5 else d5).size=d.size:=by split<;>simp[O]
        generalize (if i-a≥2 then shiftDown ltInt (i-1) d5 else d5)=Y at F N f
        have wi:ac .i64 ((e:Int)-(i:Int))=((e-i:Nat):Int):=by rw[dW (by omega)];omega
        show CondP (decide (ac .i64 ((e:Int)-(i:Int))≥2)) _ _
        rw[wi];refine av (fun h7=>?_) fun h7=>?_
        ·rw[if_pos (by omega)]at f
         refine LoopP.ghost (fun(g:Nat×Array Int) (t:Int) m=>t=(g.1:Int)∧SAJ s b rest m g.2∧g.2.size=d.size∧shiftUp ltInt e g.1 g.2=shiftUp ltInt e (i+1) Y∧Upd (· =b) h m∧1≤g.1∧g.1≤e) (fun g=>e-g.1) (i+1,Y)
          ⟨by rw[dW (by omega)];rfl,F,N,rfl,hu6,by simp,by simp only;omega⟩ ?_
         rintro I4 ⟨j,d7⟩ t h8 ⟨ht,x,A,n,E,hj1,D⟩ L;simp only at ht x A n hj1 D;subst ht;refine av (fun h9=>?_) fun h9=>?_
         ·have S:ac .i64 ((j:Int)-1)=((j-1:Nat):Int):=by rw[dW (by omega)];omega
          rw[shiftUp,if_pos (by omega)]at n;refine x.less (i:=j) (j:=j-1) rfl S (by omega) (by omega) (CondP.intro (fun z=>?_) fun z=>?_)
          ·rw[if_pos z]at n
           exact hR _ _ ⟨i,d7,rfl,x,A,by rw[n];exact f,E,o,p⟩
          ·rw[if_neg (by rw[z];simp)]at n
           refine x.swap (i:=j) (j:=j-1) rfl S (by omega) (by omega) fun h11 hs11 hu11=>?_
           exact L (j+1,swp d7 j (j-1)) _ _ ⟨by rw[dW (by omega)];rfl,hs11,by simp[A],n,E.tr hu11,by simp,by simp only;omega⟩ (by simp only;omega)
         ·rw[shiftUp,if_neg (by omega)]at n
          exact hR _ _ ⟨i,d7,rfl,x,A,by rw[n];exact f,E,o,p⟩
        ·rw[if_neg (by omega)]at f
         exact hR _ _ ⟨i,Y,rfl,F,N,f,hu6,o,p⟩
  ·rintro t m ⟨P,d2,rfl,hs2,hz2,f,hu2,o,p⟩
   exact hI (st,P,d2) _ _ ⟨rfl,by simp only;rw[dW (by omega)];omega,hs2,hz2,f,hu2,by simp only;omega,o,p⟩ (by simp)
 ·have:st=0:=by have:¬5-(st:Int)<5:=hge;omega
  subst this;rw[partialIns]at B;rw[←B]at Q;exact Q _ u y
theorem Bb{x y:Nat}(f:SAJ s b rest h d)(hx:x<d.size)(u:y<d.size){c:Nat}{n:Int}(hc:h[c]? =some (.cells #[.int .i64 n] il (0,0))) (g:c≠b) {K:Int×Int→af→Prop}
  (o:∀h' (p q:Nat) m,(p=x∧q=y∨p=y∧q=x)→SAJ s b rest h' d→h'[c]? =some (.cells #[.int .i64 m] il (0,0))→Upd (· =c) h h'→K ((p:Int),(q:Int)) h'):
  HC PG fi [.slice s.a s.len s.cap,.int .i64 x,.int .i64 y,.pointer (some ⟨c,0,none⟩)] [.c (.int .i64),.c (.int .i64)] K h:=by
 refine uV s x y (some ⟨c,0,none⟩) ?_;unfold nz aW cp ru;refine f.less (i:=y) (j:=x) rfl rfl u hx (CondP.intro (fun t=>?_) fun t=>?_)
 ·refine⟨_,rfl,n,by rw[bP hc];rfl,_,rfl,gI hc (by simp),?_⟩
  have k:Upd (· =c) h (hset h ⟨c,0,none⟩ (.int .i64 (ac .i64 (n+1)))):=Upd.hset _ _ rfl
  refine o _ y x (ac .i64 (n+1)) (.inr ⟨rfl,rfl⟩) (f.upd k fun e=>g e.symm) ?_ k
  rw[oL hc,fe hc];rfl
 ·exact o _ x y _ (.inl ⟨rfl,rfl⟩) f hc (Upd.refl _ _)
theorem FI{x y z:Nat}(E:SAJ s b rest h d)(hx:x<d.size)(J:y<d.size)(I:z<d.size){c:Nat}{n:Int}(hc:h[c]? =some (.cells #[.int .i64 n] il (0,0))) (e:c≠b) {K:Int→af→Prop}
  (G:∀h' (p:Nat) m,(p=x∨p=y∨p=z)→SAJ s b rest h' d→h'[c]? =some (.cells #[.int .i64 m] il (0,0))→Upd (· =c) h h'→K (p:Int) h'):
  HC PG gu [.slice s.a s.len s.cap,.int .i64 x,.int .i64 y,.int .i64 z,.pointer (some ⟨c,0,none⟩)] [.c (.int .i64)] K h:=by
 refine uW s x y z (some ⟨c,0,none⟩) ?_;unfold nA PW;refine Bb E hx J hc e fun U B H R P g f o=>?_
 have v:H<d.size:=by omega
 have q:B<d.size:=by omega
 refine Bb g v I f e fun h2 F Q S N k w j=>?_
 have t:F<d.size:=by omega
 refine Bb k q t w e fun L O C D T i u A=>?_
 exact G _ C D (by omega) i u ((o.tr j).tr A)
theorem wg{x:Nat}(k:SAJ s b rest h d)(w:1≤x)(hx:x+1<d.size){c:Nat}{n:Int}(hc:h[c]? =some (.cells #[.int .i64 n] il (0,0))) (i:c≠b) {K:Int→af→Prop}
  (t:∀e (p:Nat) m,(x-1≤p∧p≤x+1)→SAJ s b rest e d→e[c]? =some (.cells #[.int .i64 m] il (0,0))→Upd (· =c) h e→K (p:Int) e):
  HC PG dG [.slice s.a s.len s.cap,.int .i64 x,.pointer (some ⟨c,0,none⟩)] [.c (.int .i64)] K h:=by
 refine pP s x (some ⟨c,0,none⟩) ?_;unfold jC PZ;have o:=k.small;have q:ac .i64 ((x:Int)-1)=((x-1:Nat):Int):=by rw[dW (by omega)];omega
 have u:ac .i64 ((x:Int)+1)=((x+1:Nat):Int):=by rw[dW (by omega)];omega
 rw[q,u];exact FI k (by omega) (by omega) hx hc i fun e p m v g j f=>t e p m (by omega) g j f
theorem EE{a e:Nat}(G:SAJ s b rest h d)(ha:a<e)(he:e≤d.size){K:Int×Int→af→Prop}
  (w:∀i (p:Nat) (n:Int),a≤p→p<e→SAJ s b rest i d→Upd No h i→K ((p:Int),n) i):
  HC PG gJ [.slice s.a s.len s.cap,.int .i64 a,.int .i64 e] [.c (.int .i64),.c (.int .i64)] K h:=by
 refine rk s a e ?_;unfold kI PZ PY;have hsm:=G.small;have k0:=Upd.hnew No h [.int .i64 0] il;have o:=c6 h [.int .i64 0] il;have j:=G.upd k0 id;have X:=bo G.blk;have u:h.size≠b:=by omega
 simp only[At];generalize hnew h [.int .i64 0] il=h0 at k0 o j;have wl:ac .i64 ((e:Int)-(a:Int))=((e-a:Nat):Int):=by rw[dW (by omega)];omega
 have wq:ac .i64 (jF ((e-a:Nat):Int) 4)=(((e-a)/4:Nat):Int):=by
  rw[nF (by omega),dW (by omega)];omega
 have wm:∀k:Nat,k≤3→ac .i64 (((((e-a)/4:Nat):Int))*(k:Int))=(((e-a)/4*k:Nat):Int):=fun k w=>by
  rw[Int.natCast_mul,dW];have:(e-a)/4*k≤1000000000*3:=Nat.mul_le_mul (by omega) w;have:(((e-a)/4*k:Nat):Int)=(((e-a)/4:Nat):Int)*(k:Int):=Int.natCast_mul ..;omega
 have Q:=wm 1 (by omega);have P:=wm 2 (by omega);have U:=wm 3 (by omega);simp only[Int.cast_ofNat_Int]at Q P U;simp only[Bd,wl,wq];have F:ac .i64 ((((e-a)/4:Nat):Int)*1)=(((e-a)/4*1:Nat):Int):=Q;have D:ac .i64 ((((e-a)/4:Nat):Int)*2)=(((e-a)/4*2:Nat):Int):=P;have J:ac .i64 ((((e-a)/4:Nat):Int)*3)=(((e-a)/4*3:Nat):Int):=U;rw[F,D,J];have I:∀k:Nat,k≤3→ac .i64 ((a:Int)+(((e-a)/4*k:Nat):Int))=((a+(e-a)/4*k:Nat):Int):=fun k w=>by
  have:(e-a)/4*k≤(e-a)/4*3:=kQ _ w;rw[dW (by omega)];omega
 refine⟨by decide,by decide,by decide,?_⟩
 refine Join.intro (fun t i=>∃p:Nat,t=(p:Int)∧a≤p∧p<e∧SAJ s b rest i d∧Upd No h i∧∃m,i[h.size]? =some (.cells #[.int .i64 m] il (0,0))) (fun R T=>?_) ?_
 ·rw[I 1 (by omega),I 2 (by omega),I 3 (by omega)]
  refine av (fun S=>?_) fun S=>?_
  ·have S:8≤e-a:=by omega
   refine Join.intro (fun t i=>∃p q r:Nat,t=((p:Int),(q:Int),(r:Int))∧(a≤p∧p<e)∧(a≤q∧q<e)∧(a≤r∧r<e)∧SAJ s b rest i d∧Upd No h i∧∃m,i[h.size]? =some (.cells #[.int .i64 m] il (0,0))) (fun R2 B=>?_) ?_
   ·refine av (fun C=>?_) fun C=>?_
    ·have C:50≤e-a:=by omega
     refine wg j (by omega) (by omega) o u fun V W m1 e1 c g f=>?_
     refine wg c (by omega) (by omega) g u fun h2 H m2 Y x A v=>?_
     refine wg x (by omega) (by omega) A u fun h3 Z m3 e3 E L O=>?_
     exact B _ _ ⟨W,H,Z,rfl,by omega,by omega,by omega,E,k0.trans ((f.tr v).tr O) fun b N=>.inr (kj N.symm),_,L⟩
    ·exact B _ _ ⟨_,_,_,rfl,by omega,by omega,by omega,j,k0,_,o⟩
   ·rintro t V ⟨p,q,r,rfl,hp,hq,hr,c,f,m,g⟩
    refine FI c (by omega) (by omega) (by omega) g u fun h2 H m2 Y x A v=>?_
    exact T _ _ ⟨H,rfl,by omega,by omega,x,f.trans v fun b N=>.inr (kj N.symm),_,A⟩
  ·exact T _ _ ⟨_,rfl,by omega,by omega,j,k0,_,o⟩
 ·rintro t V ⟨p,rfl,y,z,c,f,m,g⟩
  refine⟨m,by rw[eS,bP g];rfl,CondP.intro (fun _=>w _ p _ y z c f) fun _=>CondP.intro (fun _=>w _ p _ y z c f) fun _=>w _ p _ y z c f⟩
end
section
variable {s:SliceV} {b:Nat} {rest:List Value} {h:af} {d:Array Int}
theorem Km(x:Int):ac .u64 x=x%18446744073709551616:=by
 simp[ac,ai,IntKind.signed]
theorem Hh(x:Int){m:Int}(b:0≤m)(hm:m<18446744073709551616):0≤ac .u64 ((ao (ai .u64) x&&&ao (ai .u64) m).toNat:Int)∧ac .u64 ((ao (ai .u64) x&&&ao (ai .u64) m).toNat:Int)≤m:=by
 have c:(ao (ai .u64) x&&&ao (ai .u64) m).toNat≤(ao (ai .u64) m).toNat:=by
  rw[BitVec.toNat_and];exact Nat.and_le_right
 have h2:((ao (ai .u64) m).toNat:Int)=m:=by
  show((ao 64 m).toNat:Int)=m
  rw[BitVec.toNat_ofInt];have:m%((2^64:Nat):Int)=m:=Int.emod_eq_of_lt b (by omega);rw[this];omega
 rw[Km];omega
abbrev N3:ByteArray:=⟨#[0,1,2,2,3,3,3,3,4,4,4,4,4,4,4,4,5,5,5,5,5,5,5,5,5,5,5,5,5,5,5,5,6,6,6,6,6,6,6,6,6,6,6,6,6,6,6,6,6,6,6,6,6,6,6,6,6,6,6,6,6,6,6,6,7,7,7,7,7,7,7,7,7,7,7,7,7,7,7,7,7,7,7,7,7,7,7,7,7,7,7,7,7,7,7,7,7,7,7,7,7,7,7,7,7,7,7,7,7,7,7,7,7,7,7,7,7,7,7,7,7,7,7,7,7,7,7,7,8,8,8,8,8,8,8,8,8,8,8,8,8,8,8,8,8,8,8,8,8,8,8,8,8,8,8,8,8,8,8,8,8,8,8,8,8,8,8,8,8,8,8,8,8,8,8,8,8,8,8,8,8,8,8,8,8,8,8,8,8,8,8,8,8,8,8,8,8,8,8,8,8,8,8,8,8,8,8,8,8,8,8,8,8,8,8,8,8,8,8,8,8,8,8,8,8,8,8,8,8,8,8,8,8,8,8,8,8,8,8,8,8,8,8,8,8,8,8,8,8,8,8,8,8,8,8,8]⟩
theorem QO:∀x:Nat,x<256→∃c:UInt8,N3[x]? =some c∧c.toNat≤8∧(1≤x→2^c.toNat≤2*x)∧(x=0→c.toNat=0):=by
 have key:∀x:Fin 256,∃c:UInt8,N3[x.val]? =some c∧c.toNat≤8∧(1≤x.val→2^c.toNat≤2*x.val)∧(x.val=0→c.toNat=0):=by
  intro x;have:∀x:Fin 256,(match N3[x.val]? with|some c=>decide (c.toNat≤8∧(1≤x.val→2^c.toNat≤2*x.val)∧(x.val=0→c.toNat=0))|none=>false)=true:=by decide+kernel
  have hx:=this x;split at hx
  ·rename_i c hc
   exact⟨c,hc,of_decide_eq_true hx⟩
  ·cases hx
 exact fun x hx=>key ⟨x,hx⟩
theorem O1{n:Nat}(y:n<4294967296){K:Int→af→Prop}(u:∀L:Nat,L≤64→(1≤n→2^L≤2*n)→K (L:Int) h):HC PG mK [.int .u64 n] [.c (.int .i64)] K h:=by
 refine vI n ?_;unfold qQ;have fd:∀(x k:Nat),Int.fdiv (x:Int) (2^k)=((x/2^k:Nat):Int):=fun x k=>by
  rw[Int.fdiv_eq_ediv_of_nonneg _ (Int.pow_nonneg (by omega))];rw[Int.natCast_ediv,Int.natCast_pow];rfl
 refine Join.intro (fun t m=>m=h∧t=((n:Int),(0:Int))) (fun R e=>?_) ?_
 ·exact av (fun b=>by omega) fun b=>e _ _ ⟨rfl,rfl⟩
 ·rintro t m ⟨rfl,rfl⟩
  refine Join.intro (fun t h2=>h2=m∧∃x s:Nat,t=((x:Int),(s:Int))∧x*2^s≤n∧(1≤n→1≤x)∧x<65536∧s≤16) (fun R e=>?_) ?_
  ·refine av (fun b=>?_) fun b=>e _ _ ⟨rfl,n,0,rfl,by simp,fun h=>h,by have b:¬(n:Int)≥65536:=b;omega,by omega⟩
   have b:65536≤n:=by have b:(n:Int)≥65536:=b;omega
   refine⟨by omega,e _ _ ⟨rfl,n/2^16,16,?_,kR ..,fun _=>by omega,by omega,by omega⟩⟩
   simp only[sd.injEq];exact⟨fd n 16,by decide⟩
  ·rintro t h2 ⟨rfl,x,s,rfl,hx,d,f,g⟩
   refine Join.intro (fun t i=>i=h2∧∃x s:Nat,t=((x:Int),(s:Int))∧x*2^s≤n∧(1≤n→1≤x)∧x<256∧s≤24) (fun R e=>?_) ?_
   ·refine av (fun b=>?_) fun b=>e _ _ ⟨rfl,x,s,rfl,hx,d,by have b:¬(x:Int)≥256:=b;omega,by omega⟩
    have b:256≤x:=by have b:(x:Int)≥256:=b;omega
    refine⟨by omega,e _ _ ⟨rfl,x/2^8,s+8,?_,?_,fun _=>by omega,by omega,by omega⟩⟩
    ·simp only[sd.injEq]
     exact⟨fd x 8,by rw[dW (by omega)];omega⟩
    ·rw[Nat.pow_add,ig (2^s),←pi]
     exact Nat.le_trans (Nat.mul_le_mul_right _ (kR ..)) hx
   ·rintro t i ⟨rfl,x,s,rfl,hx,d,f,g⟩
    obtain⟨c,hc,o,j,q⟩:=QO x f;have w:ac .u8 (x:Int)=(x:Int):=by
     simp[ac,ai,IntKind.signed];omega
    show∃b10:UInt8,(0:Int)≤ac .u8 (x:Int)∧N3[(ac .u8 (x:Int)).toNat]? =some b10∧_
    rw[w];refine⟨c,by omega,by simpa using hc,?_⟩
    have p:ac .i64 (c.toNat:Int)=(c.toNat:Int):=dW (by omega);have v:ac .i64 ((s:Int)+ac .i64 (c.toNat:Int))=((s+c.toNat:Nat):Int):=by rw[p,dW (by omega)];omega
    show K (ac .i64 ((s:Int)+ac .i64 (c.toNat:Int))) i
    rw[v];refine u _ (by omega) fun b=>?_
    have:=j (d b);rw[Nat.pow_add];calc 2^s*2^c.toNat≤2^s*(2*x):=kQ _ this
     _=2*(x*2^s):=by rw[ig (2^s),pi]
     _≤2*n:=kQ _ hx
theorem N2{n:Nat}(b:n<4294967296){K:Int→af→Prop}(c:∀L:Nat,L≤64→(1≤n→2^L≤2*n)→K (L:Int) h):HC PG iT [.int .u64 n] [.c (.int .i64)] K h:=by
 refine yf n ?_;unfold tl;exact O1 b c
theorem KY{n:Nat}(c:1≤n)(f:n≤1000000000){K:Int→af→Prop}(d:∀m:Nat,1≤m→m≤2*n→K (m:Int) h):HC PG lg [.int .i64 n] [.c (.int .u64)] K h:=by
 refine xh n ?_;unfold p6;rw[show ac .u64 (n:Int)=(n:Int) by rw[Km];omega]
 refine N2 (by omega) fun L g b=>⟨by omega,?_⟩
 have:=b c;have e:ac .u64 (1*2^(min ((L:Int)).toNat (ai .u64)))=((2^L:Nat):Int):=by
  rw[Km,show min ((L:Int)).toNat (ai .u64)=L by simp[ai];omega,Int.one_mul]
  have h2:(2:Int)^L=((2^L:Nat):Int):=by simp
  rw[h2];generalize 2^L=P at this⊢;omega
 rw[e];exact d _ (Nat.one_le_two_pow) this
theorem IM{c:Nat}{n:Int}{t:TypeId}(hc:h[c]? =some (.cells #[.int .u64 n] t (0,0))) {K:Int→af→Prop}
  (o:∀h' m,h'[c]? =some (.cells #[.int .u64 m] t (0,0))→Upd (· =c) h h'→K m h'):HC PG lM [.pointer (some ⟨c,0,none⟩)] [.c (.int .u64)] K h:=by
 refine xR (some ⟨c,0,none⟩) ?_;unfold qP;have set:∀{h:af} {n:Int} (m:Int),h[c]? =some (.cells #[.int .u64 n] t (0,0))→(hset h ⟨c,0,none⟩ (.int .u64 m))[c]? =some (.cells #[.int .u64 m] t (0,0))∧Upd (· =c) h (hset h ⟨c,0,none⟩ (.int .u64 m))∧Wr h ⟨c,0,none⟩:=fun m hc=>by
  refine⟨?_,Upd.hset _ _ rfl,gI hc (by simp)⟩;rw[oL hc,fe hc];rfl
 have b:∀{h:af} {n:Int},h[c]? =some (.cells #[.int .u64 n] t (0,0))→bj h ⟨c,0,none⟩=some (.int .u64 n):=fun hc=>by rw[bP hc];rfl
 refine⟨_,rfl,_,b hc,_,rfl,_,b hc,by omega,_,rfl,?_⟩
 obtain⟨d,k1,i⟩:=set _ hc;refine⟨i,_,rfl,_,b d,_,rfl,_,b d,by omega,_,rfl,?_⟩
 obtain⟨e,j,g⟩:=set _ d;refine⟨g,_,rfl,_,b e,_,rfl,_,b e,by omega,_,rfl,?_⟩
 obtain⟨f,p,k⟩:=set _ e;exact⟨k,_,rfl,_,b f,o _ _ f ((k1.tr j).tr p)⟩
theorem Cr{a e:Nat}(D:SAJ s b rest h d)(ha:a≤e)(he:e≤d.size){K:Unit→af→Prop}(Q:∀c d',SAJ s b rest c d'→PermIn a e d d'→Upd (· =b) h c→K () c):
  HC PG gc [.slice s.a s.len s.cap,.int .i64 a,.int .i64 e] [] K h:=by
 refine qf s a e ?_;unfold jO aW cp cu;have hsm:=D.small;have wl:ac .i64 ((e:Int)-(a:Int))=((e-a:Nat):Int):=by rw[dW (by omega)];omega
 rw[wl];refine av (fun P=>?_) fun P=>Q h d D (permIn_refl ..) (Upd.refl _ _)
 have P:8≤e-a:=by omega
 have k0:=Upd.hnew No h [.int .u64 0] iz;have f:=c6 h [.int .u64 0] iz;have y:=D.upd k0 id;have W:=bo D.blk;have u:h.size≠b:=by omega
 simp only[At,eS];generalize hnew h [.int .u64 0] iz=h0 at k0 f y;refine⟨gI f (by simp),?_⟩;have k1:Upd (· =h.size) h0 (hset h0 ⟨h.size,0,none⟩ (.int .u64 (ac .u64 ((e-a:Nat):Int)))):=Upd.hset _ _ rfl
 have v:(hset h0 ⟨h.size,0,none⟩ (.int .u64 (ac .u64 ((e-a:Nat):Int))))[h.size]? =some (.cells #[.int .u64 (ac .u64 ((e-a:Nat):Int))] iz (0,0)):=by
  rw[oL f,fe f];rfl
 have w:=y.upd k1 fun e=>u e.symm
 generalize hset h0 ⟨h.size,0,none⟩ (.int .u64 (ac .u64 ((e-a:Nat):Int)))=h1 at k1 v w;refine KY (by omega) (by omega) fun m hm1 T=>⟨by decide,?_⟩
 have wq:ac .i64 (ac .i64 (jF ((e-a:Nat):Int) 4)*2)=(((e-a)/4*2:Nat):Int):=by
  rw[nF (by omega),dW (x:=((e-a:Nat):Int)/4) (by omega),dW (by omega)];omega
 simp only[Bd];rw[wq];have X:ac .i64 (ac .i64 ((a:Int)+(((e-a)/4*2:Nat):Int))-1)=((a+(e-a)/4*2-1:Nat):Int):=by
  rw[dW (x:=(a:Int)+_) (by omega),dW (by omega)];omega
 have U:ac .i64 (ac .i64 ((a:Int)+(((e-a)/4*2:Nat):Int))+1)=((a+(e-a)/4*2+1:Nat):Int):=by
  rw[dW (x:=(a:Int)+_) (by omega),dW (by omega)];omega
 rw[X];refine LoopP.ghost (fun(g:Nat×Array Int) (t:Int) c=>t=(g.1:Int)∧SAJ s b rest c g.2∧PermIn a e d g.2∧Upd (· =b) h c∧(∃n,c[h.size]? =some (.cells #[.int .u64 n] iz (0,0)))∧a+(e-a)/4*2-1≤g.1∧g.1≤a+(e-a)/4*2+2) (fun g=>a+(e-a)/4*2+2-g.1) (a+(e-a)/4*2-1,d)
  ⟨rfl,w,permIn_refl ..,k0.wide.trans k1 fun x hx=>.inr (by omega),⟨_,v⟩,aq _,by simp only;omega⟩ ?_
 rintro I ⟨i,C⟩ t h2 ⟨O,p,k,z,⟨n2,L⟩,G,E⟩ hI;simp only at O p k G E;subst O;have hz:C.size=d.size:=k.1;refine⟨by decide,?_⟩;rw[U];refine av (fun H=>?_) fun hgt=>Q h2 C p k z
 have H:i≤a+(e-a)/4*2+1:=by omega
 refine IM L fun V r J B=>?_
 have F:=p.upd B fun e=>u e.symm
 have wm:ac .u64 ((m:Int)-1)=((m-1:Nat):Int):=by rw[Km];omega
 rw[wm];obtain⟨a0,Y⟩:=Hh r (m:=((m-1:Nat):Int)) (by omega) (by omega);generalize ac .u64 ((ao (ai .u64) r&&&ao (ai .u64) ((m-1:Nat):Int)).toNat:Int)=o at a0 Y;have wo:ac .i64 o=o:=dW (by omega);refine Join.intro (fun t c=>c=V∧∃q:Nat,t=(q:Int)∧q<e-a) (fun R S=>?_) ?_
 ·show CondP (decide (ac .i64 o≥((e-a:Nat):Int))) _ _
  rw[wo];refine av (fun Z=>S _ _ ⟨rfl,(o-((e-a:Nat):Int)).toNat,?_,by omega⟩) fun Z=>S _ _ ⟨rfl,o.toNat,by omega,by omega⟩
  show ac .i64 (o-((e-a:Nat):Int))=_
  rw[dW (by omega)];omega
 ·rintro t c ⟨rfl,q,rfl,hq⟩
  have wj:ac .i64 ((a:Int)+(q:Int))=((a+q:Nat):Int):=by rw[dW (by omega)];omega
  refine F.swap (i:=i) (j:=a+q) rfl wj (by omega) (by omega) fun h5 N A=>?_
  refine hI (i+1,swp C i (a+q)) _ _ ⟨by rw[dW (by omega)];rfl,N,permIn_trans _ _ _ _ _ k (swp_permIn C a e i (a+q) (by omega) (by omega) (by omega) (by omega) (by omega)),?_,⟨r,A.get J u⟩,by simp only;omega,by simp only;omega⟩ (by simp only;omega)
  exact(z.trans B fun x hx=>.inr (by omega)).tr A
end
section
variable {s:SliceV} {b:Nat} {rest:List Value} {h:af} {d:Array Int}
theorem Kp:SWO ltInt:=⟨fun x=>by simp[ltInt],fun x y z b h2=>by simp only[ltInt,decide_eq_true_iff]at*;omega,fun x y z b h2=>by simp only[ltInt,decide_eq_false_iff_not]at*;omega⟩
theorem SU:∀(n:Nat) {a e:Nat} {W:Int} {h:af} {d:Array Int} {K:Unit→af→Prop},e-a=n→SAJ s b rest h d→a≤e→e≤d.size→Go.Sort.Below ltInt a e d→
  (∀m d',SAJ s b rest m d'→PermIn a e d d'→SortedIn ltInt a e d'→Upd (· =b) h m→K () m)→HC PG eW [.slice s.a s.len s.cap,.int .i64 a,.int .i64 e,.int .i64 W] [] K h:=by
 intro n;induction n using Nat.strongRecOn with
 |_ n ih=>
 intro a e W h d K hn hs ha he hB hk;refine mM s a e W ?_;unfold je aW cp BO un ru;have hsm:=hs.small;refine LoopP.ghost (fun(g:Nat×Nat×Array Int) (t:Int×Int×Int×Bool×Bool) m=>t.1=(g.1:Int)∧t.2.1=(g.2.1:Int)∧SAJ s b rest m g.2.2∧g.2.2.size=d.size∧(a≤g.1∧g.1≤g.2.1∧g.2.1≤e)∧Go.Sort.Below ltInt g.1 g.2.1 g.2.2∧
   (∀R,PermIn g.1 g.2.1 g.2.2 R→SortedIn ltInt g.1 g.2.1 R→PermIn a e d R∧SortedIn ltInt a e R)∧Upd (· =b) h m) (fun g=>g.2.1-g.1) (a,e,d)
  ⟨rfl,rfl,hs,rfl,⟨aq _,ha,aq _⟩,hB,fun R h1 h2=>⟨h1,h2⟩,Upd.refl _ _⟩ ?_
 rintro I ⟨c,f,d1⟩ ⟨t1,t2,l1,wb,wp⟩ h1 ⟨P,ht2,E,L,⟨haa,w,hee⟩,hB1,k,U⟩ hI;simp only at P ht2 E L haa w hee hB1 k;subst P ht2;have y:f≤d1.size:=by omega
 have wl:ac .i64 ((f:Int)-(c:Int))=((f-c:Nat):Int):=by rw[dW (by omega)];omega
 simp only;rw[wl];refine av (fun hle=>?_) fun hgt=>?_
 ·refine K9 E w y fun h2 z o=>?_
  obtain⟨p1,p2⟩:=insertionSort_holds Kp d1 c f w y;obtain⟨q1,q2⟩:=k _ p1 p2;exact hk _ _ z q1 q2 (U.tr o)
 have hgt:12<f-c:=by omega
 refine CondP.intro (fun _=>?_) fun _=>?_
 ·refine Jy E w y fun h2 z o=>?_
  obtain⟨p1,p2⟩:=heapSort_holds Kp d1 c f w y;obtain⟨q1,q2⟩:=k _ p1 p2;exact hk _ _ z q1 q2 (U.tr o)
 refine Join.intro (fun _ m=>∃V,SAJ s b rest m V∧PermIn c f d1 V∧Upd (· =b) h m) (fun R J=>?_) ?_
 ·refine CondP.intro (fun _=>?_) fun _=>J _ _ ⟨d1,E,permIn_refl ..,U⟩
  exact Cr E w y fun h2 V z F o=>J _ _ ⟨V,z,F,U.tr o⟩
 rintro lim2 h2 ⟨V,z,F,o⟩;have hz2:V.size=d.size:=by rw[F.1,L]
 refine EE z (by omega) (by omega) fun h3 p hn1 hpa hpe hs3 hu3=>?_
 refine Join.intro (fun t m=>∃(q:Nat) (d3:Array Int),t.1=(q:Int)∧c≤q∧q<f∧SAJ s b rest m d3∧PermIn c f d1 d3∧Upd (· =b) h m) (fun R J=>?_) ?_
 ·refine CondP.intro (fun _=>?_) fun _=>J _ _ ⟨p,V,rfl,hpa,hpe,hs3,F,o.tr hu3.wide⟩
  refine Kv hs3 (by omega) (by omega) fun h4 S C=>J _ _ ⟨f-1-(p-c),_,?_,by omega,by omega,S,permIn_trans _ _ _ _ _ F (reverseRange_holds V c f w (by omega)),(o.tr hu3.wide).tr C⟩
  show ac .i64 (ac .i64 ((f:Int)-1)-ac .i64 ((p:Int)-(c:Int)))=_
  rw[dW (x:=(f:Int)-1) (by omega),dW (x:=(p:Int)-(c:Int)) (by omega),dW (by omega)];omega
 rintro⟨q1,hint⟩ h4 ⟨q,d3,hq,Q,N,S,H,C⟩;simp only at hq;subst hq;have hz3:d3.size=d.size:=by rw[H.1,L]
 have hB3:Go.Sort.Below ltInt c f d3:=hB1.perm y H;refine Join.intro (fun _ m=>∃T,SAJ s b rest m T∧PermIn c f d1 T∧Upd (· =b) h m) (fun R J=>?_) ?_
 ·refine Join.intro (fun _ m=>m=h4) (fun R2 X=>CondP.intro (fun _=>CondP.intro (fun _=>X _ _ rfl) fun _=>X _ _ rfl) fun _=>X _ _ rfl) ?_
  rintro _ h5 rfl;refine CondP.intro (fun _=>?_) fun _=>J _ _ ⟨d3,S,H,C⟩
  refine FC S (by omega) (by omega) fun h6 hs6 hu6=>?_
  obtain⟨p1,p2⟩:=partialInsertionSort_holds Kp d3 c f (by omega) (by omega) hB3;refine CondP.intro (fun hb=>?_) fun _=>J _ _ ⟨_,hs6,permIn_trans _ _ _ _ _ H p1,C.tr hu6⟩
  obtain⟨Z,r2⟩:=k _ (permIn_trans _ _ _ _ _ H p1) (p2 hb);exact hk _ _ hs6 Z r2 (C.tr hu6)
 rintro _ h5 ⟨T,hs5,G,Y⟩;have hz4:T.size=d.size:=by rw[G.1,L]
 have hB4:Go.Sort.Below ltInt c f T:=hB1.perm y G;refine Join.intro (fun t m=>m=h5∧(t=true→0<c∧ltInt T[c-1]! T[q]! =false)) (fun R J=>?_) ?_
 ·refine av (fun h6=>?_) fun _=>J _ _ ⟨rfl,fun e=>by cases e⟩
  refine hs5.less (i:=c-1) (j:=q) (by rw[dW (by omega)];omega) rfl (by omega) (by omega) (J _ _ ⟨rfl,fun e=>⟨by omega,by simpa using e⟩⟩)
 rintro t h6 ⟨rfl,ht⟩;refine CondP.intro (fun P=>?_) fun _=>?_
 ·obtain⟨h7,h8⟩:=ht P
  refine MD hs5 Q N (by omega) fun h9 v O=>?_
  cases hx:partitionEqual ltInt T c f q with
  |mk mid d5=>
   rw[hx]at v;obtain⟨m1,m2,m3,m4,m5⟩:=round_eq Kp (partitionEqual_holds _) h7 Q N (by omega) hB4 h8 hx;refine hI (mid,f,d5) _ _ ⟨rfl,rfl,v,by simp only;omega,⟨by simp only;omega,m2,hee⟩,m4,fun R Z r2=>?_,Y.tr O⟩ (by simp only;omega)
   obtain⟨x1,x2⟩:=m5 R Z r2;exact k R (permIn_trans _ _ _ _ _ G x1) x2
 ·refine Qz hs5 Q N (by omega) fun h9 v O=>?_
  cases hx:partition ltInt T c f q with
  |mk mid r=>
   obtain⟨ap,d5⟩:=r;rw[hx]at v;obtain⟨m1,m2,m3,m4,m5,m6,m7⟩:=round_part Kp (partition_holds _) Q N (by omega) hB4 hx;simp only at v⊢;refine⟨by decide,?_⟩;have w1:ac .i64 ((mid:Int)-(c:Int))=((mid-c:Nat):Int):=by rw[dW (by omega)];omega
   have w2:ac .i64 ((f:Int)-(mid:Int))=((f-mid:Nat):Int):=by rw[dW (by omega)];omega
   have w3:ac .i64 ((mid:Int)+1)=((mid+1:Nat):Int):=by rw[dW (by omega)];omega
   rw[w1,w2,w3];refine av (fun _=>?_) fun _=>?_
   ·refine ih (mid-c) (by omega) rfl v m1 (by omega) m4 fun h10 d6 D u A B=>?_
    obtain⟨y1,y2⟩:=m6 d6 u A;have hz6:=u.1;refine hI (mid+1,f,d6) _ _ ⟨rfl,rfl,D,by simp only;omega,⟨by simp only;omega,by simp only;omega,hee⟩,y1,fun R Z r2=>?_,(Y.tr O).tr B⟩ (by simp only;omega)
    obtain⟨x1,x2⟩:=y2 R Z r2;exact k R (permIn_trans _ _ _ _ _ G x1) x2
   ·refine ih (f-(mid+1)) (by omega) rfl v (by omega) (by omega) m5 fun h10 d6 D u A B=>?_
    obtain⟨y1,y2⟩:=m7 d6 u A;have hz6:=u.1;refine hI (c,mid,d6) _ _ ⟨rfl,rfl,D,by simp only;omega,⟨haa,m1,by simp only;omega⟩,y1,fun R Z r2=>?_,(Y.tr O).tr B⟩ (by simp only;omega)
    obtain⟨x1,x2⟩:=y2 R Z r2;exact k R (permIn_trans _ _ _ _ _ G x1) x2
theorem Ew{d b:Array Int}(c:PermIn 0 d.size d b):b.toList.Perm d.toList:=by
 have:=c.2.2;have e:b.extract 0 d.size=b:=by rw[←c.1];simp
 rw[e]at this;simpa using this
theorem Qc{M:Nat→Prop}{h:af}{s:SliceV}{xs:List Int}(d:OwnS Jv 1 il M h s xs)(G:xs.length≤1000000000){K:Unit→af→Prop}
  (v:∀c ys,OwnS Jv 1 il M c s ys→ys.Perm xs→ys.Pairwise (·≤·)→Upd M h c→K () c):HC PG lj [.slice s.a s.len s.cap] [] K h:=by
 refine xj s ?_;unfold p9 un;have k:s.len=xs.length:=d.len;rw[show ac .u64 (s.len:Int)=(s.len:Int) by rw[Km];omega]
 refine N2 (by omega) fun L _ _=>?_
 rcases d.blk with Q|⟨b,rest,z,f,F,D⟩
 ·have hx:xs= []:=by
   have:=d.cap;exact List.length_eq_zero_iff.1 (by omega)
  subst hx;obtain⟨A,l0,c0⟩:=s;have m:l0=0:=k;subst m;refine mM ⟨A,0,c0⟩ 0 ((0:Nat):Int) L ?_;unfold je aW cp BO un ru;refine LoopP.ghost (fun(_:Unit) (t:Int×Int×Int×Bool×Bool) c=>t.1=0∧t.2.1=0∧c=h) (fun _=>0) () ⟨rfl,rfl,rfl⟩ ?_
  rintro I _ ⟨P,O,J⟩ c ⟨rfl,rfl,rfl⟩ _;refine av (fun _=>?_) fun n=>absurd (show ac .i64 ((0:Int)-0)≤12 by decide) n
  refine jM ⟨A,0,c0⟩ 0 0 ?_;unfold gf aW cp cu ru;refine LoopP.ghost (fun(_:Unit) (t:Int) h2=>t=1∧h2=c) (fun _=>0) () ⟨by decide,rfl⟩ ?_
  rintro N _ t h2 ⟨rfl,rfl⟩ _;exact av (fun n=>absurd n (by decide)) fun _=>v _ [] d (List.Perm.refl _) fG (Upd.refl _ _)
 ·have B:SAJ s b rest h xs.toArray:=⟨z,by simp[k],by simpa using F,by simpa using G⟩
  have E:((s.len:Nat):Int)=((xs.toArray.size:Nat):Int):=by simp[k]
  rw[E];refine SU (a:=0) (e:=xs.toArray.size) _ rfl B (bJ _) (aq _) (.inl rfl) fun c o p w C H=>?_
  have g:=Ew w;refine v c o.toList ⟨by rw[k,g.length_eq],d.ne,d.cap,.inr ⟨b,rest,z,f,p.blk,D⟩⟩ (by simpa using g) ?_ (H.mono fun x hx=>.inl (hx▸f))
  rw[List.pairwise_iff_getElem];intro i j hi y u;have q:=w.1;have:=C i j (bJ _) u (by rw[←q];simpa using y);simp only[ltInt,decide_eq_false_iff_not]at this;rw[getElem!_pos o j (by simpa using y),getElem!_pos o i (by simpa using hi)]at this;simp only[Array.getElem_toList];omega
theorem L6{h:af}{e:Value}{N:Nat}{S:List Int→Prop}{Q:Nat→Prop}(p:Gives PG e Jv N S Q h)(g:N≤1000000000)(k:∀xs,S xs→xs.length≤1000000000){K:SliceV→af→Prop}
  (n:∀s' h' xs ys,S xs→OwnS Jv 1 il (fun b=>h.size≤b) h' s' ys→ys.Perm xs→ys.Pairwise (·≤·)→Upd No h h'→K s' h'):HC PG oz [e] [.c .slice] K h:=by
 refine An e ?_;unfold tN;refine Lp p g fun j s xs hx f q=>?_
 exact Qc f (k xs hx) fun h2 ys c i o d=>n j h2 xs ys hx c i o (q.trans d fun b m=>.inr m)
end
end Go.Proofs
namespace Go.Proofs
open Go Go.Lift
section
variable {h:af} {n m:ByteArray} {id p:Int} {s:SliceV} {t:Tr}
end
theorem Qe{h:af}{v:Value}{K:wS []→af→Prop}(i:K () h):HC PG eF [.slice none 0 0,v] [] K h:=by
 refine l9 ⟨none,0,0⟩ v ?_;unfold gE;refine QN (n:=0) (by omega) fun L _ _=>?_
 refine pN ⟨none,0,0⟩ 0 0 L v ?_;unfold jA aW cp pF ft cr Ow;refine LoopP.ghost (fun(_:Unit) (t:Int×Int×Int×Bool×Bool) d=>t.1=0∧t.2.1=0∧d=h) (fun _=>0) () ⟨rfl,rfl,rfl⟩ ?_
 rintro I _ ⟨a,b,c⟩ d ⟨f,g,rfl⟩ _;simp only at f g⊢;subst f g;refine av (fun _=>?_) fun e=>absurd e (by decide)
 refine mB ⟨none,0,0⟩ 0 0 v ?_;unfold gO aW cp lH pF ft Fc cr Ow;refine LoopP.ghost (fun(_:Unit) (t:Int) h2=>t=1∧h2=d) (fun _=>0) () ⟨by decide,rfl⟩ ?_
 rintro I _ t h2 ⟨rfl,rfl⟩ _;exact av (fun e=>absurd e (by decide)) fun _=>i
theorem Ic{h:af}{r:Nat}(m:MapAt Ul Wm h r []){K:SliceV→af→Prop}(j:∀c,Upd No h c→K ⟨none,0,0⟩ c):HC PG lK [.map (some r)] [.c .slice] K h:=by
 refine Bw (some r) ?_;unfold uX Fc Es;obtain⟨b,⟨es,e⟩,i⟩:=m.range;refine⟨b,.inr ⟨r,es,rfl,e⟩,RW fun g d=>?_⟩
 have k1:=Upd.push No h (.mapIter (some r) b #[] b);have d:g=h.push (.mapIter (some r) b #[] b):=d;rw[←d]at i k1;refine LoopP.ghost (fun(_:Unit) (t:SliceV) c=>t=⟨none,0,0⟩∧c=g) (fun _=>0) () ⟨rfl,rfl⟩ ?_
 rintro I _ t c ⟨rfl,rfl⟩ _;refine NextP.at (M:=(· =h.size)) i rfl (fun _=>Qe (j _ k1)) fun k v f=>absurd f (by simp)
end Go.Proofs
