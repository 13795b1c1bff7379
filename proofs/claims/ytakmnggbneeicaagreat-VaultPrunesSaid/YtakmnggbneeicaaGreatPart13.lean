/- A part of the proof that the named laws of this program answer true, whatever the input. -/
import Derived.Test.YtakmnggbneeicaaGreatPart12
import Derived.Test.YtakmnggbneeicaaGreatPart0
import Derived.Test.YtakmnggbneeicaaGreatPart4
import Derived.Test.YtakmnggbneeicaaGreatPart3
import Derived.Test.YtakmnggbneeicaaGreatPart5
import Derived.Test.YtakmnggbneeicaaGreatPart7
import Derived.Test.YtakmnggbneeicaaGreatPart8
import Derived.Test.YtakmnggbneeicaaGreatPart11
import Derived.Shelf.SlLaysF0
import Derived.Test.YtakmnggbneeicaaGreatTreeF
open BitVec renaming ofInt→aA
open Classical renaming byContradiction→mw
open Go.IntKind renaming wrap→ac,bits→ak
open List renaming length_eq_zero_iff→aG,pairwise_iff_getElem→bR,pairwise_cons→ay,filter_cons→aR,mem_map→aP,take_succ_eq_append_getElem→av,mem_append_right→bW,mem_singleton→al,mem_append→aF,length_filter_le→bF,filter_append→ci,take_of_length_le→aS,filter_congr→ef,mem_filter→bE,getElem_of_mem→bD,length_set→gK,getElem_mem→aH,mem_append_left→bQ
open List.Pairwise renaming nil→cf
open List.Perm renaming refl→oQ
open Nat renaming mul_comm→rq,le_trans→aW,le_refl→ai,zero_le→aN,beq→aJ,le_succ→i5,not_lt→de
open Prod renaming mk→pK
namespace Go.Proofs
open Go.Lift Go.Sort
variable {s:SliceV} {b:Nat} {rest:List Value} {h:ad} {d:Array Int}
theorem KT(x:Int):ac .u64 x=x%18446744073709551616:=by
 simp[ac,ak,IntKind.signed]
theorem He(x:Int){m:Int}(a:0≤m)(hm:m<18446744073709551616):0≤ac .u64 ((aA (ak .u64) x&&&aA (ak .u64) m).toNat:Int)∧ac .u64 ((aA (ak .u64) x&&&aA (ak .u64) m).toNat:Int)≤m:=by
 have c:(aA (ak .u64) x&&&aA (ak .u64) m).toNat≤(aA (ak .u64) m).toNat:=by
  rw[BitVec.toNat_and];exact Nat.and_le_right
 have b:((aA (ak .u64) m).toNat:Int)=m:=by
  show((aA 64 m).toNat:Int)=m
  rw[BitVec.toNat_ofInt];have:m%((2^64:Nat):Int)=m:=Int.emod_eq_of_lt a (by omega);rw[this];omega
 rw[KT];omega
abbrev Px:ByteArray:=⟨#[0,1,2,2,3,3,3,3,4,4,4,4,4,4,4,4,5,5,5,5,5,5,5,5,5,5,5,5,5,5,5,5,6,6,6,6,6,6,6,6,6,6,6,6,6,6,6,6,6,6,6,6,6,6,6,6,6,6,6,6,6,6,6,6,7,7,7,7,7,7,7,7,7,7,7,7,7,7,7,7,7,7,7,7,7,7,7,7,7,7,7,7,7,7,7,7,7,7,7,7,7,7,7,7,7,7,7,7,7,7,7,7,7,7,7,7,7,7,7,7,7,7,7,7,7,7,7,7,8,8,8,8,8,8,8,8,8,8,8,8,8,8,8,8,8,8,8,8,8,8,8,8,8,8,8,8,8,8,8,8,8,8,8,8,8,8,8,8,8,8,8,8,8,8,8,8,8,8,8,8,8,8,8,8,8,8,8,8,8,8,8,8,8,8,8,8,8,8,8,8,8,8,8,8,8,8,8,8,8,8,8,8,8,8,8,8,8,8,8,8,8,8,8,8,8,8,8,8,8,8,8,8,8,8,8,8,8,8,8,8,8,8,8,8,8,8,8,8,8,8,8,8,8,8,8,8]⟩
theorem SG:∀x:Nat,x<256→∃c:UInt8,Px[x]? =some c∧c.toNat≤8∧(1≤x→2^c.toNat≤2*x)∧(x=0→c.toNat=0):=by
 have key:∀x:Fin 256,∃c:UInt8,Px[x.val]? =some c∧c.toNat≤8∧(1≤x.val→2^c.toNat≤2*x.val)∧(x.val=0→c.toNat=0):=by
  intro x;have:∀x:Fin 256,(match Px[x.val]? with|some c=>decide (c.toNat≤8∧(1≤x.val→2^c.toNat≤2*x.val)∧(x.val=0→c.toNat=0))|none=>false)=true:=by decide+kernel
  have hx:=this x;split at hx
  ·rename_i c hc
   exact⟨c,hc,of_decide_eq_true hx⟩
  ·cases hx
 exact fun x hx=>key ⟨x,hx⟩
theorem QB{n:Nat}(v:n<4294967296){K:Int→ad→Prop}(q:∀L:Nat,L≤64→(1≤n→2^L≤2*n)→K (L:Int) h):fH 204 [.int .u64 n] K h:=by
 refine cW (tU n) Bw Tryz.func204 Tryz.call204 ?_;unfold tU;have fd:∀(x k:Nat),Int.fdiv (x:Int) (2^k)=((x/2^k:Nat):Int):=fun x k=>by
  rw[Int.fdiv_eq_ediv_of_nonneg _ (Int.pow_nonneg (by omega))];rw[Int.natCast_ediv,Int.natCast_pow];rfl
 refine Join.intro (fun t h'=>h'=h∧t=((n:Int),(0:Int))) (fun R d=>?_) ?_
 ·exact ao (fun a=>by omega) fun a=>d _ _ ⟨rfl,rfl⟩
 ·rintro t h' ⟨rfl,rfl⟩
  refine Join.intro (fun t j=>j=h'∧∃x s:Nat,t=((x:Int),(s:Int))∧x*2^s≤n∧(1≤n→1≤x)∧x<65536∧s≤16) (fun R d=>?_) ?_
  ·refine ao (fun a=>?_) fun a=>d _ _ ⟨rfl,n,0,rfl,by simp,fun h=>h,by have a:¬(n:Int)≥65536:=a;omega,by omega⟩
   have a:65536≤n:=by have a:(n:Int)≥65536:=a;omega
   refine⟨by omega,d _ _ ⟨rfl,n/2^16,16,?_,Nat.div_mul_le_self ..,fun _=>by omega,by omega,by omega⟩⟩
   simp only[pK.injEq];exact⟨fd n 16,by decide⟩
  ·rintro t j ⟨rfl,x,s,rfl,hx,b,e,f⟩
   refine Join.intro (fun t i=>i=j∧∃x s:Nat,t=((x:Int),(s:Int))∧x*2^s≤n∧(1≤n→1≤x)∧x<256∧s≤24) (fun R d=>?_) ?_
   ·refine ao (fun a=>?_) fun a=>d _ _ ⟨rfl,x,s,rfl,hx,b,by have a:¬(x:Int)≥256:=a;omega,by omega⟩
    have a:256≤x:=by have a:(x:Int)≥256:=a;omega
    refine⟨by omega,d _ _ ⟨rfl,x/2^8,s+8,?_,?_,fun _=>by omega,by omega,by omega⟩⟩
    ·simp only[pK.injEq]
     exact⟨fd x 8,by rw[df (by omega)];omega⟩
    ·rw[Nat.pow_add,rq (2^s),←Nat.mul_assoc]
     exact aW (Nat.mul_le_mul_right _ (Nat.div_mul_le_self ..)) hx
   ·rintro t i ⟨rfl,x,s,rfl,hx,b,e,f⟩
    obtain⟨c,hc,m,g,p⟩:=SG x e;have wx:ac .u8 (x:Int)=(x:Int):=by
     simp[ac,ak,IntKind.signed];omega
    show∃b10:UInt8,(0:Int)≤ac .u8 (x:Int)∧Px[(ac .u8 (x:Int)).toNat]? =some b10∧_
    rw[wx];refine⟨c,by omega,by simpa using hc,?_⟩
    have o:ac .i64 (c.toNat:Int)=(c.toNat:Int):=df (by omega);have u:ac .i64 ((s:Int)+ac .i64 (c.toNat:Int))=((s+c.toNat:Nat):Int):=by rw[o,df (by omega)];omega
    show K (ac .i64 ((s:Int)+ac .i64 (c.toNat:Int))) i
    rw[u];refine q _ (by omega) fun a=>?_
    have:=g (b a);rw[Nat.pow_add];calc 2^s*2^c.toNat≤2^s*(2*x):=Nat.mul_le_mul_left _ this
     _=2*(x*2^s):=by rw[rq (2^s),Nat.mul_assoc]
     _≤2*n:=Nat.mul_le_mul_left _ hx
theorem Pw{n:Nat}(b:n<4294967296){K:Int→ad→Prop}(a:∀L:Nat,L≤64→(1≤n→2^L≤2*n)→K (L:Int) h):fH 140 [.int .u64 n] K h:=by
 refine cW (wC n) .nil Tryz.func140 Tryz.call140 ?_;unfold wC;exact QB b a
theorem LH{n:Nat}(b:1≤n)(g:n≤1000000000){K:Int→ad→Prop}(a:∀m:Nat,1≤m→m≤2*n→K (m:Int) h):sO 267 [.int .i64 n] K h:=by
 refine cW (nP n) .nil Tryz.func267 Tryz.call267 ?_;unfold nP;rw[show ac .u64 (n:Int)=(n:Int) by rw[KT];omega]
 refine Pw (by omega) fun L f d=>⟨by omega,?_⟩
 have:=d b;have e:ac .u64 (1*2^(min ((L:Int)).toNat (ak .u64)))=((2^L:Nat):Int):=by
  rw[KT,show min ((L:Int)).toNat (ak .u64)=L by simp[ak];omega,Int.one_mul]
  have c:(2:Int)^L=((2^L:Nat):Int):=by simp
  rw[c];generalize 2^L=P at this⊢;omega
 rw[e];exact a _ (Nat.one_le_two_pow) this
theorem IT{c:Nat}{n:Int}{t:TypeId}(hc:h[c]? =some (.cells #[.int .u64 n] t (0,0))) {K:Int→ad→Prop}
  (i:∀h' m,h'[c]? =some (.cells #[.int .u64 m] t (0,0))→Upd (· =c) h h'→K m h'):sO 268 [gS c] K h:=by
 refine cW (oy (some ⟨c,0,none⟩)) .nil Tryz.func268 Tryz.call268 ?_;dsimp only[oy,cH,zE,Mp];have set:∀{h:ad} {n:Int} (m:Int),h[c]? =some (.cells #[.int .u64 n] t (0,0))→(hset h ⟨c,0,none⟩ (.int .u64 m))[c]? =some (.cells #[.int .u64 m] t (0,0))∧Upd (· =c) h (hset h ⟨c,0,none⟩ (.int .u64 m))∧Wr h ⟨c,0,none⟩:=fun m hc=>by
  refine⟨?_,Upd.hset _ _ rfl,eC hc (by simp)⟩;rw[ju hc,dE hc];rfl
 have a:∀{h:ad} {n:Int},h[c]? =some (.cells #[.int .u64 n] t (0,0))→aK h ⟨c,0,none⟩=some (.int .u64 n):=fun hc=>by rw[bd hc];rfl
 refine⟨_,rfl,_,a hc,_,rfl,_,a hc,by omega,_,rfl,?_⟩
 obtain⟨b,k1,j⟩:=set _ hc;refine⟨j,_,rfl,_,a b,_,rfl,_,a b,by omega,_,rfl,?_⟩
 obtain⟨d,k,o⟩:=set _ b;refine⟨o,_,rfl,_,a d,_,rfl,_,a d,by omega,_,rfl,?_⟩
 obtain⟨e,f,g⟩:=set _ d;exact⟨g,_,rfl,_,a e,i _ _ e ((k1.tr k).tr f)⟩
theorem AO{a e:Nat}(C:SAG s b rest h d)(ha:a≤e)(he:e≤d.size){K:Unit→ad→Prop}(P:∀h' d',SAG s b rest h' d'→PermIn a e d d'→Upd (· =b) h h'→K () h'):
  dd 207 [.slice s.a s.len s.cap,.int .i64 a,.int .i64 e] K h:=by
 refine cW (iJ s a e) nY Tryz.func207 Tryz.call207 ?_;dsimp only[iJ,Ey,fQ,cV,rz,cB,TR];have Q:=C.small;have wl:ac .i64 ((e:Int)-(a:Int))=((e-a:Nat):Int):=by rw[df (by omega)];omega
 rw[wl];refine ao (fun O=>?_) fun O=>P h d C (permIn_refl ..) (Upd.refl _ _)
 have O:8≤e-a:=by omega
 have k0:=Upd.hnew No h [.int .u64 0] 358;have c:=bU h [.int .u64 0] 358;have A:=C.upd k0 id;have X:=bw C.blk;have p:h.size≠b:=by omega
 simp only[Go.Lift.At,cz];generalize hnew h [.int .u64 0] 358=h0 at k0 c A;refine⟨eC c (by simp),?_⟩;have k1:Upd (· =h.size) h0 (hset h0 ⟨h.size,0,none⟩ (.int .u64 (ac .u64 ((e-a:Nat):Int)))):=Upd.hset _ _ rfl
 have v:(hset h0 ⟨h.size,0,none⟩ (.int .u64 (ac .u64 ((e-a:Nat):Int))))[h.size]? =some (.cells #[.int .u64 (ac .u64 ((e-a:Nat):Int))] 358 (0,0)):=by
  rw[ju c,dE c];rfl
 have z:=A.upd k1 fun e=>p e.symm
 generalize hset h0 ⟨h.size,0,none⟩ (.int .u64 (ac .u64 ((e-a:Nat):Int)))=h1 at k1 v z;refine LH (by omega) (by omega) fun m hm1 hm2=>⟨by decide,?_⟩
 have Y:ac .i64 (ac .i64 (Int.tdiv ((e-a:Nat):Int) 4)*2)=(((e-a)/4*2:Nat):Int):=by
  rw[Int.tdiv_eq_ediv_of_nonneg (by omega),df (x:=((e-a:Nat):Int)/4) (by omega),df (by omega)];omega
 simp only[Bd];rw[Y];have Z:ac .i64 (ac .i64 ((a:Int)+(((e-a)/4*2:Nat):Int))-1)=((a+(e-a)/4*2-1:Nat):Int):=by
  rw[df (x:=(a:Int)+_) (by omega),df (by omega)];omega
 have w2:ac .i64 (ac .i64 ((a:Int)+(((e-a)/4*2:Nat):Int))+1)=((a+(e-a)/4*2+1:Nat):Int):=by
  rw[df (x:=(a:Int)+_) (by omega),df (by omega)];omega
 rw[Z];refine LoopP.ghost (fun(g:Nat×Array Int) (t:Int) h'=>t=(g.1:Int)∧SAG s b rest h' g.2∧PermIn a e d g.2∧Upd (· =b) h h'∧(∃n,h'[h.size]? =some (.cells #[.int .u64 n] 358 (0,0)))∧a+(e-a)/4*2-1≤g.1∧g.1≤a+(e-a)/4*2+2) (fun g=>a+(e-a)/4*2+2-g.1) (a+(e-a)/4*2-1,d)
  ⟨rfl,z,permIn_refl ..,k0.wide.trans k1 fun x hx=>.inr (by omega),⟨_,v⟩,ai _,by(try simp only);omega⟩ ?_
 rintro I ⟨i,B⟩ t W ⟨ht,k,f,w,⟨n2,F⟩,L,E⟩ hI;(try simp only at ht k f L E)
 subst ht;have hz:B.size=d.size:=f.1;refine⟨by decide,?_⟩;rw[w2];refine ao (fun J=>?_) fun hgt=>P W B k f w
 have J:i≤a+(e-a)/4*2+1:=by omega
 refine IT F fun V r D y=>?_
 have G:=k.upd y fun e=>p e.symm
 have wm:ac .u64 ((m:Int)-1)=((m-1:Nat):Int):=by rw[KT];omega
 rw[wm];obtain⟨a0,U⟩:=He r (m:=((m-1:Nat):Int)) (by omega) (by omega);generalize ac .u64 ((aA (ak .u64) r&&&aA (ak .u64) ((m-1:Nat):Int)).toNat:Int)=o at a0 U;have S:ac .i64 o=o:=df (by omega);refine Join.intro (fun t h'=>h'=V∧∃q:Nat,t=(q:Int)∧q<e-a) (fun R N=>?_) ?_
 ·show CondP (decide (ac .i64 o≥((e-a:Nat):Int))) _ _
  rw[S];refine ao (fun T=>N _ _ ⟨rfl,(o-((e-a:Nat):Int)).toNat,?_,by omega⟩) fun T=>N _ _ ⟨rfl,o.toNat,by omega,by omega⟩
  show ac .i64 (o-((e-a:Nat):Int))=_
  rw[df (by omega)];omega
 ·rintro t h' ⟨rfl,q,rfl,hq⟩
  have wj:ac .i64 ((a:Int)+(q:Int))=((a+q:Nat):Int):=by rw[df (by omega)];omega
  refine G.swap (i:=i) (j:=a+q) rfl wj (by omega) (by omega) fun h5 H u=>?_
  refine hI (i+1,swp B i (a+q)) _ _ ⟨by rw[df (by omega)];rfl,H,permIn_trans _ _ _ _ _ f (swp_permIn B a e i (a+q) (by omega) (by omega) (by omega) (by omega) (by omega)),?_,⟨r,u.get D p⟩,by(try simp only);omega,by(try simp only);omega⟩ (by(try simp only);omega)
  exact(w.trans y fun x hx=>.inr (by omega)).tr u
end Go.Proofs
namespace Go.Proofs
open Go.Lift Go.Sort
variable {s:SliceV} {b:Nat} {rest:List Value} {h:ad} {d:Array Int}
theorem K2:SWO ltInt:=⟨fun x=>by simp[ltInt],fun x y z b a=>by simp only[ltInt,decide_eq_true_iff]at*;omega,fun x y z b a=>by simp only[ltInt,decide_eq_false_iff_not]at*;omega⟩
theorem UJ:∀(n:Nat) {a e:Nat} {V:Int} {h:ad} {d:Array Int} {K:Unit→ad→Prop},e-a=n→SAG s b rest h d→a≤e→e≤d.size→Go.Sort.Below ltInt a e d→
  (∀h' d',SAG s b rest h' d'→PermIn a e d d'→SortedIn ltInt a e d'→Upd (· =b) h h'→K () h')→dd 143 [.slice s.a s.len s.cap,.int .i64 a,.int .i64 e,.int .i64 V] K h:=by
 intro n;induction n using Nat.strongRecOn with
 |_ n ih=>
 intro a e V h d K hn hs ha he hB hk;refine kN s a e V ?_;dsimp only[gX,DG,z6,sR,uB,rz,cB,fQ];have hsm:=hs.small;refine LoopP.ghost (fun(g:Nat×Nat×Array Int) (t:Int×Int×Int×Bool×Bool) h'=>t.1=(g.1:Int)∧t.2.1=(g.2.1:Int)∧SAG s b rest h' g.2.2∧g.2.2.size=d.size∧(a≤g.1∧g.1≤g.2.1∧g.2.1≤e)∧Go.Sort.Below ltInt g.1 g.2.1 g.2.2∧
   (∀R,PermIn g.1 g.2.1 g.2.2 R→SortedIn ltInt g.1 g.2.1 R→PermIn a e d R∧SortedIn ltInt a e R)∧Upd (· =b) h h') (fun g=>g.2.1-g.1) (a,e,d)
  ⟨rfl,rfl,hs,rfl,⟨ai _,ha,ai _⟩,hB,fun R h1 h2=>⟨h1,h2⟩,Upd.refl _ _⟩ ?_
 rintro I ⟨c,f,d1⟩ ⟨t1,t2,l1,wb,wp⟩ h1 ⟨L,ht2,C,N,⟨haa,v,hee⟩,Y,k,P⟩ hI;(try simp only at L ht2 C N haa v hee Y k)
 subst L ht2;have w:f≤d1.size:=by omega
 have wl:ac .i64 ((f:Int)-(c:Int))=((f-c:Nat):Int):=by rw[df (by omega)];omega
 (try simp only)
 rw[wl];refine ao (fun hle=>?_) fun hgt=>?_
 ·refine LS C v w fun h2 u m=>?_
  obtain⟨p1,p2⟩:=insertionSort_holds K2 d1 c f v w;obtain⟨q1,q2⟩:=k _ p1 p2;exact hk _ _ u q1 q2 (P.tr m)
 have hgt:12<f-c:=by omega
 refine CondP.intro (fun _=>?_) fun _=>?_
 ·refine JO C v w fun h2 u m=>?_
  obtain⟨p1,p2⟩:=heapSort_holds K2 d1 c f v w;obtain⟨q1,q2⟩:=k _ p1 p2;exact hk _ _ u q1 q2 (P.tr m)
 refine Join.intro (fun _ h'=>∃U,SAG s b rest h' U∧PermIn c f d1 U∧Upd (· =b) h h') (fun R D=>?_) ?_
 ·refine CondP.intro (fun _=>?_) fun _=>D _ _ ⟨d1,C,permIn_refl ..,P⟩
  exact AO C v w fun h2 U u H m=>D _ _ ⟨U,u,H,P.tr m⟩
 rintro lim2 h2 ⟨U,u,H,m⟩;have hz2:U.size=d.size:=by rw[H.1,N]
 refine DY u (by omega) (by omega) fun h3 p hn1 hpa hpe hs3 hu3=>?_
 refine Join.intro (fun t h'=>∃(q:Nat) (d3:Array Int),t.1=(q:Int)∧c≤q∧q<f∧SAG s b rest h' d3∧PermIn c f d1 d3∧Upd (· =b) h h') (fun R D=>?_) ?_
 ·refine CondP.intro (fun _=>?_) fun _=>D _ _ ⟨p,U,rfl,hpa,hpe,hs3,H,m.tr hu3.wide⟩
  refine Lh hs3 (by omega) (by omega) fun h4 Q B=>D _ _ ⟨f-1-(p-c),_,?_,by omega,by omega,Q,permIn_trans _ _ _ _ _ H (reverseRange_holds U c f v (by omega)),(m.tr hu3.wide).tr B⟩
  show ac .i64 (ac .i64 ((f:Int)-1)-ac .i64 ((p:Int)-(c:Int)))=_
  rw[df (x:=(f:Int)-1) (by omega),df (x:=(p:Int)-(c:Int)) (by omega),df (by omega)];omega
 rintro⟨q1,hint⟩ h4 ⟨q,d3,hq,J,O,Q,E,B⟩;(try simp only at hq)
 subst hq;have hz3:d3.size=d.size:=by rw[E.1,N]
 have hB3:Go.Sort.Below ltInt c f d3:=Y.perm w E;refine Join.intro (fun _ h'=>∃T,SAG s b rest h' T∧PermIn c f d1 T∧Upd (· =b) h h') (fun R D=>?_) ?_
 ·refine Join.intro (fun _ h'=>h'=h4) (fun R2 Z=>CondP.intro (fun _=>CondP.intro (fun _=>Z _ _ rfl) fun _=>Z _ _ rfl) fun _=>Z _ _ rfl) ?_
  rintro _ h5 rfl;refine CondP.intro (fun _=>?_) fun _=>D _ _ ⟨d3,Q,E,B⟩
  refine Fc Q (by omega) (by omega) fun h6 hs6 hu6=>?_
  obtain⟨p1,p2⟩:=partialInsertionSort_holds K2 d3 c f (by omega) (by omega) hB3;refine CondP.intro (fun hb=>?_) fun _=>D _ _ ⟨_,hs6,permIn_trans _ _ _ _ _ E p1,B.tr hu6⟩
  obtain⟨W,r2⟩:=k _ (permIn_trans _ _ _ _ _ E p1) (p2 hb);exact hk _ _ hs6 W r2 (B.tr hu6)
 rintro _ h5 ⟨T,hs5,A,X⟩;have hz4:T.size=d.size:=by rw[A.1,N]
 have hB4:Go.Sort.Below ltInt c f T:=Y.perm w A;refine Join.intro (fun t h'=>h'=h5∧(t=true→0<c∧ltInt T[c-1]! T[q]! =false)) (fun R D=>?_) ?_
 ·refine ao (fun h6=>?_) fun _=>D _ _ ⟨rfl,fun e=>by cases e⟩
  refine hs5.less (i:=c-1) (j:=q) (by rw[df (by omega)];omega) rfl (by omega) (by omega) (D _ _ ⟨rfl,fun e=>⟨by omega,by simpa using e⟩⟩)
 rintro t h6 ⟨rfl,ht⟩;refine CondP.intro (fun L=>?_) fun _=>?_
 ·obtain⟨h7,h8⟩:=ht L
  refine NB hs5 J O (by omega) fun h9 y S=>?_
  cases hx:partitionEqual ltInt T c f q with
  |mk mid d5=>
   rw[hx]at y;obtain⟨m1,m2,m3,m4,m5⟩:=round_eq K2 (partitionEqual_holds _) h7 J O (by omega) hB4 h8 hx;refine hI (mid,f,d5) _ _ ⟨rfl,rfl,y,by(try simp only);omega,⟨by(try simp only);omega,m2,hee⟩,m4,fun R W r2=>?_,X.tr S⟩ (by(try simp only);omega)
   obtain⟨x1,x2⟩:=m5 R W r2;exact k R (permIn_trans _ _ _ _ _ A x1) x2
 ·refine Sm hs5 J O (by omega) fun h9 y S=>?_
  cases hx:partition ltInt T c f q with
  |mk mid r=>
   obtain⟨ap,d5⟩:=r;rw[hx]at y;obtain⟨m1,m2,m3,m4,m5,m6,m7⟩:=round_part K2 (partition_holds _) J O (by omega) hB4 hx;(try simp only at y⊢)
   refine⟨by decide,?_⟩;have w1:ac .i64 ((mid:Int)-(c:Int))=((mid-c:Nat):Int):=by rw[df (by omega)];omega
   have w2:ac .i64 ((f:Int)-(mid:Int))=((f-mid:Nat):Int):=by rw[df (by omega)];omega
   have w3:ac .i64 ((mid:Int)+1)=((mid+1:Nat):Int):=by rw[df (by omega)];omega
   rw[w1,w2,w3];refine ao (fun _=>?_) fun _=>?_
   ·refine ih (mid-c) (by omega) rfl y m1 (by omega) m4 fun h10 d6 G o z F=>?_
    obtain⟨y1,y2⟩:=m6 d6 o z;have hz6:=o.1;refine hI (mid+1,f,d6) _ _ ⟨rfl,rfl,G,by(try simp only);omega,⟨by(try simp only);omega,by(try simp only);omega,hee⟩,y1,fun R W r2=>?_,(X.tr S).tr F⟩ (by(try simp only);omega)
    obtain⟨x1,x2⟩:=y2 R W r2;exact k R (permIn_trans _ _ _ _ _ A x1) x2
   ·refine ih (f-(mid+1)) (by omega) rfl y (by omega) (by omega) m5 fun h10 d6 G o z F=>?_
    obtain⟨y1,y2⟩:=m7 d6 o z;have hz6:=o.1;refine hI (c,mid,d6) _ _ ⟨rfl,rfl,G,by(try simp only);omega,⟨haa,m1,by(try simp only);omega⟩,y1,fun R W r2=>?_,(X.tr S).tr F⟩ (by(try simp only);omega)
    obtain⟨x1,x2⟩:=y2 R W r2;exact k R (permIn_trans _ _ _ _ _ A x1) x2
theorem DN{d a:Array Int}(b:PermIn 0 d.size d a):a.toList.Perm d.toList:=by
 have:=b.2.2;have c:a.extract 0 d.size=a:=by rw[←b.1];simp
 rw[c]at this;simpa using this
theorem UA{M:Nat→Prop}{h:ad}{s:SliceV}{xs:List Int}(c:OwnS u32 1 31 M h s xs)(C:xs.length≤1000000000){K:Unit→ad→Prop}
  (A:∀h' ys,OwnS u32 1 31 M h' s ys→ys.Perm xs→ys.Pairwise (·≤·)→Upd M h h'→K () h'):dd 95 [.slice s.a s.len s.cap] K h:=by
 refine cW (nQ s) .nil Tryz.func95 Tryz.call95 ?_;unfold nQ DG;have g:s.len=xs.length:=c.len;rw[show ac .u64 (s.len:Int)=(s.len:Int) by rw[KT];omega]
 refine Pw (by omega) fun L _ _=>?_
 rcases c.blk with J|⟨b,rest,y,d,hb,D⟩
 ·have hx:xs= []:=by
   have:=c.cap;exact aG.1 (by omega)
  subst hx;obtain⟨z,B,c0⟩:=s;have k:B=0:=g;subst k;refine kN ⟨z,0,c0⟩ 0 ((0:Nat):Int) L ?_;dsimp only[gX,DG,z6,sR,uB,rz,cB,fQ];refine LoopP.ghost (fun(_:Unit) (t:Int×Int×Int×Bool×Bool) h'=>t.1=0∧t.2.1=0∧h'=h) (fun _=>0) () ⟨rfl,rfl,rfl⟩ ?_
  rintro I _ ⟨N,P,Q⟩ h' ⟨rfl,rfl,rfl⟩ _;refine ao (fun _=>?_) fun m=>absurd (show ac .i64 ((0:Int)-0)≤12 by decide) m
  refine iI ⟨z,0,c0⟩ 0 0 ?_;dsimp only[eW,Ey,fQ,cV,rz,cB,sR,uB];refine LoopP.ghost (fun(_:Unit) (t:Int) v=>t=1∧v=h') (fun _=>0) () ⟨by decide,rfl⟩ ?_
  rintro O _ t v ⟨rfl,rfl⟩ _;exact ao (fun m=>absurd m (by decide)) fun _=>A _ [] c (oQ _) cf (Upd.refl _ _)
 ·have E:SAG s b rest h xs.toArray:=⟨y,by simp[g],by simpa using hb,by simpa using C⟩
  have H:((s.len:Nat):Int)=((xs.toArray.size:Nat):Int):=by simp[g]
  rw[H];refine UJ (a:=0) (e:=xs.toArray.size) _ rfl E (aN _) (ai _) (.inl rfl) fun h' p q w F G=>?_
  have f:=DN w;refine A h' p.toList ⟨by rw[g,f.length_eq],c.ne,c.cap,.inr ⟨b,rest,y,d,q.blk,D⟩⟩ (by simpa using f) ?_ (G.mono fun x hx=>.inl (hx▸d))
  rw[bR];intro i j hi u n;have o:=w.1;have:=F i j (aN _) n (by rw[←o];simpa using u);simp only[ltInt,decide_eq_false_iff_not]at this;rw[getElem!_pos p j (by simpa using u),getElem!_pos p i (by simpa using hi)]at this;simp only[Array.getElem_toList];omega
theorem M6{h:ad}{d:Value}{N:Nat}{S:List Int→Prop}{Q:Nat→Prop}(o:Gives PG d u32 N S Q h)(i:N≤1000000000)(k:∀xs,S xs→xs.length≤1000000000){K:SliceV→ad→Prop}
  (f:∀s' h' xs ys,S xs→OwnS u32 1 31 (fun b=>h.size≤b) h' s' ys→ys.Perm xs→ys.Pairwise (·≤·)→Upd No h h'→K s' h'):eP 42 [d] K h:=by
 refine cW (qL d) .nil Tryz.func42 Tryz.call42 ?_;unfold qL;refine Of o i fun e q xs hx g m=>?_
 exact UA g (k xs hx) fun p ys a n j c=>f e p xs ys hx a n j (m.trans c fun b hb=>.inr hb)
end Go.Proofs
namespace Go.Proofs
open Go.Lift
theorem yw:∀{ys:List Int},ys.Pairwise (·≤·)→ys.Nodup→ys.Pairwise (· < ·)
 | [],_,_=>cf
 |y::ys,h,n=>by
  rw[ay]at h;rw[List.nodup_cons]at n;exact ay.2 ⟨fun z a=>by have:=h.1 z a;have:y≠z:=fun e=>n.1 (e▸a);omega,yw h.2 n.2⟩
theorem Rep.keys{W:Nat→Prop}{h:ad}{m:List (Int×SliceV)}{L:cT}(r:Rep W h m L)(id:Int):id∈m.map (·.1)↔id∈dF L:=by
 have:=r.some id;have a:id∈m.map (·.1)↔(bC m id).isSome=true:=by
  cases hl:bC m id with
  |none=>simp[dN.1 hl]
  |some v=>
   simp only[Option.isSome_some,iff_true];by_cases hm:id∈m.map (·.1)
   ·exact hm
   ·rw[dN.2 hm]at hl;cases hl
 rw[a,this,decide_eq_true_iff]
theorem PD{W:Nat→Prop}{h:ad}{gp gm:Nat}{L:cT}{nx:Int}(g:GraphAt W h gp gm L nx)(f:(dF L).Pairwise (· < ·))(t:L.length≤100000)
  {K:SliceV→ad→Prop}(n:∀s' h',OwnS u32 1 31 (fun b=>h.size≤b) h' s' (dF L)→Upd No h h'→K s' h'):eP 10 [gS gp] K h:=by
 refine cW (tX (some ⟨gp,0,none⟩)) .nil Tryz.func10 Tryz.call10 ?_;dsimp only[tX,AV,cB,cH];obtain⟨m,hm,j⟩:=g.map;have i:=j.len hm.nodup g.nd;refine CondP.intro (fun e=>by cases e) fun _=>⟨_,rfl,_,g.c0,?_⟩
 refine SK hm fun v u q c=>?_
 refine M6 q (by omega) (fun xs hx=>by have:=hx.length_eq;simp at this;omega) fun s' p xs ys hx k s o d=>?_
 have a:=s.trans hx;have e:ys=dF L:=E4 (yw o (a.nodup_iff.2 hm.nodup)) f fun y=>by rw[a.mem_iff,j.keys]
 subst e;exact n s' p (k.more fun b hb=>aW c.size hb) (c.tr d)
end Go.Proofs
namespace Go.Proofs
open Go Go.Lift
def X1(W:Nat→Prop)(h:ad)(m:List (Int×SliceV))(F:Int→Option (List Int)):Prop:=
 ∀id,(∃s ps,bC m id=some s∧F id=some ps∧Nums W h s ps)∨(bC m id=none∧F id=none)
theorem rk(p:Int→Bool):∀(L:cT) (j:Int),bC (L.filter fun v=>p v.1) j=if p j then bC L j else none
 | [],j=>by simp[bC]
 |v::L,j=>by
  rw[aR];by_cases h:p v.1=true
  ·rw[if_pos h]
   simp only[bC];rw[rk p L j];by_cases e:j=v.1
   ·subst e;simp[h]
   ·simp[e]
  ·rw[if_neg h,rk p L j]
   simp only[bC];by_cases e:j=v.1
   ·subst e;simp[h]
   ·simp[e]
theorem S0{W:Nat→Prop}{h:ad}{gp gm:Nat}{L:cT}{nx:Int}(g:GraphAt W h gp gm L nx)(gd:Good L){s:SliceV}{keep:List Int}(hs:Nums W h s keep)(hn:keep.length≤1000)
  {K:SliceV→ad→Prop}(hk:∀s' h' (st:List Int),(∀y,y∈st↔∃k∈keep,UpG L k y)→OwnS u32 1 31 (fun b=>h.size≤b) h' s' ((dF L).filter fun y=> !decide (y∈st))→GraphAt W h' gp gm (L.filter fun v=>decide (v.1∈st)) nx→Upd (zG gp gm) h h'→K s' h'):
  eP 41 [gS gp,.slice s.a s.len s.cap] K h:=by
 refine cW (sC (some ⟨gp,0,none⟩) s) zW Tryz.func41 Tryz.call41 ?_;dsimp only[sC,yR,rz,cB,fQ,qs,AV,cH];have hLl:=gd.len;refine CondP.intro (fun e=>by cases e) fun _=>?_
 refine Mf hs (by omega) fun s1 R ho1 N _=>?_
 have c:∀b,W b→b<h.size:=g.lt;have g1':=g.more (Q:=fun b=>h.size≤b∧b<R.size) N fun b hb=>hb
 have z1:=N.size;refine H9 (Q:=fun b=>h.size≤b∧b<R.size) g1' (fun b hb=>⟨.inr hb,fun e=>by have:=c _ g.wp;omega,fun e=>by have:=c _ g.wm;omega⟩) gd.two gd.len (ho1.more fun b hb=>by omega) (by omega) fun r X m hr hm hy hv hu2=>?_
 have u:Upd No h X:=N.trans hu2 fun b hb=>.inr hb.1
 have g2:=g.upd0 u;refine PD g2 gd.up hLl fun s3 P B C=>?_
 have U:=u.tr C;have g3:=g2.upd0 C;have hm3:=hm.upd C id;have hrW:¬W r:=fun e=>by have:=c _ e;omega
 have hr2:=hm.lt;obtain⟨st,O⟩:∃st:List Int,st=m.map (·.1):=⟨_,rfl⟩
 have Z:∀y,y∈st↔∃k∈keep,UpG L k y:=fun y=>by rw[O];exact hy y
 have J:∀y,((bC m y).getD 0==(0:Int))= !decide (y∈st):=fun y=>by
  cases hl:bC m y with
  |none=>simp[O,dN.1 hl]
  |some v=>
   have:=hv y v hl;subst this;have:y∈st:=by rw[O];exact aP.2 ⟨_,(eB hm.nodup).1 hl,rfl⟩
   simp[this]
 have T:Nums (zG gp gm) P s3 (dF L):=B.sl fun b hb _ hw=>by
  have:=c _ g.wp;have:=c _ g.wm;rcases hw with rfl|rfl<;>omega
 have n:(dF L).length=L.length:=by simp
 have hsz2:=C.size;have hsz1:=u.size;have hp3:=c _ g.wp;have hm3':=c _ g.wm;refine LoopP.ghost (fun(i:Nat) (t:SliceV×Int) h'=>t.2=(i:Int)∧i≤L.length∧Upd (zG gp gm) P h'∧OwnS u32 1 31 (fun b=>P.size≤b) h' t.1 (((dF L).take i).filter fun y=> !decide (y∈st))∧
   h'[gp]? =some (.cells #[.map (some gm),.int .u32 nx] 104 (0,0))∧∃A,MapAt KE sv h' gm A∧X1 (fun b=>W b∨P.size≤b) h' A (fun j=>if j∈(dF L).take i∧j∉st then none else bC L j)) (fun i=>L.length-i) 0
  ⟨rfl,aN _,Upd.refl _ _,OwnS.nil jp,g3.blk,by
   obtain⟨A,h4,h5⟩:=g3.map
   exact⟨A,h4,fun j=>by
    rcases h5 j with⟨E,ps,w,d,D⟩|q
    ·exact .inl ⟨E,ps,w,by simpa using d,D.less fun b hb=>hb⟩
    ·exact .inr (by simpa using q)⟩⟩ ?_
 rintro I i ⟨out,t⟩ h' ⟨ht,hi,S,V,hb,A,z,G⟩ hI;(try simp only at ht V)
 subst ht;have hz':=S.size;refine ao (fun a=>?_) fun H=>?_
 ·have a:(i:Int)<(s3.len:Int):=a
  rw[B.len,n]at a;have a:i<L.length:=by omega
  have F:i<(dF L).length:=by omega
  obtain⟨a1,ha1,_,hx⟩:=Nums.at (T.upd S fun b hb=>.inl hb) F
  have hmr:=(hm3.upd S (fun e=>by rcases e with e|e<;>omega)).get (dF L)[i] 0
  refine Join.plain ⟨by show(0:Int)≤(i:Int)∧(i:Int)<(s3.len:Int);rw[B.len,n];omega,a1,ha1,_,hx,_,_,hmr,?_⟩;rw[J];have p:(dF L).take (i+1)=(dF L).take i++ [(dF L)[i]]:=av F;refine CondP.intro (fun hc=>?_) fun hc=>?_
  ·have o:(dF L)[i]∉st:=by simpa using hc
   refine Join.plain ⟨_,rfl,_,by rw[show adr ⟨gp,0,none⟩ 0=⟨gp,0,none⟩from rfl,bd hb];rfl,.inr ⟨gm,rfl,z.isMap,?_⟩⟩
   have Y:MapAt KE sv (pW h' gm (.int .u32 (dF L)[i])) gm (jP A (dF L)[i]):=z.del (dF L)[i];have f:Upd (· =gm) h' (pW h' gm (.int .u32 (dF L)[i])):=uD _ _ rfl
   have hod:=V.upd f fun b hb e=>by omega
   have hbd:(pW h' gm (.int .u32 (dF L)[i]))[gp]? =some (.cells #[.map (some gm),.int .u32 nx] 104 (0,0)):=f.get hb (fun e=>g.ne e.symm)
   have hrd:X1 (fun b=>W b∨P.size≤b) (pW h' gm (.int .u32 (dF L)[i])) (jP A (dF L)[i]) (fun j=>if j∈(dF L).take (i+1)∧j∉st then none else bC L j):=fun j=>by
    rw[nM];by_cases e:j=(dF L)[i]
    ·right
     rw[if_pos e];refine⟨rfl,?_⟩;(try simp only)
     rw[if_pos ⟨by rw[p,e];exact bW _ (al.2 rfl),by rw[e];exact o⟩]
    ·rw[if_neg e]
     have:(j∈(dF L).take (i+1)∧j∉st)↔(j∈(dF L).take i∧j∉st):=by
      rw[p,aF,al];exact⟨fun h=>⟨h.1.resolve_right e,h.2⟩,fun h=>⟨.inl h.1,h.2⟩⟩
     simp only[this];rcases G j with⟨E,ps,w,d,D⟩|q
     ·exact .inl ⟨E,ps,w,d,D.upd f fun b hb=>.inl (.inl (hb▸g.wm))⟩
     ·exact .inr q
   have hzd:=f.size;generalize pW h' gm (.int .u32 (dF L)[i])=h4 at Y f hod hbd hrd hzd;refine ye (M:=fun b=>P.size≤b) hod (fun b hb=>by omega) ?_ fun s' h5 ho5 x=>?_
   ·have:=bF (fun y=> !decide (y∈st)) ((dF L).take i);simp at this;omega
   ·(try simp only)
    rw[cp a (by omega)];refine hI (i+1) _ _ ⟨rfl,a,(S.tr (f.mono fun b hb=>.inl (.inr hb))).trans x fun b hb=>.inr hb,?_,x.get hbd (Nat.not_le.2 (by omega)),_,Y.upd x (Nat.not_le.2 (by omega)),?_⟩ (by omega)
    ·rw[p,ci,aR,if_pos (by simpa using o)]
     exact ho5
    ·intro j
     rcases hrd j with⟨E,ps,w,d,D⟩|q
     ·exact .inl ⟨E,ps,w,d,D.upd x fun b hb=>.inl (.inr hb)⟩
     ·exact .inr q
  ·have o:(dF L)[i]∈st:=by simpa using hc
   (try simp only)
   rw[cp a (by omega)];refine hI (i+1) _ _ ⟨rfl,a,S,?_,hb,A,z,fun j=>?_⟩ (by omega)
   ·rw[p,ci,aR,if_neg (by simpa using o)]
    simpa using V
   ·have:(j∈(dF L).take (i+1)∧j∉st)↔(j∈(dF L).take i∧j∉st):=by
     rw[p];simp only[aF,al];constructor
     ·rintro⟨R|R,X⟩
      ·exact⟨R,X⟩
      ·rw[R]at X;exact absurd o X
     ·exact fun h=>⟨.inl h.1,h.2⟩
    simp only[this];exact G j
 ·have H:¬(i:Int)<(s3.len:Int):=H
  rw[B.len,n]at H;have:i=L.length:=by omega
  rw[aS (by omega)]at V;refine hk out h' st Z (V.more fun b hb=>by omega) ⟨hb,⟨A,z,fun j=>?_⟩,g.wp,g.wm,fun b hb=>Nat.lt_of_lt_of_le (c b hb) (by omega),?_⟩ ((U.wide).tr S)
  ·rw[rk (fun y=>decide (y∈st))]
   have hj:=G j;rw[aS (by omega)]at hj;by_cases e:j∈st
   ·simp only[e,not_true_eq_false,and_false,if_false]at hj
    simp only[e,decide_true,if_true];rcases hj with⟨E,ps,w,d,D⟩|q
    ·exact .inl ⟨E,ps,w,d,D.less fun b hb=>.inl (.inl hb)⟩
    ·exact .inr q
   ·right
    rcases hj with⟨E,ps,w,d,D⟩|⟨w,d⟩
    ·by_cases e2:j∈dF L
     ·simp[e,e2]at d
     ·simp only[e2,false_and,if_false]at d
      rw[dN.2 e2]at d;cases d
    ·exact⟨w,by simp[e]⟩
  ·exact g.nd.sublist ((List.filter_sublist).map _)
end Go.Proofs
namespace Go.Proofs
open Go Go.Lift
end Go.Proofs
namespace Go.Proofs
open Go Go.Lift
def byN(s:ByteArray)(i:Nat):Nat:=if h:i<s.size then(s[i]'h).toNat else 0
def hv(s:ByteArray):Nat→Nat→Nat
 |_,0=>0
 |p,c+1=>hv s (p+1) c*256+byN s p
end Go.Proofs
namespace Go.Proofs
open Go Go.Lift
end Go.Proofs
namespace Go.Proofs
end Go.Proofs
namespace Go.Proofs
open Go Go.Lift
def dk(d k:Nat):Nat:=(d>>>k)<<<k
end Go.Proofs
namespace Go.Proofs
open Go Go.Lift
end Go.Proofs
namespace Go.Proofs
open Go Go.Lift
section
variable {bu:Bool} {s:SliceV} {q q':Nat→List Pr} {kk kk':Nat→Option Addr} {i:Nat}
end
end Go.Proofs
namespace Go.Proofs
open Go Go.Lift
end Go.Proofs
namespace Go.Proofs
open Go Go.Lift
end Go.Proofs
namespace Go.Proofs
open Go Go.Lift
end Go.Proofs
namespace Go.Proofs
open Go Go.Lift
end Go.Proofs
namespace Go.Proofs
open Go Go.Lift
end Go.Proofs
namespace Go.Proofs
open Go Go.Lift
end Go.Proofs
namespace Go.Proofs
open Go Go.Lift
end Go.Proofs
namespace Go.Proofs
open Go Go.Lift
theorem Xo{h:ad}{t:TypeId}{c:Cf}{k:ad→Prop}(e:∀h',h'[h.size]? =some (.cells (sP c).toArray t (0,0))→Upd No h h'→k h'):
  At (hnew h (sP Uf) t) fun b=>pk b (some (aL h)) 0 (sP c)∧At (eN b (aL h) 0 (sP c)) k:=
 ba fun _ b1 k1=>cn (c:=sP Uf) (vs:=sP c) b1 rfl fun d b2 a=>e d b2 (k1.own a (ai _))
theorem Qr{p:Int}(a:p<0∨3<p):CQ p=⟨#[]⟩:=by
 unfold CQ;rw[if_neg (by omega),if_neg (by omega),if_neg (by omega),if_neg (by omega)]
theorem Qy{W W':Nat→Prop}{h h':ad}{kind a:Int}{x c:Hs}{t u:Tr}{l l':List Pr}(i:TreeIs W h kind x t l)(d:TreeIs W' h' a c u l')(e:lz t u=true):a=kind∧(kind=0→c=x):=by
 rcases i with⟨rfl,b,rfl,_⟩|⟨rfl,b,rfl,_⟩<;>rcases d with⟨rfl,b',rfl,_⟩|⟨rfl,b',rfl,_⟩
 ·refine⟨rfl,fun _=>?_⟩
  cases x;cases c;simp[lz]at e;simp[e.1.1,e.1.2,e.2]
 ·simp[lz]at e
 ·simp[lz]at e
 ·exact⟨rfl,fun h=>by cases h⟩
theorem TreeIs.turn{W:Nat→Prop}{h:ad}{kind a:Int}{x f:Hs}{u:Tr}{l:List Pr}(i:TreeIs W h a f u l)(e:a=kind∧(kind=0→f=x)):TreeIs W h kind x u l:=by
 obtain⟨rfl,e⟩:=e;rcases i with⟨d,b,c,t⟩|⟨g,b,c,t⟩
 ·rw[←e d];exact .inl ⟨d,b,c,t⟩
 ·exact .inr ⟨g,b,c,t⟩
theorem RefIs.turn{W:Nat→Prop}{h:ad}{kind a:Int}{x f:Hs}{r:Rt}{l:List Pr}(b:kind=0∨kind=1)(i:RefIs W h a f r l)(e:a=kind∧(kind=0→f=x)):RefIs W h kind x r l:=by
 obtain⟨rfl,e⟩:=e;obtain⟨s,d,c⟩:=i;rcases b with rfl|rfl
 ·rw[←e rfl];exact⟨s,d,c⟩
 ·exact⟨s,d,c⟩
end Go.Proofs
namespace Go.Proofs
open Go Go.Lift
theorem Pa{h:ad}{r:Nat}{B:zH}(m:MapAt kStr LY h r B)(n:ByteArray){K:Int→ad→Prop}(b:(bC B n).isSome=true→∀h',Upd (· =r) h h'→MapAt kStr LY h' r (jP B n)→K 0 h')(a:(bC B n).isSome=false→K 4 h):fH 72 [.map (some r),.string n] K h:=by
 refine cW (qa (some r) n) .nil Tryz.func72 Tryz.call72 ?_;unfold qa;refine⟨_,_,m.get n 0,CondP.intro (fun e=>a (by simpa using e)) fun e=>.inr ⟨r,rfl,m.isMap,?_⟩⟩
 exact b (by simpa using e) _ (uD (M:=(· =r)) h (.string n) rfl) (m.del n)
section
variable {W:Nat→Prop} {h h':ad} {vp:Nat} {s:VS} {n:ByteArray} {id:Int} {l:zH}
theorem VaultAt.setG{G:zH}(v:VaultAt W h vp s)(k:Upd (· =s.nm) h h')(b:MapAt kStr LY h' s.nm G):VaultAt W h' vp {s with G:=G}:=by
 obtain⟨p,o,q,i,t,n,j,m,g,a⟩:=VS.neB v.ne;have f:∀b,b=s.nm→W b:=fun b e=>v.w b (.inr (.inr (.inr (.inr e))))
 exact v.turn k (fun b e=>.inl (f b e)) (v.g.upd k fun b e=>.inl ⟨f b e,fun c=>i (c.symm.trans e),fun c=>j (c.symm.trans e)⟩) (v.t.upd k g) (v.b.upd k a) b (fun d hd=>.inl hd) v.sub v.inv
theorem MX(v:VaultAt W h vp s){K:Int→ad→Prop}(b:(bC s.B n).isSome=true→∀h',Upd (· =s.bm) h h'→VaultAt W h' vp {s with B:=jP s.B n}→K 0 h')(a:(bC s.B n).isSome=false→K 4 h):fH 27 [pV vp,.string n] K h:=by
 refine cW (qb (some ⟨vp,0,none⟩) n) .nil Tryz.func27 Tryz.call27 ?_;dsimp only[qb,cB,cH];exact ag.2 ⟨_,rfl,_,vc v.blk 8,Pa v.b n (fun e h' k m=>b e h' k (v.setB k m)) a⟩
theorem P1(v:VaultAt W h vp s){K:Int→ad→Prop}(b:(bC s.G n).isSome=true→∀h',Upd (· =s.nm) h h'→VaultAt W h' vp {s with G:=jP s.G n}→K 0 h')(a:(bC s.G n).isSome=false→K 4 h):fH 31 [pV vp,.string n] K h:=by
 refine cW (qG (some ⟨vp,0,none⟩) n) .nil Tryz.func31 Tryz.call31 ?_;dsimp only[qG,cB,cH];exact ag.2 ⟨_,rfl,_,vc v.blk 9,Pa v.n n (fun e h' k m=>b e h' k (v.setG k m)) a⟩
theorem Uq(v:VaultAt W h vp s){K:Int→ad→Prop}
  (b:∀h',Upd (· =s.nm) h h'→VaultAt W h' vp {s with G:=if kS s.G s.L n id (id==0)=0 then j5 s.G n id else s.G}→K (kS s.G s.L n id (id==0)) h'):fH 29 [pV vp,.string n,.int .u32 id] K h:=by
 refine cW (tH (some ⟨vp,0,none⟩) n id) .nil Tryz.func29 Tryz.call29 ?_;dsimp only[tH,cB,cH];exact ag.2 ⟨_,rfl,_,vc v.blk 9,PT v v.n n id (id==0) fun h' a m=>b h' a (v.setG a m)⟩
theorem Ay{r:Nat}{B:zH}(m:MapAt kStr LY h r B)(q:NmR B l)(b:l.length≤1000){K:SliceV→ad→Prop}(a:∀h' s,OwnS vZ 2 48 (fun y=>h.size≤y) h' s l→Upd No h h'→K s h'):eP 40 [.map (some r)] K h:=
 UV m (by have:=q.pm.length_eq;omega) fun h' s ys o p w k=>a h' s (q.list p w▸o) k
theorem Jf(v:VaultAt W h vp s)(q:NmR s.B l)(b:l.length≤1000){K:SliceV→ad→Prop}(a:∀h' s',OwnS vZ 2 48 (fun y=>h.size≤y) h' s' l→Upd No h h'→K s' h'):eP 11 [pV vp] K h:=by
 refine cW (ox (some ⟨vp,0,none⟩)) .nil Tryz.func11 Tryz.call11 ?_;dsimp only[ox,cB,cH];exact ag.2 ⟨_,rfl,_,vc v.blk 8,Ay v.b q b a⟩
theorem RG(v:VaultAt W h vp s)(q:NmR s.G l)(b:l.length≤1000){K:SliceV→ad→Prop}(a:∀h' s',OwnS vZ 2 48 (fun y=>h.size≤y) h' s' l→Upd No h h'→K s' h'):eP 12 [pV vp] K h:=by
 refine cW (sd (some ⟨vp,0,none⟩)) .nil Tryz.func12 Tryz.call12 ?_;dsimp only[sd,cB,cH];exact ag.2 ⟨_,rfl,_,vc v.blk 9,Ay v.n q b a⟩
theorem KQ(v:VaultAt W h vp s)(hb:bC s.B n=none){t:Tr}{K:Int×Int→ad→Prop}(a:∀h',Upd No h h'→K (0,4) h'):Eu 23 [pV vp,.string n,Ab t] K h:=by
 refine lF (some ⟨vp,0,none⟩) n t ?_;dsimp only[iW,dg,sM,fP,nh,aD,wL,aY,aj,cH,xz,te,ge,l7,tf,qs];refine ba fun b b1 k1=>gN (v.upd0 k1) n ?_
 rw[hb];exact aw.2 (a b k1)
theorem KS(v:VaultAt W h vp s){hd:Int}(hb:bC s.B n=some hd){t:Tr}(b:lz t s.e=false){K:Int×Int→ad→Prop}(a:∀h',Upd No h h'→K (0,11) h'):Eu 23 [pV vp,.string n,Ab t] K h:=by
 refine lF (some ⟨vp,0,none⟩) n t ?_;dsimp only[iW,dg,sM,fP,nh,aD,wL,aY,aj,cH,xz,te,ge,l7,tf,qs];refine ba fun e b1 k1=>gN (v.upd0 k1) n ?_
 rw[hb];refine ag.2 ⟨_,vc b1 0,_,vc b1 1,_,vc b1 2,_,vc b1 3,_,vc b1 4,_,vc b1 5,_,rfl,?_⟩;have c1:=k1.get0 v.blk;refine⟨_,gw c1 0 0,_,gw c1 0 1,_,gw c1 0 2,_,gw c1 0 3,_,gw c1 0 4,_,gw c1 0 5,wQ (t:=t) (u:=s.e) fun d c=>?_⟩
 rw[b];exact aw.2 (a d (k1.tr c))
theorem GT(v:VaultAt W h vp s){K:Int→ad→Prop}(f:bC s.B n=none→∀h',Upd No h h'→K 4 h')(g:∀hd,bC s.B n=some hd→¬(id=0∨id∈dF s.L)→∀h',Upd No h h'→K 4 h')(c:∀hd,bC s.B n=some hd→(id=0∨id∈dF s.L)→¬(id=0∨UpG s.L hd id)→∀h',Upd No h h'→K 13 h')
  (i:∀hd,bC s.B n=some hd→(id=0∨id∈dF s.L)→(id=0∨UpG s.L hd id)→∀h',Upd s.M h h'→VaultAt W h' vp {s with B:=j5 s.B n id}→K 0 h'):fH 33 [pV vp,.string n,.int .u32 id] K h:=by
 cases hb:bC s.B n with
 |none=>
  refine gV (some ⟨vp,0,none⟩) n id ?_;dsimp only[fe,Ef,sL,fP,DZ,cB,cH];refine gN v n ?_;rw[hb];exact Join.plain (aw.2 (aw.2 (f hb h (Upd.refl _ _))))
 |some hd=>
  by_cases hi:id=0∨id∈dF s.L
  ·by_cases a:id=0∨UpG s.L hd id
   ·exact Je v n hb hi a (i hd hb hi a)
   ·refine gV (some ⟨vp,0,none⟩) n id ?_
    dsimp only[fe,Ef,sL,fP,DZ,cB,cH];refine gN v n ?_;rw[hb];refine Join.plain (ag.2 (Eg v id ?_));rw[decide_eq_true hi];refine ag.2 (rx v id hd fun b j d k1=>?_)
    rw[show b=false from Bool.eq_false_iff.2 fun e=>a (d.1 e)]
    exact aw.2 (c hd hb hi a j k1)
  ·refine gV (some ⟨vp,0,none⟩) n id ?_
   dsimp only[fe,Ef,sL,fP,DZ,cB,cH];refine gN v n ?_;rw[hb];refine Join.plain (ag.2 (Eg v id ?_));rw[decide_eq_false hi];exact aw.2 (g hd hb hi h (Upd.refl _ _))
theorem EM(v:VaultAt W h vp s){m:ByteArray}{p:Int}(hb:bC s.B n=none∨bC s.B m=none){K:Int×SliceV×Int→ad→Prop}(a:K (0,⟨none,0,0⟩,4) h):SR 24 [pV vp,.string n,.string m,.int .i64 p] K h:=by
 refine jk (some ⟨vp,0,none⟩) n m p ?_;dsimp only[gP,cB,aY,aj,dg,dt,nv,Ef,sL,ux,tf,aD,Lw,sM,fP,T0,uB,nh,wL,cH,yh,DZ];refine gN v n (gN v m (Join.plain ?_));rcases hb with hb|hb
 ·rw[hb];exact aw.2 (aw.2 a)
 ·rw[hb];exact CondP.intro (fun _=>aw.2 a) fun _=>aw.2 a
theorem MZ(v:VaultAt W h vp s){m:ByteArray}{p a b:Int}(e:bC s.B n=some a)(hb:bC s.B m=some b)(d:p<0∨3<p){K:Int×SliceV×Int→ad→Prop}(c:K (0,⟨none,0,0⟩,1) h):SR 24 [pV vp,.string n,.string m,.int .i64 p] K h:=by
 refine jk (some ⟨vp,0,none⟩) n m p ?_;dsimp only[gP,cB,aY,aj,dg,dt,nv,Ef,sL,ux,tf,aD,Lw,sM,fP,T0,uB,nh,wL,cH,yh,DZ];refine gN v n (gN v m (Join.plain ?_));rw[e,hb];refine ag.2 (ag.2 (Aw ?_));rw[Qr d,dI,decide_eq_true rfl];exact aw.2 c
set_option maxHeartbeats 1000000 in
theorem BH(v:VaultAt W h vp s){lB Z:zH}(qB:NmR s.B lB)(qT:NmR s.G Z)(hB:lB.length≤300)(hT:Z.length≤300){K:SliceV→ad→Prop}
  (U:∀h' s' (st:List Int),(∀y,y∈st↔∃k∈(lB++Z).map (·.2),UpG s.L k y)→OwnS u32 1 31 (fun b=>h.size≤b) h' s' ((dF s.L).filter fun y=> !decide (y∈st))→VaultAt W h' vp {s with L:=s.L.filter fun v=>decide (v.1∈st),D:=s.D.filter fun v=>decide (v.1∈st)}→Upd s.M h h'→K s' h'):
  eP 9 [pV vp] K h:=by
 refine cW (qH (some ⟨vp,0,none⟩)) yl Tryz.func9 Tryz.call9 ?_;dsimp only[qH,cB,gn,dg,nv,Ez,Rl,yR,rz,fQ,cH,Mo,dR,cZ,jA,qs];refine ag.2 (Join.plain ⟨_,rfl,_,vc v.blk 8,_,rfl,_,vc v.blk 9,Ay v.b qB (by omega) fun h7 s6 o6 V=>⟨vc (v.upd0 V).blk 9,Ay (v.upd0 V).n qT (by omega) fun h9 s8 o8 k9=>?_⟩⟩)
 have s7:=V.size;have Q:=V.tr k9;have Yn:=Q.size;have s9:=k9.size;have hlt:∀y,W y→y<h.size:=v.g.lt;refine Hd (o6.upd k9 fun _ _ h=>h) (c:=s8.cap) (o8.sl (W:=No) fun _ _ _ h=>h) (by omega) (by omega) fun s11 G o12 u12=>?_
 have R:Upd No h G:=Q.fresh u12 fun y q=>q
 have s12:=R.size;refine Pz (nt:=48) (o12.sl (W:=fun y=>G.size≤y) fun b _ E hge=>by omega) (by simp;omega) fun h17 s' o17 k17=>?_
 have z:=R.tr k17;have m:=v.upd0 z;have s017:=z.size;refine⟨_,rfl,_,vc m.blk 6,S0 m.g m.inv.good (o17.sl (W:=W) fun b hb _ J=>by have:=hlt b J;omega) (by simp;omega) fun s34 Y st P A g34 u=>?_⟩
 have s34':=u.size;obtain⟨n1,n2,n3,n4,n5,n6,n7,n8,n9,n10⟩:=VS.neB v.ne;have B:∀y,y≠s.gp→y≠s.gm→¬zG s.gp s.gm y:=fun y T O h=>h.elim T O
 have N:∀y,s.M y→vp≠y:=fun y q e=>v.wv (e▸v.w y q)
 have H:∀y,s.M y→y<h.size:=fun y q=>v.size q
 have t34:=m.t.upd u (B _ n2.symm n5.symm);have b34:=m.b.upd u (B _ n3.symm n6.symm);have q34:=m.n.upd u (B _ n4.symm n7.symm);have c34:=u.get m.blk fun hm=>N _ (VS.mG hm) rfl
 obtain⟨f,eg⟩:∃g,g=(dF s.L).filter fun y=> !decide (y∈st):=⟨_,rfl⟩
 have U:=fun h' s'=>U h' s' st
 rw[←eg]at A U;have lo:=A.len;have fw:=v.inv.few;have lg:f.length≤100000:=by
  rw[eg];exact aW (bF ..) (by rw[List.length_map];omega)
 refine LoopP.ghost (fun(i:Nat) (t:Int) h'=>t=(i:Int)∧i≤f.length∧MapAt KE Xb h' s.tm (s.D.filter fun p=> !decide (p.1∈f.take i))∧Upd (· =s.tm) Y h') (fun i=>f.length-i) 0 ⟨rfl,aN _,by rw[List.filter_eq_self.2 (by simp)];exact t34,Upd.refl _ _⟩ ?_
 rintro I i t F ⟨rfl,hi,x,o⟩ hI;refine ao (fun E=>?_) fun hge=>?_
 ·have E:i<f.length:=by omega
  have C:=A.upd o fun y q e=>by have e:y=s.tm:=e;have:=H s.tm (.inr (.inr (.inl rfl)));omega
  obtain⟨a,ha,_,hx⟩:=Nums.at (C.sl (W:=No) fun _ _ _ h=>h) E
  refine Join.plain ⟨⟨by omega,by omega⟩,a,ha,_,hx,_,rfl,_,vc (o.get c34 fun e=>N _ (.inr (.inr (.inl e))) rfl) 7,.inr ⟨_,rfl,x.isMap,?_⟩⟩
  rw[cp (n:=f.length) E (by omega)];refine hI (i+1) _ _ ⟨rfl,E,?_,o.tr (uD _ _ rfl)⟩ (by omega);have:=x.del f[i];unfold jP at this;rw[List.filter_filter]at this;have e2:∀p∈s.D,(decide (p.1≠f[i])&& !decide (p.1∈f.take i))= !decide (p.1∈f.take (i+1)):=fun p _=>by
   rw[av E];rw[Bool.eq_iff_iff];simp only[Bool.and_eq_true,decide_eq_true_eq,Bool.not_eq_true',decide_eq_false_iff_not,aF,al,not_or,ne_eq];exact And.comm
  rw[ef e2]at this;exact this
 ·have:i=f.length:=by omega
  subst this;rw[List.take_length]at x;have eD:(s.D.filter fun p=> !decide (p.1∈f))=s.D.filter fun v=>decide (v.1∈st):=by
   refine ef fun p S=>?_
   have hm:p.1∈dF s.L:=(v.sub _).1 (aP.2 ⟨p,S,rfl⟩);rw[eg];by_cases e:p.1∈st<;>simp[e,hm]
  rw[eD]at x;have uM:Upd s.M h17 F:=(u.mono fun y q=>.inl (VS.mG q)).tr (o.mono fun y q=>.inl (.inr (.inr (.inl q))))
  have C:=A.upd o fun y q e=>by have e:y=s.tm:=e;have:=H s.tm (.inr (.inr (.inl rfl)));omega
  refine U F s34 P (C.more fun y q=>by omega) (m.turn uM (fun y q=>.inl (v.w y q)) (g34.upd o fun b e=>.inl ⟨by have e:b=s.tm:=e;exact e▸v.w _ (.inr (.inr (.inl rfl))),fun e'=>n2 (e'.symm.trans e),fun e'=>n5 (e'.symm.trans e)⟩) x (b34.upd o fun e=>n8 e.symm) (q34.upd o fun e=>n9 e.symm) (fun d hd=>.inl (bE.1 hd).1) (fun j=>?_) (v.inv.drop P)) (z.wide.tr uM)
  constructor
  ·intro X
   obtain⟨p,S,rfl⟩:=aP.1 X;obtain⟨T,O⟩:=bE.1 S;obtain⟨w,J,e⟩:=aP.1 ((v.sub _).1 (aP.2 ⟨p,T,rfl⟩));exact aP.2 ⟨w,bE.2 ⟨J,by rw[e];exact O⟩,e⟩
  ·intro X
   obtain⟨w,J,rfl⟩:=aP.1 X;obtain⟨T,O⟩:=bE.1 J;obtain⟨p,S,e⟩:=aP.1 ((v.sub _).2 (aP.2 ⟨w,T,rfl⟩));exact aP.2 ⟨p,bE.2 ⟨S,by rw[e];exact O⟩,e⟩
end
end Go.Proofs
set_option maxRecDepth 100000
namespace Go.Proofs
open Go Go.Lift Go.Shelf
def Yr:Ren:=⟨fun n=>bif aJ n 6 then 186 else bif aJ n 14 then 258 else bif aJ n 15 then 140 else bif aJ n 20 then 293 else bif aJ n 21 then 294 else bif aJ n 22 then 295 else bif aJ n 23 then 296 else bif aJ n 24 then 297 else bif aJ n 25 then 298 else bif aJ n 26 then 299 else bif aJ n 27 then 300 else bif aJ n 28 then 203 else bif aJ n 29 then 204 else bif aJ n 46 then 314 else bif aJ n 47 then 267 else bif aJ n 48 then 268 else bif aJ n 49 then 315 else bif aJ n 50 then 316 else bif aJ n 57 then 326 else 0,
 fun n=>bif aJ n 0 then 0 else bif aJ n 3 then 3 else bif aJ n 4 then 4 else bif aJ n 5 then 5 else bif aJ n 9 then 9 else bif aJ n 22 then 205 else bif aJ n 24 then 209 else bif aJ n 25 then 291 else bif aJ n 39 then 231 else bif aJ n 45 then 300 else bif aJ n 46 then 301 else bif aJ n 50 then 267 else bif aJ n 53 then 31 else bif aJ n 55 then 22 else bif aJ n 66 then 358 else bif aJ n 70 then 362 else bif aJ n 76 then 389 else bif aJ n 77 then 390 else 0,
 fun _=>0⟩
theorem uH:SlLaysF0.n6 PG Yr:=by
 constructor
 ·kernel_rfl
 ·exact⟨"slices.SortFunc[[]quickset/diff.Change,quickset/diff.Change]",by decide,by kernel_rfl⟩
 ·exact⟨"slices.pdqsortCmpFunc[quickset/diff.Change]",by decide,by kernel_rfl⟩
 ·kernel_rfl
 ·exact⟨"slices.insertionSortCmpFunc[quickset/diff.Change]",by decide,by kernel_rfl⟩
 ·exact⟨"slices.heapSortCmpFunc[quickset/diff.Change]",by decide,by kernel_rfl⟩
 ·exact⟨"slices.breakPatternsCmpFunc[quickset/diff.Change]",by decide,by kernel_rfl⟩
 ·exact⟨"slices.choosePivotCmpFunc[quickset/diff.Change]",by decide,by kernel_rfl⟩
 ·exact⟨"slices.reverseRangeCmpFunc[quickset/diff.Change]",by decide,by kernel_rfl⟩
 ·exact⟨"slices.partialInsertionSortCmpFunc[quickset/diff.Change]",by decide,by kernel_rfl⟩
 ·exact⟨"slices.partitionEqualCmpFunc[quickset/diff.Change]",by decide,by kernel_rfl⟩
 ·exact⟨"slices.partitionCmpFunc[quickset/diff.Change]",by decide,by kernel_rfl⟩
 ·kernel_rfl
 ·kernel_rfl
 ·exact⟨"slices.siftDownCmpFunc[quickset/diff.Change]",by decide,by kernel_rfl⟩
 ·kernel_rfl
 ·kernel_rfl
 ·exact⟨"slices.medianAdjacentCmpFunc[quickset/diff.Change]",by decide,by kernel_rfl⟩
 ·exact⟨"slices.medianCmpFunc[quickset/diff.Change]",by decide,by kernel_rfl⟩
 ·exact⟨"slices.order2CmpFunc[quickset/diff.Change]",by decide,by kernel_rfl⟩
 ·kernel_rfl
 all_goals first|(intro w;kernel_rfl)|kernel_rfl
end Go.Proofs
namespace Go.Proofs
open Go Go.Lift Go.RowKit Go.Sort Go.Shelf
abbrev Vi(x y:Ch):Int:=uK x.1 y.1
set_option maxHeartbeats 1000000 in
theorem Vh(x y:Ch)(W:World):Calls PG 187 #[.agg #[.string x.1,.string x.2.1,.string x.2.2.1,.bool x.2.2.2.1,.bool x.2.2.2.2],.agg #[.string y.1,.string y.2.1,.string y.2.2.1,.bool y.2.2.2.1,.bool y.2.2.2.2]] W fun e b=>e=.returned (.int .i64 (uK x.1 y.1))∧∃q os',b=grow (W.drewN q) os':=by
 have a:=fun W'=>Ip x.1 y.1 W'
 change∀W',Calls PG 92 _ _ _ at a;generalize uK x.1 y.1=r at a⊢;go_enter Tryz.func187,Tryz.ntmps187
 go_wp2_with (go_at_call 92;refine(a _).mono ?_;rintro e b ⟨rfl,rfl⟩)
 go_ret
 exact⟨rfl,0,_,by rw[alloc_eq_grow,alloc_eq_grow,grow_grow];rfl⟩
theorem UU(x y:Ch):ltOf Vi x y=decide (kl x.1 y.1):=by
 unfold ltOf Vi uK;by_cases h:kl x.1 y.1
 ·simp[h]
 ·by_cases a:x.1=y.1<;>simp[h,a,bN]
theorem Xe:SWO (ltOf Vi) where
 irrefl x:=by rw[UU];simpa using bN x.1
 trans x y z h1 h2:=by rw[UU]at*;simp at*;exact dw h1 h2
 ntrans x y z h1 h2:=by
  rw[UU]at*;simp at*;intro h;by_cases e:x.1=y.1
  ·rw[e]at h;exact h2 h
  ·exact h2 (dw (kz h1 e) h)
theorem RR{M:Nat→Prop}{h:ad}{s:SliceV}{xs X:List Ch}(p:OwnS GN 5 209 M h s xs)(N:xs.Perm X)(I:Ks X)(hn:xs.length≤1000000){K:Unit→ad→Prop}
  (P:∀h',OwnS GN 5 209 M h' s X→Upd M h h'→K () h'):dd 186 [.slice s.a s.len s.cap,.func (.func 187) #[] #[]] K h:=by
 refine HC.shelf Tryz.call186 fun w q=>?_
 have k:=p.len;rcases p.blk with h0|⟨b,J,O,Z,hb,W⟩
 ·have hx:xs= []:=aG.1 (by have:=p.cap;omega)
  subst hx;have e0:s.len=0:=k;rw[e0];refine(AnyF.slices_SortFunc_none uH s.a s.cap (.func (.func 187) #[] #[]) w).mono fun e T o=>?_
  obtain⟨o,rfl⟩:=o;have B:X= []:=N.symm.eq_nil;subst B;exact⟨⟨rfl,rfl,rfl⟩,(),o,P _ (by rw[q];exact p) (by rw[q];exact Upd.refl _ _)⟩
 ·rw[O,k]
  have hH:HoldsK GN 5 w b 0 xs.toArray:=p.holds hb q ((qS (f:=GN) (sz:=5) (fun _=>rfl) xs.toArray).trans (by simp))
  have lt:=bw hb;have c:=AnyQ.slices_SortFunc uH 5 (fun w=>by kernel_rfl) (fun w=>by kernel_rfl) GN (fun _=>rfl) (fun x v hv=>by simp only[List.mem_cons,List.not_mem_nil,or_false]at hv;rcases hv with rfl|rfl|rfl|rfl|rfl<;>rfl) Vi Xe 187 #[] b 0 s.cap xs.toArray w Tryz.call187 (fun m os dk R x y=>Vh x y _) hH (by rw[q];exact lt) (by simp;omega)
  rw[show xs.toArray.size=xs.length by simp]at c
  refine Calls.mono c fun e T o=>?_
  obtain⟨o,d,n,os,⟨g,_,u⟩,hS,rfl⟩:=o;have g:d.size=xs.length:=by simpa using g
  obtain⟨L,u'⟩:=p.row hb O Z W q (n:=n) (os:=os) (F:=flatK GN 5 d) (ys:=d.toList) (qS (f:=GN) (sz:=5) (fun _=>rfl) d) (by simpa using g)
  have e1:d.extract 0 xs.length=d:=by rw[←g];exact Array.extract_size
  have e2:xs.toArray.extract 0 xs.length=xs.toArray:=by simp
  rw[e1,e2]at u;have Q:d.toList.Perm X:=List.Perm.trans (by simpa using u) N;have ex:d.toList=X:=by
   refine List.Perm.eq_of_pairwise (le:=fun a b:Ch=>¬kl b.1 a.1) (fun a b U S Y V=>?_) (bR.2 fun i j hi z A t=>?_) (I.imp fun h h'=>bN _ (dw h h')) Q
   ·have e:a.1=b.1:=mw fun ne=>Y (kz V ne)
    have D:=Q.mem_iff.1 U;obtain⟨i,hi,H⟩:=bD D;obtain⟨j,z,C⟩:=bD S;rcases Nat.lt_trichotomy i j with h|h|h
    ·have:=bR.1 I i j hi z h
     rw[H,C,e]at this;exact absurd this (bN _)
    ·subst h;rw[←H,←C]
    ·have:=bR.1 I j i z hi h
     rw[H,C,e]at this;exact absurd this (bN _)
   ·have G:i<d.size:=by simpa using hi
    have E:j<d.size:=by simpa using z
    have:=hS i j (aN _) A (by omega);rw[getElem!_pos d j E,getElem!_pos d i G,UU]at this;simp only[Array.getElem_toList]at t;simp[t]at this
  rw[ex]at L;exact⟨⟨rfl,rfl,rfl⟩,(),o,P _ L u'⟩
end Go.Proofs
namespace Go.Proofs
open Go Go.Lift
theorem XQ{n m:Nat}{B T:List Pr}(a:Few n B)(b:Few m T)(j:n≤1000)(hm:m≤1000):WN B T:=fun i f _ e c=>
 Oa i f a.up a.fits (by have:=a.len;omega) b.up b.fits (by have:=b.len;omega) (fun _ {_ _ _ _ _} g _ d c=>RR g d (y9 a.up b.up) (by have:=d.length_eq;have:=ri a.up b.up;have:=a.len;have:=b.len;omega) c) e c
inductive Evo(s:VS):VS→Prop
 |names (B G:zH):Evo s {s with B:=B,G:=G}
 |ver (n:ByteArray) (d:TD) (ps:List Int):Evo s (wG s n d ps).2
 |prune (st:List Int):Evo s {s with L:=s.L.filter fun v=>decide (v.1∈st),D:=s.D.filter fun v=>decide (v.1∈st)}
theorem Evo.same{s s':VS}(e:Evo s s'):s'.M=s.M∧s'.kind=s.kind∧s'.x=s.x:=by
 cases e with
 |names=>exact⟨rfl,rfl,rfl⟩
 |ver=>unfold wG;split<;>exact⟨rfl,rfl,rfl⟩
 |prune=>exact⟨rfl,rfl,rfl⟩
structure Dp(s:VS)(q:RS)(U:List ByteArray)(n:Nat):Prop where
 eL:q.L=s.L
 en:q.nx=s.nx
 nb:NmR s.B q.B
 ng:NmR s.G q.T
 ed:∀p∈s.D,p∈q.D
 nd:(q.D.map (·.1)).Nodup
 lt:∀p∈q.D,p.1<s.nx
 kin:∀d∈q.D,Kin U d.2.2
 ul:U.length≤n
 dl:q.D.length≤n
 hb:∀p∈q.B,(p.2=0∨p.2∈dF s.L)∧p.1.size≤40
 ht:∀p∈q.T,(p.2=0∨p.2∈dF s.L)∧p.1.size≤40
 bl:q.B.length≤n
 tl:q.T.length≤n
section
variable {s:VS} {q:RS} {U V:List ByteArray} {n m:Nat} {k:ByteArray} {id:Int} {sl:SliceV}
theorem Dp.more(p:Dp s q U n)(h:n≤m):Dp s q U m:=⟨p.eL,p.en,p.nb,p.ng,p.ed,p.nd,p.lt,p.kin,aW p.ul h,aW p.dl h,p.hb,p.ht,aW p.bl h,aW p.tl h⟩
theorem Iw{B:zH}{L:cT}{no:Bool}(h:kS B L k id no=0):bC B k=none∧(id=0∨id∈dF L):=by
 unfold kS at h;split at h
 ·cases h
 ·split at h
  ·cases h
  ·split at h
   ·cases h
   ·rename_i h2 h3
    refine⟨by simpa using h2,?_⟩;by_cases a:id=0∨id∈dF L
    ·exact a
    ·rw[decide_eq_false a]at h3
     simp at h3
theorem NmR.miss{B l:zH}(r:NmR B l)(h:bC B k=none):∀p∈l,p.1≠k:=fun p a e=>by
 have:=(r.iff p.1 p.2).2 a;rw[e,h]at this;cases this
theorem NmR.hit{B l:zH}(r:NmR B l){v:Int}(h:bC B k=some v):∃i,∃hi:i<l.length,l[i].1=k∧l[i].2=v:=by
 obtain⟨i,hi,e⟩:=bD ((r.iff k v).1 h);exact⟨i,hi,by rw[e],by rw[e]⟩
theorem LX{l:zH}:(Az l k id).length=l.length+1:=by
 conv=>rhs;rw[←List.takeWhile_append_dropWhile (p:=fun p:ByteArray×Int=>Op.bytesLess p.1.toList k.toList) (l:=l)]
 unfold Az;simp only[List.length_append,List.length_cons];omega
theorem Dp.create(p:Dp s q U n)(d:k.size≤40):Dp {s with B:=if kS s.B s.L k id false=0 then j5 s.B k id else s.B} {q with sB:=sl,B:=if kS s.B q.L k id false=0 then Az q.B k id else q.B} U (n+1):=by
 have a:=p.more (i5 n);rw[p.eL];by_cases e:kS s.B s.L k id false=0
 ·obtain⟨c,f⟩:=Iw e
  simp only[if_pos e];refine⟨rfl,p.en,p.nb.add (p.nb.miss c),p.ng,p.ed,p.nd,p.lt,p.kin,a.ul,a.dl,fun r b=>?_,p.ht,by simp only[LX];have:=p.bl;omega,a.tl⟩
  rcases As.1 b with rfl|b
  ·exact⟨f,d⟩
  ·exact p.hb r b
 ·simp only[if_neg e]
  exact⟨rfl,p.en,p.nb,p.ng,p.ed,p.nd,p.lt,p.kin,a.ul,a.dl,p.hb,p.ht,a.bl,a.tl⟩
theorem Dp.tag(p:Dp s q U n)(d:k.size≤40):Dp {s with G:=if kS s.G s.L k id (id==0)=0 then j5 s.G k id else s.G} {q with sT:=sl,T:=if kS s.G q.L k id (id==0)=0 then Az q.T k id else q.T} U (n+1):=by
 have a:=p.more (i5 n);rw[p.eL];by_cases e:kS s.G s.L k id (id==0)=0
 ·obtain⟨c,f⟩:=Iw e
  simp only[if_pos e];refine⟨rfl,p.en,p.nb,p.ng.add (p.ng.miss c),p.ed,p.nd,p.lt,p.kin,a.ul,a.dl,p.hb,fun r b=>?_,a.bl,by simp only[LX];have:=p.tl;omega⟩
  rcases As.1 b with rfl|b
  ·exact⟨f,d⟩
  ·exact p.ht r b
 ·simp only[if_neg e]
  exact⟨rfl,p.en,p.nb,p.ng,p.ed,p.nd,p.lt,p.kin,a.ul,a.dl,p.hb,p.ht,a.bl,a.tl⟩
theorem Pt{l:zH}{i:Nat}{r:ByteArray×Int}(h:r∈l.take i++l.drop (i+1)):r∈l:=(aF.1 h).elim List.mem_of_mem_take List.mem_of_mem_drop
theorem Dp.remove(p:Dp s q U n){i:Nat}(hi:i<q.B.length)(e:q.B[i].1=k):Dp {s with B:=jP s.B k} {q with sB:=sl,B:=q.B.take i++q.B.drop (i+1)} U (n+1):=by
 have a:=p.more (i5 n);exact⟨p.eL,p.en,e▸p.nb.del hi,p.ng,p.ed,p.nd,p.lt,p.kin,a.ul,a.dl,fun r b=>p.hb r (Pt b),p.ht,by have:=p.bl;simp;omega,a.tl⟩
theorem Dp.untag(p:Dp s q U n){i:Nat}(hi:i<q.T.length)(e:q.T[i].1=k):Dp {s with G:=jP s.G k} {q with sT:=sl,T:=q.T.take i++q.T.drop (i+1)} U (n+1):=by
 have a:=p.more (i5 n);exact⟨p.eL,p.en,p.nb,e▸p.ng.del hi,p.ed,p.nd,p.lt,p.kin,a.ul,a.dl,p.hb,fun r b=>p.ht r (Pt b),a.bl,by have:=p.tl;simp;omega⟩
theorem LL{l:zH}{i:Nat}(hi:i<l.length){v:Int}{r:ByteArray×Int}(h:r∈l.set i (l[i].1,v)):r=(l[i].1,v)∨r∈l:=(List.mem_or_eq_of_mem_set h).symm
theorem Dp.head(p:Dp s q U n){i:Nat}(hi:i<q.B.length)(e:q.B[i].1=k)(hv:id=0∨id∈dF s.L):Dp {s with B:=j5 s.B k id} {q with sB:=sl,B:=q.B.set i (q.B[i].1,id)} U (n+1):=by
 have a:=p.more (i5 n);refine⟨p.eL,p.en,e▸p.nb.set hi,p.ng,p.ed,p.nd,p.lt,p.kin,a.ul,a.dl,fun r b=>?_,p.ht,by simp only[gK];exact a.bl,a.tl⟩
 rcases LL hi b with rfl|b
 ·exact⟨hv,(p.hb _ (aH hi)).2⟩
 ·exact p.hb r b
theorem Dp.prune(p:Dp s q U n){st:List Int}(c:∀y,y∈st↔∃k∈(q.B++q.T).map (·.2),UpG s.L k y):Dp {s with L:=s.L.filter fun v=>decide (v.1∈st),D:=s.D.filter fun v=>decide (v.1∈st)} {q with L:=q.L.filter fun v=>decide (v.1∈st)} U (n+1):=by
 have b:=p.more (i5 n);have keep:∀r∈q.B++q.T,(r.2=0∨r.2∈dF s.L)→r.2=0∨r.2∈dF (s.L.filter fun v=>decide (v.1∈st)):=fun r a hv=>hv.imp (fun h=>h) fun hv=>by
  obtain⟨v,hm,e⟩:=aP.1 hv;refine aP.2 ⟨v,bE.2 ⟨hm,?_⟩,e⟩;exact decide_eq_true ((c _).2 ⟨r.2,aP.2 ⟨r,a,rfl⟩,by rw[e];exact .refl hv⟩)
 exact⟨by simp only[p.eL],p.en,p.nb,p.ng,fun r a=>p.ed r (bE.1 a).1,p.nd,p.lt,p.kin,b.ul,b.dl,fun r a=>⟨keep r (bQ _ a) (p.hb r a).1,(p.hb r a).2⟩,fun r a=>⟨keep r (bW _ a) (p.ht r a).1,(p.ht r a).2⟩,b.bl,b.tl⟩
theorem Dp.ver(p:Dp s q U n)(inv:Inv s.L s.nx){i:Nat}(hi:i<q.B.length)(e:q.B[i].1=k){d:TD}{ps:List Int}{r:Rt}{ts:SliceV}(hd:Kin V d.2)(o:∀y∈U,y∈V)(m:V.length≤n+1):Dp (wG s k d ps).2 (wN q i hi d ps r ts sl) V (n+1):=by
 have g:=p.more (i5 n);unfold wG wN;rw[p.eL,p.en];have kin:∀d∈q.D,Kin V d.2.2:=fun d hd=>(p.kin d hd).more o
 by_cases j:(eZ s.L s.nx ps).1.2≠0
 ·simp only[if_pos j]
  exact⟨p.eL,p.en,p.nb,p.ng,p.ed,p.nd,p.lt,kin,m,g.dl,p.hb,p.ht,g.bl,g.tl⟩
 ·have t:(eZ s.L s.nx ps).1.2=0:=Decidable.not_not.1 j
  have u:=Ci t;simp only[if_neg j];simp only[u];have w:s.nx∉dF s.L:=fun hm=>by have:=(inv.pos _ hm).2;omega
  have f:∀v,(v=0∨v∈dF s.L)→v=0∨v∈dF (um s.L s.nx ps):=fun v h=>h.imp (fun h=>h) fun h=>insV_ids.mem_iff.2 (List.mem_cons_of_mem _ h)
  have hnew:s.nx∉q.D.map (·.1):=fun hm=>by
   obtain⟨a,c,x⟩:=aP.1 hm;have:=p.lt a c;omega
  refine⟨rfl,rfl,e▸p.nb.set hi,p.ng,fun a c=>?_,?_,fun a c=>?_,fun a c=>?_,m,by have:=p.dl;simp;omega,fun a c=>?_,fun a c=>⟨f _ (p.ht a c).1,(p.ht a c).2⟩,by simp only[gK];exact g.bl,g.tl⟩
  ·rcases F5 c with rfl|c
   ·exact bW _ (al.2 rfl)
   ·exact bQ _ (p.ed a c)
  ·rw[List.map_append,List.nodup_append]
   refine⟨p.nd,List.pairwise_singleton ..,fun a c b hb=>?_⟩
   rw[List.map_singleton,al]at hb;subst hb;exact fun e=>hnew (by rw[e]at c;exact c)
  ·rcases aF.1 c with c|c
   ·have:=p.lt a c;simp only;omega
   ·rw[al.1 c];simp only;omega
  ·rcases aF.1 c with c|c
   ·exact kin a c
   ·rw[al.1 c];exact hd
  ·rcases LL hi c with rfl|c
   ·exact⟨.inr (insV_ids.mem_iff.2 List.mem_cons_self),(p.hb _ (aH hi)).2⟩
   ·exact⟨f _ (p.hb a c).1,(p.hb a c).2⟩
end
end Go.Proofs
namespace Go.Proofs
open Go Go.Lift
def DW(X:Nat→Prop)(s:VS)(b a:Nat)(q:RS)(y:Nat):Prop:=s.M y∨RW b a q y∨X y
def DM(s:VS)(b a:Nat)(q:RS)(y:Nat):Prop:=s.M y∨RW b a q y
structure Dz(X:Nat→Prop)(z:Nat)(h:ad)(vp xp xg:Nat)(re:Rt)(s:VS)(q:RS)(U:List ByteArray)(n:Nat):Prop where
 v:VaultAt (DW X s xg xp q) h vp s
 f:Rn (DW X s xg xp q) h xp xg s.kind s.x re q
 a:∀y,s.M y→¬RW xg xp q y
 xd:∀y,X y→¬s.M y∧¬RW xg xp q y
 p:Dp s q U n
 lo:∀y,DM s xg xp q y→z≤y
section
variable {X M:Nat→Prop} {h h' h1 h2:ad} {z vp xp xg:Nat} {re:Rt} {s s':VS} {q q':RS} {U V:List ByteArray} {n m:Nat}
theorem Dz.upd(g:Dz X z h vp xp xg re s q U n)(k:Upd M h h')(hm:∀b,M b→X b∨h.size≤b):Dz X z h' vp xp xg re s q U n:=
 ⟨g.v.upd k fun b hb=>(hm b hb).imp (fun e=>⟨.inr (.inr e),(g.xd b e).1⟩) id,g.f.upd k fun b hb=>(hm b hb).imp (fun e=>⟨.inr (.inr e),(g.xd b e).2⟩) id,g.a,g.xd,g.p,g.lo⟩
theorem Dz.upd0(g:Dz X z h vp xp xg re s q U n)(k:Upd No h h'):Dz X z h' vp xp xg re s q U n:=g.upd k fun _ h=>h.elim
theorem Dz.more(g:Dz X z h vp xp xg re s q U n)(e:n≤m):Dz X z h vp xp xg re s q U m:=⟨g.v,g.f,g.a,g.xd,g.p.more e,g.lo⟩
theorem Dz.lt(g:Dz X z h vp xp xg re s q U n):∀y,DW X s xg xp q y→y<h.size:=g.f.lt
theorem Dz.f1(g:Dz X z h vp xp xg re s q U n)(k:Upd s.M h h'):Rn (DW X s xg xp q) h' xp xg s.kind s.x re q:=g.f.upd k fun b hb=>.inl ⟨.inl hb,g.a b hb⟩
theorem Dz.fin(g:Dz X z h vp xp xg re s q U n)(k1:Upd s.M h h1)(j:VaultAt (DW X s xg xp q) h1 vp s')(e:Evo s s')(k:Upd (RW xg xp q) h1 h2)(ht:∀y,sb q'.ts y→sb q.ts y∨h1.size≤y)
  (G:∀W':Nat→Prop,(∀y,W' y→(DW X s xg xp q y∨sb q'.ts y))→(∀y,RW xg xp q' y→W' y)→Rn W' h2 xp xg s.kind s.x re q')(p:Dp s' q' V m):Dz X z h2 vp xp xg re s' q' V m∧Upd (DM s xg xp q) h h2:=by
 obtain⟨f,ek,ex⟩:=e.same;have c:∀y,RW xg xp q' y→RW xg xp q y∨h1.size≤y:=fun y a=>a.elim (fun e=>.inl (.inl e)) fun a=>a.elim (fun e=>.inl (.inr (.inl e))) fun a=>(ht y a).imp (fun h=>.inr (.inr h)) id
 have d:∀y,DW X s xg xp q y→y<h1.size:=j.g.lt;have R:Rn (DW X s' xg xp q') h2 xp xg s.kind s.x re q':=G _ (fun y a=>by
  rcases a with a|a|a
  ·exact .inl (.inl (f▸a))
  ·rcases a with a|a|a
   ·exact .inl (.inr (.inl (.inl a)))
   ·exact .inl (.inr (.inl (.inr (.inl a))))
   ·exact .inr a
  ·exact .inl (.inr (.inr a))) fun y a=>.inr (.inl a)
 refine⟨⟨j.re k (fun b hb=>.inl ⟨.inr (.inl hb),fun u=>g.a b (f▸u) hb⟩) (fun b hb=>⟨?_,R.lt b hb⟩) fun y a=>.inl a,ek▸ex▸R,fun y a i=>?_,fun y a=>⟨f▸(g.xd y a).1,fun i=>?_⟩,p,fun y a=>a.elim (fun a=>g.lo y (.inl (f▸a))) fun a=>(c y a).elim (fun h=>g.lo y (.inr h)) fun h=>?_⟩,(k1.mono fun y a=>.inl (.inl a)).tr (k.mono fun y a=>.inl (.inr a))⟩
 ·rcases hb with hb|hb|hb
  ·exact .inl (.inl (f▸hb))
  ·exact(c b hb).imp (fun h=>.inr (.inl h)) id
  ·exact .inl (.inr (.inr hb))
 ·exact(c y i).elim (fun h=>g.a y (f▸a) h) fun h=>absurd (d y (.inl (f▸a))) (de.2 h)
 ·exact(c y i).elim (fun h=>(g.xd y a).2 h) fun h=>absurd (d y (.inr (.inr a))) (de.2 h)
 ·have o:=g.lo xg (.inr (.inl rfl))
  have t:=d xg (.inr (.inl (.inl rfl)));omega
theorem Dz.fin0(g:Dz X z h vp xp xg re s q U n)(k1:Upd s.M h h1)(a:VaultAt (DW X s xg xp q) h1 vp s')(e:Evo s s')(f:Upd (RW xg xp q) h1 h2)(ht:q'.ts=q.ts)(G:Rn (DW X s xg xp q) h2 xp xg s.kind s.x re q')(p:Dp s' q' V m):Dz X z h2 vp xp xg re s' q' V m∧Upd (DM s xg xp q) h h2:=
 g.fin k1 a e f (fun y c=>.inl (ht▸c)) (fun W' i d=>G.mv (Upd.refl No h2) (fun _ h=>h.elim) (fun b hb=>by
  have:DW X s xg xp q b:=(i b hb).elim id fun h=>.inr (.inl (.inr (.inr (ht▸h))))
  exact⟨.inl this,G.lt b this⟩) d) p
theorem Dz.base(g:Dz X z h vp xp xg re s q U n){id:Int}{B:TD}(a:vR s id B)(hi:id=0∨id∈dF s.L):IR q id B∧Kin U B.2:=by
 rcases a with⟨e,rfl⟩|⟨e,a⟩
 ·exact⟨.inl ⟨e,rfl⟩,Kin.nil⟩
 ·have hm:=g.p.ed _ (j7 a)
  exact⟨.inr ⟨e,g.p.eL▸hi.resolve_left e,(eB g.p.nd).2 hm⟩,g.p.kin _ hm⟩
theorem Dz.tree(g:Dz X z h vp xp xg re s q U n){id:Int}{B:TD}(a:vR s id B):TreeIs (DW X s xg xp q) h s.kind s.x B.1 B.2:=by
 rcases a with⟨_,rfl⟩|⟨_,a⟩
 ·exact g.v.em
 ·exact(g.v.ts _ (j7 a)).1
end
end Go.Proofs
