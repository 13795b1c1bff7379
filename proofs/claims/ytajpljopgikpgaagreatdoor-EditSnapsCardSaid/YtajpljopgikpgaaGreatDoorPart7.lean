/- A part of the proof that the named laws of this program answer true, whatever the input. -/
import Derived.Test.YtajpljopgikpgaaGreatDoorPart6
import Derived.Test.YtajpljopgikpgaaGreatDoorPart2
import Derived.Test.YtajpljopgikpgaaGreatDoorPart0
import Derived.Test.YtajpljopgikpgaaGreatDoorPart4
import Derived.Test.YtajpljopgikpgaaGreatDoorPart3
open Array renaming size→bJ
open BitVec renaming ofInt→ai,ofInt_natCast→fF
open ByteArray renaming size_extract→mo
open List renaming length_append→ae,size_toArray→cz,append_nil→bV,flatMap_append→bv,flatMap_cons→aL,append_assoc→ak,getElem?_eq_getElem→ag,pairwise_iff_getElem→cn,filter_eq_self→gV,range→bX,range_succ→eZ,map_append→dG,sum_append→gz,flatten_append→cQ,map_cons→eI,map_nil→mh,sum_cons→m5,sum_nil→rL,getElem_mem→aW,mem_cons→aq,length_map→fS,take_append_drop→bF,take_succ_eq_append_getElem→cK,take_length→cV,flatten_cons→dU
open Nat renaming le_refl→au,zero_add→aD,add_zero→dL,testBit_zero→hO,not_lt_zero→kV,testBit_succ→ft,zero_testBit→eA,eq_of_testBit_eq→fB,testBit_and→fR,mod_eq_of_lt→dK,zero_le→bp,lt_or_ge→bM,le_trans→bB
namespace Go.Proofs
open Go Go.Lift
theorem Kid.less{W W':Nat→Prop}{h:ad}(hm:∀b,W' b→W b∨h.size≤b){a:Option Addr}{n:Bn}:Kid W h a n→Kid W' h a n
 |⟨b,sl,e1,e2,e3⟩=>⟨b,sl,e1,e2,e3.less hm⟩
theorem Kid.updM{W M:Nat→Prop}{h c:ad}(k:Upd M h c)(hm:∀b,M b→W b∨h.size≤b){a:Option Addr}{n:Bn}:Kid W h a n→Kid W c a n
 |⟨b,sl,e1,e2,e3⟩=>⟨b,sl,e1,e2,e3.updM k hm⟩
theorem RxL.less{W W':Nat→Prop}{h:ad}(hm:∀b,W' b→W b∨h.size≤b){ks:List (Option Addr)}{L:List Bn}(r:RxL W h ks L):RxL W' h ks L:=⟨r.1,fun p a=>(r.2 p a).less hm⟩
theorem RxL.updM{W M:Nat→Prop}{h a:ad}(k:Upd M h a)(hm:∀b,M b→W b∨h.size≤b){ks:List (Option Addr)}{L:List Bn}(r:RxL W h ks L):RxL W a ks L:=⟨r.1,fun p c=>(r.2 p c).updM k hm⟩
end Go.Proofs
namespace Go.Proofs
open Go Go.Lift
theorem uT{h:ad}{t:Tr}{k:ad→Prop}(d:∀h',h'[h.size]? =some (.cells (gm t).toArray ax (0,0))→Upd No h h'→k h'):
  At (hnew h (gm zJ) ax) (fun a=>rc a (some (aC h)) 0 (gm t)∧At (gd a (aC h) 0 (gm t)) k):=
 aX fun a b1 k1=>fc (c:=gm zJ) (vs:=gm t) b1 rfl fun e b2 b=>d e b2 (k1.own b (au _))
end Go.Proofs
namespace Go.Proofs
open Go Go.Lift
theorem LH{h:ad}{b n:Nat}{t:TypeId}{c d vs:List Value}(a:h[b]? =some (.cells (c++d).toArray t (0,0))) (g:c.length=n) (m:vs.length=d.length) {k:ad→Prop}
  (f:∀h',h'[b]? =some (.cells (c++vs).toArray t (0,0))→Upd (· =b) h h'→k h'):rc h (some (adr ⟨b,0,none⟩ n)) 0 vs∧At (gd h (adr ⟨b,0,none⟩ n) 0 vs) k:=by
 rw[bG,aD];have e:=gw vs h 0 n (c++d) a (by rw[ae];omega);refine⟨.inr ⟨_,rfl,fun j i=>by rw[bG];exact gM a (by rw[cz,ae];omega)⟩,bK ?_⟩
 rw[e];refine f _ ?_ (Upd.set h _ rfl);rw[ix a];congr 3
 subst g;rw[dL,List.take_left,List.drop_eq_nil_of_le (by rw[ae];omega),bV]
abbrev edL(pb tb:Nat)(t:Tr):List Value:= [.pointer (some ⟨pb,0,none⟩),.pointer (some ⟨tb,0,none⟩)]++gm t
def EdAt(h:ad)(eb pb tb:Nat)(t:Tr):Prop:=h[eb]? =some (.cells (edL pb tb t).toArray yl (0,0))
theorem Kk{h:ad}{tb pb:Nat}{ti:Int}{a:Bool}(k:TokAt h tb pb ti a){K:Bool→ad→Prop}(b:K a h):HC PG dD [.pointer (some ⟨tb,0,none⟩)] [.c .bool] K h:=by
 refine wa k.by_ ?_;cases a<;>exact b
theorem E0{h:ad}{eb pb tb:Nat}{t:Tr}{ti:Int}{a:Bool}(e:EdAt h eb pb tb t)(k:TokAt h tb pb ti a){K:Bool→ad→Prop}(b:K (!a) h):HC PG lq [.pointer (some ⟨eb,0,none⟩)] [.c .bool] K h:=by
 refine vy _ ?_;unfold pa eK;exact az.2 ⟨_,rfl,_,vc e 1,Kk k b⟩
theorem tH{h:ad}{eb pb tb:Nat}{t:Tr}{ti:Int}{a:Bool}(e:EdAt h eb pb tb t)(k:TokAt h tb pb ti a){K:Int→ad→Prop}(b:K (if a then 0 else 5) h):HC PG hJ [.pointer (some ⟨eb,0,none⟩)] [.c (.int .i64)] K h:=by
 refine xZ _ ?_;unfold qW;refine ah.2 (E0 e k ?_);cases a
 ·exact az.2 b
 ·exact ah.2 b
theorem EdAt.upd{M:Nat→Prop}{h a:ad}{eb pb tb:Nat}{t:Tr}(e:EdAt h eb pb tb t)(k:Upd M h a)(hm:¬M eb):EdAt a eb pb tb t:=k.get e hm
theorem TokAt.upd{M:Nat→Prop}{h b:ad}{tb pb:Nat}{ti:Int}{a:Bool}(e:TokAt h tb pb ti a)(k:Upd M h b)(hm:¬M tb):TokAt b tb pb ti a:=k.get e hm
theorem HV.mono{P:Program}{V:Value}{args:List Value}{ks:List Kind}{K a:qI ks→ad→Prop}{h:ad}{f:FuncId}{cap:Array Value}(e:V=.func (.func f) #[] cap)(hc:HC P f (args++cap.toList) ks K h)(b:∀t h',K t h'→a t h'):HV P V args ks a h:=by
 subst e;exact HV.mk' (by simpa using hc.mono b)
abbrev JE:List Kind:= [.agg [.int .i64,.int .u64,.int .u64,.int .u64,.ptr,.ptr],.c (.int .i64)]
theorem yD{h:ad}{eb pb tb:Nat}{tu:Tr}{f:FuncId}{cap:Array Value}(e:EdAt h eb pb tb tu){K:Int→ad→Prop}
  (hc:HC PG f ([.pointer (some ⟨tb,0,none⟩)]++cap.toList) JE (fun(z:Tr×Int) j=>EdAt j eb pb tb tu∧∀i,Upd No j i→((z.2=0→∀h',EdAt h' eb pb tb z.1→Upd (· =eb) i h'→K 0 h')∧(z.2≠0→K z.2 i))) h):HC PG iB [.pointer (some ⟨eb,0,none⟩),.func (.func f) #[] cap] [.c (.int .i64)] K h:=by
 refine vx _ _ ?_;unfold o9 bo af eK aA nv rd vI qv M2 Ls;refine⟨_,rfl,_,vc e 1,HV.mono rfl hc fun(z:Tr×Int) j hz=>?_⟩
 obtain⟨v,hz⟩:=hz;refine aX fun i u t=>fc (c:=gm zJ) (vs:=gm z.1) u rfl fun p b n=>?_
 have g:=t.own n (au _);obtain⟨o,m⟩:=hz p g;refine CondP.intro (fun a=>?_) fun a=>?_
 ·have a:z.2=0:=by simpa using a
  refine⟨_,vc b 0,_,vc b 1,_,vc b 2,_,vc b 3,_,vc b 4,_,vc b 5,_,rfl,?_⟩;refine LH (c:= [.pointer (some ⟨pb,0,none⟩),.pointer (some ⟨tb,0,none⟩)]) (d:=gm tu) (vs:=gm z.1) (v.upd g id) rfl rfl fun q s k=>?_
  rw[a];exact o a q s k
 ·exact m (by simpa using a)
structure EdO(W S:Nat→Prop)(h:ad)(eb pb tb:Nat)(ti:Int)(kind:Int)(x:Hs)(tu:Tr)(lu:List Pr):Prop where
 ed:EdAt h eb pb tb tu
 tk:TokAt h tb pb ti true
 iu:TreeO (some ⟨tb,0,none⟩) (fun y=>W y∨S y) h kind x tu lu S
 lt:∀y,(W y∨S y)→y<h.size
 we:W eb
 wt:W tb
 ap:∀y,S y→¬W y
 up:cp lu
 fit:Fit lu
theorem EdO.can{W S:Nat→Prop}{h:ad}{eb pb tb:Nat}{ti:Int}{b:Int}{x:Hs}{tu:Tr}{lu:List Pr}(e:EdO W S h eb pb tb ti b x tu lu):Can (some ⟨tb,0,none⟩) (some ⟨tb,0,none⟩) (fun y=>W y∨S y) S h:=
 ⟨e.tk.by_,e.lt,fun y c=>.inr c,fun a h=>by cases h;exact .inl e.wt,fun a h d=>by cases h;exact e.ap _ d e.wt⟩
theorem EdO.fin{W S k:Nat→Prop}{h m n w u j:ad}{eb pb tb b:Nat}{ti:Int}{d:Int}{x:Hs}{tu g:Tr}{lu f:List Pr}(e:EdO W S h eb pb tb ti d x tu lu)(C:Upd No h m)(B:Upd S m n)(G:TreeO (some ⟨tb,0,none⟩) (fun y=>Pro (fun y=>W y∨S y) h m y∨k y) n d x g f k)(i:∀y,k y→(S y∨m.size≤y)∧y<n.size)
  (t:Upd (· =b) n w)(I:h.size≤b)(F:b<m.size)(p:Upd No w u)(K:EdAt j eb pb tb g)(q:Upd (· =eb) u j)(up:cp f)(fit:Fit f):EdO W k j eb pb tb ti d x g f∧Upd (fun y=>S y∨y=eb) h j∧∀y,k y→(S y∨h.size≤y)∧y<j.size:=by
 have s3:=C.size;have L:=B.size;have N:=t.size;have O:=p.size;have M:=q.size;have s:∀y,S y→y<h.size:=fun y c=>e.lt y (.inr c)
 have E:=e.lt _ (.inl e.we);have H:=e.lt _ (.inl e.wt);have v:∀{z},W z→¬k z:=fun o h=>by
  rcases(i _ h).1 with h|h
  ·exact e.ap _ h o
  ·have:=e.lt _ (.inl o);omega
 have A:Upd (fun y=>S y∨y=eb) h j:=(((C.wide.tr (B.mono fun y c=>.inl (.inl c))).trans t fun y c=>.inr (by have c:y=b:=c;omega)).tr p.wide).trans q fun y c=>.inl (.inr c)
 have J:=G.loc t I F s i;have D:=(J.upd0 p).upd q (fun y c=>by have:=(i y c).2;omega) fun y c=>by
  have c:y=eb:=c;subst c;exact .inl ⟨.inl (.inl (.inl e.we)),v e.we⟩
 refine⟨⟨K,e.tk.upd A fun h=>?_,D.less fun y c=>.inl (c.imp (fun h=>.inl (.inl h)) id),fun y c=>c.elim (fun h=>?_) fun h=>?_,e.we,e.wt,fun y c o=>v o c,up,fit⟩,A,fun y c=>⟨(i y c).1.imp id fun h=>by omega,by have:=(i y c).2;omega⟩⟩
 ·rcases h with h|h
  ·exact e.ap _ h e.wt
  ·have a:=e.tk
   rw[h]at a;have a:=a.symm.trans e.ed;simp at a
 ·have:=e.lt y (.inl h);omega
 ·have:=(i y h).2;omega
set_option maxHeartbeats 1000000 in
theorem EZ{W S:Nat→Prop}{h:ad}{eb pb tb:Nat}{ti:Int}{g:Int}{x:Hs}{tu:Tr}{lu:List Pr}(e:EdO W S h eb pb tb ti g x tu lu)(N:lu.length≤1000000)(p:Pr){K:Int→ad→Prop}
  (v:∀n b q,EdO W q n eb pb tb ti g x b (oy lu p)→Upd (fun y=>S y∨y=eb) h n→(∀y,q y→(S y∨h.size≤y)∧y<n.size)→K (C1 p) n)(f:Fit (oy lu p)):HC PG fP [.pointer (some ⟨eb,0,none⟩),.agg #[.string p.1,.string p.2]] [.c (.int .i64)] K h:=by
 refine r6 _ p ?_;unfold nK ui;refine aX fun h1 b1 k1=>aX fun Y b2 B=>?_
 have T:=aF b1;have z2:=aF b2;have s1:=k1.size;have s2:=B.size;have c1:=B.get0 b1;have d:=k1.tr B;refine⟨_,vc c1 0,tH (e.ed.upd d id) (e.tk.upd d id) (ah.2 ⟨_,vc c1 0,?_⟩)⟩;refine yD (e.ed.upd d id) (wR _ _ _ ?_);unfold pY rR bo af cE eK aA cG gC yi rd qv rP;refine aX fun X b3 E=>?_
 have J:=aF b3;have a:=d.tr E;have j:=e.ed.upd a id;have G:=E.get0 b2;have F:=E.get0 c1;refine⟨_,vc F 0,_,rfl,_,nO j 2 0,_,nO j 2 1,_,nO j 2 2,_,nO j 2 3,_,nO j 2 4,_,nO j 2 5,p.1,vc G 0,p.2,vc G 1,?_⟩;have s:∀y,S y→y<h.size:=fun y M=>e.lt y (.inr M)
 refine BZ (e.iu.pro a) (e.can.pro a) e.up N p fun Z b q m I u O=>?_
 have V:=m.size;refine⟨vc (m.get F fun t=>by have:=s _ t;omega) 0,?_⟩
 refine fc (c:=gm zJ) (vs:=gm b) (m.get b3 fun t=>by have:=s _ t;omega) rfl fun Q k i=>?_
 refine⟨_,vc k 0,_,vc k 1,_,vc k 2,_,vc k 3,_,vc k 4,_,vc k 5,?_⟩;have H:EdAt Q eb pb tb tu:=(j.upd m fun t=>e.ap _ t e.we).upd i (by have:=e.lt _ (.inl e.we);omega)
 have o:cp (oy lu p):=by
  unfold oy;split
  ·exact xp p e.up
  ·exact e.up
 refine⟨H,fun L A=>⟨fun hz n R z=>?_,fun hz=>?_⟩⟩
 ·obtain⟨w,D,C⟩:=e.fin a m I u i (by omega) J A R z o f
  have hz:C1 p=0:=hz;rw[hz]at v;exact v n b q w D C
 ·have hz:C1 p≠0:=hz
  have P:=O hz;subst P;obtain⟨w,D,C⟩:=e.fin a m I u i (by omega) J A (H.upd A id) (Upd.refl _ _) o f;exact v L b q w D C
end Go.Proofs
namespace Go.Proofs
open Go Go.Lift
theorem FM{W:Nat→Prop}{h:ad}{b:Nat}{sl:ByteArray}{w:Option ByteArray}{F:Fo}(r:RxN W h b sl w F){K:ByteArray×Bool→ad→Prop}(c:∀v,(∀u,w=some u→v=u)→K (v,w.isSome) h):HC PG ll [.pointer (some ⟨b,0,none⟩)] [.c .str,.c .bool] K h:=by
 refine vr _ ?_;unfold o5 cG ip;obtain⟨val,s,ow,ks,a,hv,_⟩:=r;exact ah.2 ⟨_,rfl,val,cF (i:=2) a,_,rfl,w.isSome,cF (i:=1) a,c val (vw hv)⟩
theorem Ig{W:Nat→Prop}{h:ad}{b:Nat}{sl:ByteArray}{w:Option ByteArray}{F:Fo}(r:RxN W h b sl w F)(m:F.toL.length≤256){K:SliceV→ad→Prop}(f:∀s' a ks,OwnS kC 1 aH (fun y=>h.size≤y) a s' ks→RxL W a ks F.toL→Upd No h a→K s' a):HC PG lY [.pointer (some ⟨b,0,none⟩)] [.c .slice] K h:=by
 refine wK _ ?_;unfold pR bL;obtain⟨val,s,ow,ks,e,hv,g,_,j⟩:=r;have d:=nX.1 j;refine ah.2 ⟨_,rfl,s,cF (i:=3) e,?_⟩;refine CD g (by rw[d.1];omega) fun s' a k c=>f s' a ks k (d.upd0 c) c
theorem Iu(lab:List UInt8)(w:Option ByteArray)(a b:Fo):uQ (.cons lab w a b)=((w.map fun v=>(([]:List UInt8),v)).toList++uQ a).map (fun p=>(lab++p.1,p.2))++uQ b:=rfl
end Go.Proofs
namespace Go.Proofs
open Go Go.Lift
end Go.Proofs
namespace Go.Proofs
open Go Go.Lift
end Go.Proofs
namespace Go.Proofs
open Go Go.Lift
end Go.Proofs
namespace Go.Proofs
theorem Kj:∀{n x:Nat},x<2^n→0<x→∃c,c<n∧x.testBit c=true∧∀j,j<c→x.testBit j=false
 |0,x,h,h'=>by simp at h;omega
 |n+1,x,h,h'=>by
  by_cases e:x%2=1
  ·exact⟨0,by omega,by rw[hO];simpa using e,fun j a=>absurd a (kV _)⟩
  ·obtain⟨c,f,d,b⟩:=Kj (n:=n) (x:=x/2) (by rw[Nat.pow_succ]at h;omega) (by omega)
   refine⟨c+1,by omega,by rw[ft];exact d,fun j a=>?_⟩
   cases j with
   |zero=>rw[hO];simpa using e
   |succ j=>rw[ft];exact b j (by omega)
theorem Ag:∀{c x:Nat},x.testBit c=true→(∀j,j<c→x.testBit j=false)→∀i,(x-1).testBit i=if i<c then true else if i=c then false else x.testBit i
 |0,x,h,_,i=>by
  have h:x%2=1:=by rw[hO]at h;simpa using h
  cases i with
  |zero=>rw[hO,if_neg (by omega),if_pos rfl];simp;omega
  |succ i=>rw[ft,ft,if_neg (by omega),if_neg (by omega)];congr 1;omega
 |c+1,x,h,hl,i=>by
  have a:=hl 0 (by omega);rw[hO]at a;have f:¬x%2=1:=by simpa using a
  have a:x%2=0:=by omega
  rw[ft]at h;have b:0<x/2:=by
   rcases Nat.eq_zero_or_pos (x/2)with e|e
   ·rw[e,eA]at h;cases h
   ·exact e
  cases i with
  |zero=>rw[hO,if_pos (by omega)];simp;omega
  |succ i=>
   have:=Ag (x:=x/2) h (fun j d=>by have:=hl (j+1) (by omega);rwa [ft]at this) i
   rw[ft,ft,show(x-1)/2=x/2-1 by omega,this]
   simp only[Nat.add_lt_add_iff_right,Nat.add_right_cancel_iff]
theorem LS{c x:Nat}(h:x.testBit c=true)(d:∀j,j<c→x.testBit j=false)(hc:c<32)(hx:x<4294967296):x&&&(4294967296-x)=2^c:=by
 have f:0<x:=by
  rcases Nat.eq_zero_or_pos x with e|e
  ·rw[e,eA]at h;cases h
  ·exact e
 refine fB fun i=>?_
 have e:4294967296-x=2^32-((x-1)+1):=by omega
 rw[fR,e,Nat.testBit_two_pow_sub_succ (by omega),Ag h d,Nat.testBit_two_pow];by_cases a:i<c
 ·rw[if_pos a,d i a];simp;omega
 ·rw[if_neg a]
  by_cases b:i=c
  ·subst b;simp[h,hc]
  ·rw[if_neg b]
   cases x.testBit i<;>simp<;>omega
theorem IW{c x:Nat}(h:x.testBit c=true)(d:∀j,j<c→x.testBit j=false)(i:Nat):(x&&&(x-1)).testBit i=(x.testBit i&&decide (c<i)):=by
 rw[fR,Ag h d];by_cases a:i<c
 ·rw[if_pos a,d i a];rfl
 ·rw[if_neg a]
  by_cases b:i=c
  ·subst b;simp
  ·rw[if_neg b]
   have:c<i:=by omega
   simp[this]
end Go.Proofs
namespace Go.Proofs
open Go Go.Lift
def wl(x:Hs):Nat→List Pr→List Pr
 |0,l=>l
 |m+1,l=>eJ x (12-m) l++(jg x (12-m) l).flatMap (wl x m)
def cw(x:Hs):Nat→List Pr→Nat
 |0,_=>2
 |m+1,l=>2+((jg x (12-m) l).map (cw x m)).sum
structure Fr where
 sp:SliceV
 sk:SliceV
 n:Nat
 ps:List Pr
 ks:List (Nat×List Pr)
def Fr.raw(f:Fr):SliceV×SliceV:=(f.sp,f.sk)
def Fr.rem(x:Hs)(f:Fr):List Pr:=f.ps++f.ks.flatMap fun k=>wl x (f.n-1) k.2
theorem setCell{α:Type}{f:α→List Value}{c:Nat}{t:TypeId}{M:Nat→Prop}{h:ad}{s:SliceV}{P Q:List α}{x y:α}{j:Nat}{v:Value}(n:OwnS f c t M h s (P++x::Q))(F:j<c)(B:f y=(f x).set j v){a:Addr}(A:s.a=some a){i:Nat}(hi:i=P.length){G:ad→Prop}(C:∀m,OwnS f c t M m s (P++y::Q)→Upd M h m→G m):
  Wr h (adr (adr a (i*c)) j)∧At (hset h (adr (adr a (i*c)) j) v) G:=by
 subst hi;have q:=n.ne;have e:=n.len;have k:=n.cap;rcases n.blk with H|⟨b,d,g,w,hc,D⟩
 ·rw[ae,List.length_cons]at e;omega
 rw[A]at g;cases g;have I:(P.flatMap f).length=P.length*c:=iC q P;rw[bv,aL]at hc;have J:=(q x).1;have E:adr (adr ⟨b,0,none⟩ (P.length*c)) j=⟨b,P.length*c+j,none⟩:=by rw[bG,bG,aD]
 rw[E];have p:P.length*c+j<(P.flatMap f++(f x++Q.flatMap f)++d).toArray.size:=by
  simp only[cz,ae];omega
 refine⟨gM hc p,td hc fun m u o=>C m ⟨by rw[e];simp,q,k,.inr ⟨b,d,A,w,?_,D⟩⟩ (o.mono fun z hz=>.inl (by have hz:z=b:=hz;rw[hz];exact w))⟩
 rw[u];congr 3
 rw[bv,aL,B];apply Array.toList_inj.1;rw[Array.toList_setIfInBounds];simp only[ak];rw[List.set_append_right _ _ (by omega),show P.length*c+j-(P.flatMap f).length=j by omega,List.set_append_left _ _ (by omega)]
end Go.Proofs
namespace Go.Proofs
open Go Go.Lift
end Go.Proofs
namespace Go.Proofs
open Go Go.Lift
def Below(W:Nat→Prop)(x:Hs)(h:ad)(m:Nat)(r:Option Addr)(l:List Pr):Prop:=(r=none∧l= [])∨∃b,r=some ⟨b,0,none⟩∧TrieAt W x h m b l
theorem Below.upd0{W:Nat→Prop}{x:Hs}{h a:ad}{m:Nat}{r:Option Addr}{l:List Pr}(k:Upd No h a)(t:Below W x h m r l):Below W x a m r l:=t.imp id fun⟨b,e,t⟩=>⟨b,e,TrieAt.upd0 k t⟩
theorem Below.less{W W':Nat→Prop}{x:Hs}{h:ad}{m:Nat}{r:Option Addr}{l:List Pr}(hm:∀b,W' b→W b∨h.size≤b)(t:Below W x h m r l):Below W' x h m r l:=t.imp id fun⟨b,e,t⟩=>⟨b,e,TrieAt.less hm t⟩
theorem Below.updM{W M:Nat→Prop}{x:Hs}{h a:ad}{m:Nat}{r:Option Addr}{l:List Pr}(k:Upd M h a)(hm:∀b,M b→W b∨h.size≤b)(t:Below W x h m r l):Below W x a m r l:=t.imp id fun⟨b,e,t⟩=>⟨b,e,TrieAt.updM k hm t⟩
end Go.Proofs
namespace Go.Proofs
open Go Go.Lift
abbrev tzL:List Nat:= [0,1,28,2,29,14,24,3,30,22,20,15,25,17,4,8,31,27,13,23,21,19,16,7,26,12,18,6,11,5,10,9]
def Tab(h:ad):Prop:=∀i,i<32→aG h ⟨0,i,none⟩=some (.int .u8 ((tzL.getD i 0:Nat):Int))
theorem Tab.upd{M:Nat→Prop}{h a:ad}(t:Tab h)(k:Upd M h a)(hm:¬M 0):Tab a:=fun i hi=>k.cell (t i hi) hm
theorem MH:∀c:Fin 32,Int.fdiv (IntKind.wrap .u32 (IntKind.wrap .u32 ((2^c.val:Nat):Int)*125613361)) (2^(min (27:Int).toNat (IntKind.bits .u32)))=((2^c.val*125613361%4294967296/134217728:Nat):Int)∧2^c.val*125613361%4294967296/134217728<32∧tzL.getD (2^c.val*125613361%4294967296/134217728) 0=c.val:=by decide+kernel
theorem Lf{a b:Nat}(c:a<4294967296)(d:b<4294967296):(ai (IntKind.bits .u32) (a:Int)&&&ai (IntKind.bits .u32) (b:Int)).toNat=a&&&b:=by
 rw[show IntKind.bits .u32=32 from rfl,fF,fF,BitVec.toNat_and,BitVec.toNat_ofNat,BitVec.toNat_ofNat,dK (show a<2^32 from c),dK (show b<2^32 from d)]
theorem NP{h:ad}(tb:Tab h){x c:Nat}(hx:x<4294967296)(hc:c<32)(a:x.testBit c=true)(i:∀j,j<c→x.testBit j=false){K:Int→ad→Prop}(g:K (c:Int) h):HC PG fX [.int .u32 (x:Int)] [.c (.int .i64)] K h:=by
 refine oo x ?_;unfold jp dC fH;have k:0<x:=by
  rcases Nat.eq_zero_or_pos x with e|e
  ·rw[e,eA]at a;cases a
  ·exact e
 refine CondP.intro (fun e=>?_) fun _=>?_
 ·have e:(x:Int)=0:=by simpa using e
  omega
 have ew:IntKind.wrap .u32 (0-(x:Int))=((4294967296-x:Nat):Int):=by rw[IntKind.wrap_u32];omega
 rw[ew,Lf hx (by omega),LS a i hc hx];obtain⟨b,f,d⟩:=MH ⟨c,hc⟩;simp only at b f d;simp only[Bd];rw[b];refine⟨by decide,⟨by omega,by omega⟩,((tzL.getD (2^c*125613361%4294967296/134217728) 0:Nat):Int),?_,?_⟩
 ·rw[Nat.mul_one,bG,aD,Int.toNat_natCast];exact tb _ f
 ·rw[d,nA (by omega)];exact g
def dk(d k:Nat):Nat:=(d>>>k)<<<k
theorem xF(d k i:Nat):(dk d k).testBit i=(decide (k≤i)&&d.testBit i):=by
 unfold dk;rw[Nat.testBit_shiftLeft];by_cases h:k≤i
 ·rw[decide_eq_true (show i≥k from h),Nat.testBit_shiftRight];congr 2;omega
 ·rw[decide_eq_false (show ¬i≥k from h)];rfl
theorem Mu(d k:Nat):dk d k≤d:=by
 unfold dk;rw[Nat.shiftLeft_eq,Nat.shiftRight_eq_div_pow];exact Nat.div_mul_le_self ..
theorem L4(d:Nat):dk d 0=d:=fB fun i=>by rw[xF];simp
theorem Cf{d:Nat}(hd:d<4294967296){t:Nat}{h:ad}(w:h[t]? =some (.cells #[.int .u32 (d:Int)] rg (0,0)))
  {BODY:Int→(Option Ex→ad→Prop)→ad→Prop} {N:ad→Prop} {X:Nat→ad→Prop} {R:ad→Prop} (Inv:Nat→ad→Prop) (M:Nat→Prop)
  (Q:∀k a,Inv k a→Tab a) (h0:Inv 0 h) (f:∀k a q,Inv k a→h.size≤a.size→Upd (fun b=>b=t∨h.size≤b) a q→Inv k q)
  (hM:∀b,M b→b≠t∧b<h.size)
  (step:∀k c a (KK:Option Ex→ad→Prop),Inv k a→k≤c→c<32→d.testBit c=true→(∀j,k≤j→j<c→d.testBit j=false)→(∀q,Inv (c+1) q→Upd M a q→KK none q)→BODY (c:Int) KK a)
  (fin:∀k a,Inv k a→(∀j,k≤j→j<32→d.testBit j=false)→a[h.size]? =some (.deferred (some []))→N a):
  RangeP PG (.func (.func gf) #[] #[.pointer (some ⟨t,0,none⟩)]) [.c (.int .i64)] h
   (fun Ce bz (x:Int) k G=>(G[(bJ h+1)]? =some Ce∧At (Array.setIfInBounds G (bJ h+1) bz) (fun L=>BODY x k L))) N X R:=by
 refine⟨fun lo hlo u=>?_⟩
 refine⟨gf,#[],#[.pointer (some ⟨t,0,none⟩)],rfl,?_⟩;have zb:=aF w;have k1:Upd No h ((h.push (.deferred (some []))).push (lo .ready none)):=(Upd.push No _ _).tr (Upd.push No _ _);have W:((h.push (.deferred (some []))).push (lo .ready none))[h.size+1]? =some (lo .ready none):=by
  have:=Ez (h.push (.deferred (some []))) (lo .ready none);rwa [Array.size_push]at this
 have l1:((h.push (.deferred (some []))).push (lo .ready none))[h.size]? =some (.deferred (some [])):=(Upd.push No _ _).get0 (Ez h _);have b1:=k1.get0 w;have i1:=f 0 _ _ h0 (au _) k1.wide;have z1:=aF W;generalize (h.push (.deferred (some []))).push (lo .ready none)=a at k1 W l1 b1 i1 z1;refine tW (.func (.yield (h.size+1)) #[] #[]) ⟨t,0,none⟩ ?_;unfold lz
 refine LoopP.ghost (fun(k:Nat) (_:Unit) p=>Inv k p∧p[t]? =some (.cells #[.int .u32 ((dk d k:Nat):Int)] rg (0,0))∧p[h.size]? =some (.deferred (some []))∧p[h.size+1]? =some (lo .ready none)∧k≤32) (fun k=>33-k) 0 ⟨i1,by rw[L4];exact b1,l1,W,bp _⟩ ?_
 rintro I k ⟨⟩ p ⟨hi,C,J,g,hk32⟩ hI;have zz:=aF g;have B:=Nat.lt_of_le_of_lt (Mu d k) hd;refine⟨_,aS C,CondP.intro (fun e=>?_) fun e=>?_⟩
 ·have P:0<dk d k:=by
   have:((dk d k:Nat):Int)≠0:=by simpa using e
   omega
  obtain⟨c,hc,A,y⟩:=Kj (n:=32) B P;have z:=A;rw[xF,Bool.and_eq_true,decide_eq_true_iff]at z;refine⟨_,aS C,NP (Q k _ hi) B hc A y ?_⟩;refine u (c:Int) p _ g ⟨g,?_⟩;have H:Upd (· =h.size+1) p (p.setIfInBounds (h.size+1) (lo .busy none)):=Upd.set _ _ rfl
  have lb:=ix (o:=lo .busy none) g;have sb:=H.size;refine bK ?_;generalize p.setIfInBounds (h.size+1) (lo .busy none)=q at H lb sb;refine step k c q _ (f k _ _ hi (by omega) (H.mono fun b w=>.inl (.inr (by omega)))) z.1 hc z.2 (fun j a q=>?_) fun O S s=>?_
  ·have:=y j q
   rw[xF,decide_eq_true a]at this;simpa using this
  have K:=s.get lb fun e=>by have:=(hM _ e).2;omega
  have T:=s.get (H.get C (show ¬t=h.size+1 by omega)) fun e=>(hM _ e).1 rfl
  have Z:=s.get (H.get J (show ¬h.size=h.size+1 by omega)) fun e=>by have:=(hM _ e).2;omega
  refine⟨K,?_⟩;have v:Upd (· =h.size+1) O (O.setIfInBounds (h.size+1) (lo .ready none)):=Upd.set _ _ rfl
  have l5:=ix (o:=lo .ready none) K;have m:=v.get T (show ¬t=h.size+1 by omega)
  have E:=v.get Z (show ¬h.size=h.size+1 by omega)
  have s3:=s.size;have i5:=f (c+1) _ _ S (by omega) (v.mono fun b w=>.inl (.inr (by omega)))
  simp only[Option.isNone_none,if_true];refine ah.2 ?_;generalize O.setIfInBounds (h.size+1) (lo .ready none)=h5 at v l5 m E i5;refine⟨_,aS m,_,aS m,?_⟩;have ew:IntKind.wrap .u32 (((dk d k:Nat):Int)-1)=((dk d k-1:Nat):Int):=by rw[IntKind.wrap_u32];omega
  have ea:dk d k&&&(dk d k-1)=dk d (c+1):=by
   refine fB fun i=>?_
   rw[IW A y,xF,xF];by_cases F:c<i
   ·rw[decide_eq_true F,decide_eq_true (show k≤i by omega),decide_eq_true (show c+1≤i by omega)];simp
   ·rw[decide_eq_false F,decide_eq_false (show ¬c+1≤i by omega)];simp
  simp only[Bd];rw[ew,Lf B (by omega),ea];have V:IntKind.wrap .u32 ((dk d (c+1):Nat):Int)=((dk d (c+1):Nat):Int):=by have:=Mu d (c+1);rw[IntKind.wrap_u32];omega
  rw[V];refine⟨gM m (by simp),td m fun h6 Y D=>?_⟩
  have s5:=v.size;refine hI (c+1) () h6 ⟨f _ _ _ i5 (by omega) (D.mono fun b w=>.inl (.inl w)),Y,D.oth E (by omega),D.oth l5 (by omega),hc⟩ (by omega)
 ·have hz:dk d k=0:=by
   have:((dk d k:Nat):Int)=0:=by simpa using e
   omega
  have v:Upd (· =h.size+1) p (p.setIfInBounds (h.size+1) (lo .exhausted none)):=Upd.set _ _ rfl
  refine⟨.ready,none,by decide,g,?_⟩
  refine fin k _ (f k _ _ hi (by omega) (v.mono fun b w=>.inl (.inr (by omega)))) (fun j a _=>?_) (v.get J (show ¬h.size=h.size+1 by omega))
  have:=xF d k j;rw[hz,eA,decide_eq_true a]at this;simpa using this.symm
end Go.Proofs
namespace Go.Proofs
open Go Go.Lift
abbrev Mo(n:Nat):List Value:= [.int .i64 (n:Int)]
theorem MZ(n:Nat):(Mo n).length=1∧0<1:=⟨rfl,by omega⟩
theorem xg{h:ad}{b:Nat}{c:Array Value}{t:TypeId}(a:h[b]? =some (.cells c t (0,0))):aG h ⟨b,0,none⟩=c[0]?:=aS a
theorem zG{h:ad}{b:Nat}{c c':Array Value}{t:TypeId}{v:Value}{k:ad→Prop}(f:h[b]? =some (.cells c t (0,0))) (hi:0<c.size) (e:c.setIfInBounds 0 v=c') (g:∀a,a[b]? =some (.cells c' t (0,0))→Upd (· =b) h a→k a):Wr h ⟨b,0,none⟩∧At (hset h ⟨b,0,none⟩ v) k:=
 ⟨gM f hi,td f fun a d i=>g a (e▸d) i⟩
theorem C0{h:ad}{b:Nat}{cs:List Value}{t:TypeId}(a:h[b]? =some (.cells cs.toArray t (0,0))):SRow h (some ⟨b,0,none⟩) cs.length cs:=
 ⟨rfl,.inr ⟨_,rfl,nY a fun i v hv=>by rw[aD,List.getElem?_toArray];exact hv⟩⟩
theorem Aq{W:Nat→Prop}{x:Hs}{k:ByteArray}{h:ad}{s:SliceV}{way:List Nat}(d:Sl Mo 1 W h s way)(o:way.length≤13)(j:∀i c,way[i]? =some c→ck x i k=c) {K:Bool→ad→Prop} (g:K true h):HC PG kH [.int .u64 (lG x k),.slice s.a s.len s.cap] [.c .bool] K h:=by
 refine BA (lG x k) s ?_;unfold uv dC fH qd;have e:=d.len;refine LoopP.ghost (fun(i:Nat) (t:Int) f=>t=(i:Int)∧i≤way.length∧f=h) (fun i=>way.length-i) 0 ⟨rfl,bp _,rfl⟩ ?_
 rintro I i t f ⟨rfl,hi,rfl⟩ n;refine bj (fun b=>?_) fun _=>g
 have b:i<way.length:=by omega
 obtain⟨a,m,_,hv⟩:=d.at0 (ag b);refine⟨⟨by omega,by omega⟩,a,m,_,hv,KY (x:=x) (k:=k) (lev:=i) (by omega) ?_⟩
 rw[j i _ (ag b),bne_self_eq_false];refine ah.2 ?_;rw[ep b (by omega)];exact n (i+1) _ _ ⟨rfl,b,rfl⟩ (by omega)
theorem Iz{W:Nat→Prop}{h:ad}{s:SliceV}{l:List Pr}(c:Sl iY 2 W h s l)(j:cp l)(q:l.length≤1000000){K:Bool→ad→Prop}(m:K true h):HC PG rC [.slice s.a s.len s.cap] [.c .bool] K h:=by
 refine DR s ?_;unfold wZ dC fH cG;have f:=c.len;refine LoopP.ghost (fun(i:Nat) (t:Int) g=>t=((i+1:Nat):Int)∧g=h) (fun i=>l.length-i) 0 ⟨rfl,rfl⟩ ?_
 rintro I i t g ⟨rfl,rfl⟩ o;refine bj (fun b=>?_) fun _=>m
 have b:i+1<l.length:=by omega
 have p:IntKind.wrap .i64 (((i+1:Nat):Int)-1)=(i:Int):=by rw[nA (by omega)];omega
 rw[p];obtain⟨a,n,_,hv⟩:=c.at (ag (show i<l.length by omega))
 obtain⟨a',d,_,e⟩:=c.at (ag b);refine⟨⟨by omega,by omega⟩,a,n,_,hv 0 _ rfl,⟨by omega,by omega⟩,a',d,_,e 0 _ rfl,?_⟩
 have:=cn.1 j i (i+1) (by omega) b (by omega);have k:Op.bytesLess l[i].1.toList l[i+1].1.toList=true:=this;rw[k];refine ah.2 ?_;rw[ep b (by omega)];exact o (i+1) _ _ ⟨rfl,rfl⟩ (by omega)
theorem H6(x:Hs)(lev:Nat)(l:List Pr):(eJ x lev l).length+(jg x lev l).flatten.length=l.length:=by
 have h:=ou x lev l 32;have d:(l.filter fun p=>decide (ck x lev p.1<32))=l:=gV.2 fun p _=>decide_eq_true (ww ..)
 rw[d]at h;have:∀n,(fm (fun c=>mC (part x lev c l)) n).length+(fm (fun c=>fG (part x lev c l)) n).flatten.length=((bX n).map fun c=>(part x lev c l).length).sum:=by
  intro n;induction n with
  |zero=>simp[fm]
  |succ n ih=>
   rw[gS,gS,eZ,dG,gz];simp only[ae,cQ,eI,mh,m5,rL,dL];generalize part x lev n l=q;have:(mC q).toList.length+(fG q).toList.flatten.length=q.length:=by
    match q with
    | []=>simp[mC,fG]
    | [a]=>simp[mC,fG]
    |a::b::q=>simp[mC,fG]
   omega
 have:=this 32;unfold eJ jg;omega
theorem Dq{β:Type}{g:Nat→Option β}{k:Nat}:∀{c:Nat},k≤c→(∀j,k≤j→j<c→g j=none)→fm g c=fm g k
 |0,h,_=>by rw[show k=0 by omega]
 |c+1,h,hn=>by
  rcases bM k (c+1)with b|b
  ·rw[gS,hn c (by omega) (by omega),Dq (by omega) fun j a d=>hn j a (by omega)];simp
  ·rw[show k=c+1 by omega]
end Go.Proofs
namespace Go.Proofs
open Go Go.Lift
theorem H8{W:Nat→Prop}{x:Hs}{h:ad}{m:Nat}{s:Slots}{c:Nat}{l:List Pr}(t:SlotIs W x h m s c l)(b:(s.p c).isSome):∃p,l= [p]∧s.p c=some p:=by
 rcases t with⟨_,a,_⟩|⟨p,d,a,_⟩|⟨_,a,_⟩
 ·rw[a]at b;cases b
 ·exact⟨p,d,a⟩
 ·rw[a]at b;cases b
theorem H9{W:Nat→Prop}{x:Hs}{h:ad}{m:Nat}{s:Slots}{c:Nat}{l:List Pr}(t:SlotIs W x h m s c l)(b:(s.k c).isSome):2≤l.length∧∃d,s.k c=some (some ⟨d,0,none⟩)∧TrieAt W x h m d l:=by
 rcases t with⟨_,_,a⟩|⟨p,_,_,a⟩|⟨f,_,d,a,e⟩
 ·rw[a]at b;cases b
 ·rw[a]at b;cases b
 ·exact⟨f,d,a,e⟩
theorem CN{W:Nat→Prop}{h:ad}{s:SliceV}{way:List Nat}{c:Nat}{xs:List Value}(f:Sl Mo 1 W h s way)(hc:s.cap=s.len)(g:way.length≤13)(hx:xs= [.int .i64 (c:Int)]){K:SliceV→ad→Prop}
  (e:∀s' a,Sl Mo 1 No a s' (way++ [c])→s'.len≤s'.cap→Upd No h a→K s' a):AppP (some [.int .i64 0]) 1 8 lK s.a s.len s.cap 1 xs h K:=by
 subst hx;refine E8 (ys:= [c]) f rfl rfl rfl (by omega) (by omega) (by simp;omega) fun s' a b d=>e s' a (b.sl fun _ _ _ h=>h) b.cap d
def OnWay(x:Hs)(way:List Nat)(l:List Pr):Prop:=∀p∈l,∀i c,way[i]? =some c→ck x i p.1=c
theorem OnWay.part{x:Hs}{way:List Nat}{l:List Pr}{c:Nat}(o:OnWay x way l):OnWay x (way++ [c]) (part x way.length c l):=fun p a i d hd=>by
 have a:=kF.1 a;rcases bM i way.length with h|h
 ·rw[List.getElem?_append_left h]at hd;exact o p a.1 i d hd
 ·rw[List.getElem?_append_right h]at hd
  have:i-way.length=0:=by have:=(List.getElem?_eq_some_iff.1 hd).1;simp at this;omega
  rw[this]at hd;simp only[List.getElem?_cons_zero,Option.some.injEq]at hd;subst hd;rw[show i=way.length by omega];exact a.2
theorem KZ{W:Nat→Prop}{x:Hs}:∀(m:Nat),m≤13→∀{h:ad} {b:Nat} {l:List Pr} {sw:SliceV} {way:List Nat},TrieAt W x h m b l→Tab h→Sl Mo 1 No h sw way→sw.len≤sw.cap→way.length=13-m→OnWay x way l→cp l→l.length≤60000→∀{K:Int×Bool→ad→Prop},(∀V,Upd No h V→K ((l.length:Int),true) V)→
  HC PG kI [.agg #[.int .u64 x.k0,.int .u64 x.k1,.int .u64 x.mask],.pointer (some ⟨b,0,none⟩),.slice sw.a sw.len sw.cap] [.c (.int .i64),.c .bool] K h:=by
 intro m;induction m with
 |zero=>
  intro _ h b l sw way t tb hs hcp hw X hr hn K hk;refine uq (x.k0,x.k1,x.mask) (some ⟨b,0,none⟩) sw ?_;unfold qs fH af cG aE nv Ai vE su qz yU ui ld H1;refine aX fun h1 b1 k1=>aX fun h2 b2 k2=>aX fun h3 b3 Y=>aX fun h4 b4 M=>aX fun h5 b5 L=>?_
  have J:Upd No h h5:=(((k1.tr k2).tr Y).tr M).tr L;have c1:=L.get0 (M.get0 (Y.get0 (k2.get0 b1)));have c2:=L.get0 (M.get0 (Y.get0 b2));have c3:=L.get0 (M.get0 b3);have c4:=L.get0 b4;have s1:=k1.size;have s2:=k2.size;have s3:=Y.size;have s4:=M.size;have z3:=aF b3;have z4:=aF b4;have z5:=aF b5;obtain⟨sp,sk,ow,hb,hsp,_⟩:=(BuckAt.upd t J fun _ h=>h.elim:BuckAt W h5 b l).ex
  refine⟨_,xg c2,na hb hsp (by omega) fun s8 E ho8 z=>?_⟩
  refine⟨_,xg (z.get0 c2),f6 (z.get0 hb) (az.2 ?_)⟩;have d1:=z.get0 c1;have d3:=z.get0 c3;have d4:=z.get0 c4;have d5:=z.get0 b5;have s8':=z.size;have hs8:Sl iY 2 No E s8 l:=ho8.sl fun _ _ _ h=>h
  have hlen:=hs8.len;have hwl:=hs.len;have hs':Sl Mo 1 No E sw way:=(hs.upd J fun _ h=>h.elim).upd z fun _ h=>h.elim
  refine Join.plain ⟨sw,xg d3,?_⟩;rw[show((sw.len:Int) !=(13:Int))=false by rw[bne_eq_false_iff_eq];omega]
  refine ah.2 (Iz hs8 hr (by omega) (ah.2 ?_));refine LoopP.ghost (fun(i:Nat) (t:Int) V=>t=(i:Int)∧i≤l.length∧Upd No E V) (fun i=>l.length-i) 0 ⟨rfl,bp _,Upd.refl _ _⟩ ?_
  rintro I i t V ⟨rfl,hi,S⟩ hI;refine bj (fun O=>?_) fun hge=>?_
  ·have O:i<l.length:=by omega
   obtain⟨a,ha,_,hv⟩:=(hs8.upd S fun _ h=>h.elim).at (ag O)
   refine⟨⟨by omega,by omega⟩,a,ha,_,hv 0 _ rfl,_,hv 1 _ rfl,Kg (p:=l[i]) fun h9 b9 k9=>?_⟩
   have A:=S.tr k9;refine⟨_,vc (A.get0 d1) 0,_,vc (A.get0 d1) 1,_,vc (A.get0 d1) 2,_,vc b9 0,sw,xg (A.get0 d3),rv fun h10 k10=>⟨xg (k10.get0 (A.get0 d3)),?_⟩⟩
   refine Aq ((hs'.upd A fun _ h=>h.elim).upd k10 fun _ h=>h.elim) (by omega) (fun j c hj=>X _ (aW O) j c hj) (ah.2 ?_)
   rw[ep O (by omega)];exact hI (i+1) _ _ ⟨rfl,O,A.tr k10⟩ (by omega)
  ·have hil:i=l.length:=by omega
   subst hil;refine zG (S.get0 d4) (by simp) rfl fun h9 b9 A=>zG (A.oth (S.get0 d5) (by omega)) (by simp) rfl fun h10 b10 v=>?_
   refine⟨_,xg (v.oth b9 (by omega)),_,xg b10,?_⟩;have e:((s8.len:Nat):Int)=(l.length:Int):=by omega
   rw[e];exact hk _ ((((J.tr z).tr S).own A (by omega)).own v (by omega))
 |succ m ih=>
  intro hm h b l sw way t tb hs hcp hw X hr hn K hk;refine uq (x.k0,x.k1,x.mask) (some ⟨b,0,none⟩) sw ?_;unfold qs fH af cG aE nv Ai vE su qz yU ui ld H1;obtain⟨sl,nd,hs0⟩:=t;have N:∀c,c<32→SlotIs W x h m sl c (part x (12-m) c l):=hs0;refine aX fun h1 b1 k1=>aX fun h2 b2 k2=>aX fun h3 b3 Y=>aX fun h4 b4 M=>aX fun h5 b5 L=>?_
  have J:Upd No h h5:=(((k1.tr k2).tr Y).tr M).tr L;have c1:=L.get0 (M.get0 (Y.get0 (k2.get0 b1)));have c2:=L.get0 (M.get0 (Y.get0 b2));have c3:=L.get0 (M.get0 b3);have c4:=L.get0 b4;have s1:=k1.size;have s2:=k2.size;have s3:=Y.size;have s4:=M.size;have z1:=aF b1;have z2:=aF b2;have z3:=aF b3;have z4:=aF b4;have z5:=aF b5;obtain⟨d,n,sp,sk,ow,hb,bits,hsp,hsk,_⟩:=(nd.upd J fun _ h=>h.elim).ex
  have hfp:(fm sl.p 32).length≤32:=sO;refine⟨_,xg c2,na hb hsp (by omega) fun s8 E ho8 z=>?_⟩
  refine⟨_,xg (z.get0 c2),f6 (z.get0 hb) (ah.2 ⟨sw,xg (z.get0 c3),?_⟩)⟩;have k08:=J.tr z;have hl8:=ho8.len;rw[zd N]at hl8;have hwl:=hs.len;rw[decide_eq_false (by omega)];refine ah.2 (aX fun h9 b9 k9=>?_)
  have A:=z.tr k9;have s8':=z.size;have z9:=aF b9;refine zG b9 (by simp) rfl fun h10 b10 v=>?_
  have d1:=v.oth (A.get0 c1) (by omega);have d2:=v.oth (A.get0 c2) (by omega);have d3:=v.oth (A.get0 c3) (by omega);have d4:=v.oth (A.get0 c4) (by omega);have d5:=v.oth (A.get0 b5) (by omega);refine⟨sw,xg d3,sw,xg d3,sw,xg d3,⟨by omega,by omega⟩,⟨by omega,by omega⟩,?_⟩
  refine zG d3 (by simp) rfl fun H b11 B=>?_
  have s:Upd No h H:=((k08.tr k9).own v (by omega)).own B (by omega);have C:=B.oth d1 (by omega);have e2:=B.oth d2 (by omega);have e4:=B.oth d4 (by omega);have e5:=B.oth d5 (by omega);have e9:=B.oth b10 (by omega);have s11:=s.size;have s10a:=v.size;have s11a:=B.size;have G:Sl Mo 1 (fun y=>h.size≤y) H ⟨aK sw.a 0 ((sw.len:Int).toNat) 1,((sw.len:Int).toNat)-0,((sw.len:Int).toNat)-0⟩ way:=by
   have:=Sl.sub ((hs.less (W':=fun y=>h.size≤y) fun _ h=>.inr h).upd s fun _ h=>h.elim) (l:=0) (hi:=sw.len) (m:=sw.len) (c:=sw.len-0) (bp _) (by omega) (au _)
   rw[List.drop_zero,List.take_of_length_le (by omega)]at this;exact this
  have Z:(⟨aK sw.a 0 ((sw.len:Int).toNat) 1,((sw.len:Int).toNat)-0,((sw.len:Int).toNat)-0⟩:SliceV).cap=(⟨aK sw.a 0 ((sw.len:Int).toNat) 1,((sw.len:Int).toNat)-0,((sw.len:Int).toNat)-0⟩:SliceV).len:=rfl;have g:H[h2.size]? =some (.cells #[sv ⟨aK sw.a 0 ((sw.len:Int).toNat) 1,((sw.len:Int).toNat)-0,((sw.len:Int).toNat)-0⟩] Hi (0,0)):=b11;clear b11;generalize (⟨aK sw.a 0 ((sw.len:Int).toNat) 1,((sw.len:Int).toNat)-0,((sw.len:Int).toNat)-0⟩:SliceV)=s0 at G Z g
  obtain⟨d',n',sp',sk',ow',hb',P,_⟩:=(nd.upd s fun _ h=>h.elim).ex
  have tb11:=tb.upd s id;refine⟨_,xg e2,Dx hb' (qK d' (aX fun h12 b12 k12=>?_))⟩
  have s12:=k12.size;have z12:=aF b12;refine Cf (d:=d') P.d32 b12 (fun k V=>Upd No H V) No (fun k h1 hi=>tb11.upd hi id) k12 (fun k ha hb hi hle S=>hi.trans S fun y q=>.inr (by omega)) (fun _ h=>h.elim) (fun k c ha KK hi hkc hc hdc _ hK=>?_) fun k ha hi _ hde=>?_
  ·
   have hdc':=hdc;rw[P.dp c hc]at hdc';obtain⟨p,hp1,hp2⟩:=H8 (N c hc) hdc';refine⟨_,xg (hi.get0 e2),An (nd.upd (s.tr hi) fun _ h=>h.elim) hc fun hb kb=>?_⟩
   rw[hp2];have ib:=hi.tr kb;refine Kg (p:=p) fun hc' bc kc=>?_
   have F:=ib.tr kc;have hon:∀i c',(way++ [c])[i]? =some c'→ck x i p.1=c':=by
    have:=X.part (c:=c);rw[hw,show 13-(m+1)=12-m by omega,hp1]at this
    exact this p (List.mem_singleton.2 rfl)
   refine Join.intro (fun t hd=>t=false∧Upd No hc' hd) (fun R hR=>?_) ?_
   ·refine⟨_,vc (F.get0 C) 0,_,vc (F.get0 C) 1,_,vc (F.get0 C) 2,_,vc bc 0,s0,xg (F.get0 g),?_,?_⟩
    ·refine rv fun hd f=>⟨xg (f.get0 (F.get0 g)),aX fun he be T=>⟨xg (T.get0 (f.get0 (F.get0 g))),_,C0 be,?_⟩⟩
     refine CN (((G.upd F fun _ h=>h.elim).upd f fun _ h=>h.elim).upd T fun _ h=>h.elim) Z (by omega) rfl fun s' hf hsf _ kf=>?_
     exact Aq hsf (by simp;omega) hon (hR _ _ ⟨rfl,(f.tr T).tr kf⟩)
    ·refine aX fun hd bd f=>⟨xg (f.get0 (F.get0 g)),vc (f.get0 bc) 0,⟨vc (f.get0 (F.get0 C)) 0,vc (f.get0 (F.get0 C)) 1,vc (f.get0 (F.get0 C)) 2⟩,?_⟩
     refine rv fun he T=>⟨xg (T.get0 (f.get0 (F.get0 g))),_,C0 (T.get0 bd),?_⟩
     refine CN (((G.upd F fun _ h=>h.elim).upd f fun _ h=>h.elim).upd T fun _ h=>h.elim) Z (by omega) rfl fun s' hf hsf _ kf=>?_
     exact Aq hsf (by simp;omega) hon (hR _ _ ⟨rfl,(f.tr T).tr kf⟩)
   ·rintro t hd ⟨rfl,f⟩
    exact ah.2 (hK hd (F.tr f) ((kb.tr kc).tr f))
  ·
   obtain⟨d'',n'',sp'',sk'',ow'',hb'',u,_⟩:=(nd.upd (s.tr hi) fun _ h=>h.elim).ex
   refine⟨_,xg (hi.get0 e2),vV hb'' (qK n'' (aX fun h13 b13 k13=>?_))⟩
   have i13:=hi.tr k13;have s13:=k13.size;have z13:=aF b13;have sa:=hi.size;have zde:=aF hde;have hl8':s8.len=(eJ x (12-m) l).length:=hl8;have hall:=H6 x (12-m) l;have hfl:∀k,(fm (fun c=>fG (part x (12-m) c l)) k).flatten.length≤60000∨32<k:=fun k=>by
    rcases bM 32 k with h|h
    ·exact .inr h
    ·refine .inl ?_
     have:((fm (fun c=>fG (part x (12-m) c l)) k).flatten).length≤(jg x (12-m) l).flatten.length:=by
      unfold jg;have hj:∀j,∃r,fm (fun c=>fG (part x (12-m) c l)) (k+j)=fm (fun c=>fG (part x (12-m) c l)) k++r:=fun j=>by
       induction j with
       |zero=>exact⟨[],by simp⟩
       |succ j ihj=>obtain⟨r,hr⟩:=ihj;exact⟨r++(fG (part x (12-m) (k+j) l)).toList,by rw[←Nat.add_assoc,gS,hr,ak]⟩
      have this:=hj (32-k);rw[show k+(32-k)=32 by omega]at this
      obtain⟨r,hr⟩:=this;rw[hr,cQ,ae];omega
     omega
   refine Cf (d:=n'') u.n32 b13 (fun k V=>k≤32∧Upd (· =E.size) ha V∧V[E.size]? =some (.cells #[.int .i64 (((eJ x (12-m) l).length+(fm (fun c=>fG (part x (12-m) c l)) k).flatten.length:Nat):Int)] lK (0,0))) (· =E.size)
    (fun k hx q=>(tb11.upd hi id).upd q.2.1 fun e=>by have e:0=E.size:=e;omega) ⟨bp _,k13.wide,?_⟩ (fun k hx q hz hle S=>⟨hz.1,hz.2.1.trans S fun y q=>.inr (by omega),S.get hz.2.2 (by omega)⟩) (fun y q=>⟨by have q:y=E.size:=q;omega,by have q:y=E.size:=q;omega⟩) (fun k c hx KK q hkc hc hnc hno hK=>?_) fun k hx q hno hdx=>?_
   ·have:=i13.get0 e9
    rw[show((eJ x (12-m) l).length+(fm (fun c=>fG (part x (12-m) c l)) 0).flatten.length:Nat)=s8.len by rw[hl8'];simp[fm]]
    exact this
   ·obtain⟨hk32,w,Q⟩:=q
    have hnc':=hnc;rw[u.nk c hc]at hnc';obtain⟨h2l,kb,hkb,tk⟩:=H9 (N c hc) hnc';have D:∀{y:Nat} {o:Obj},H[y]? =some o→y≠E.size→hx[y]? =some o:=fun q hne=>w.get (hi.get0 q) hne
    have uW:Upd No h hx:=(s.tr hi).trans w fun y q=>.inr (by have q:y=E.size:=q;omega)
    refine⟨_,xg (D e2 (by omega)),Dg (nd.upd uW fun _ h=>h.elim) hc ?_⟩
    rw[hkb];have hmc:fG (part x (12-m) c l)=some (part x (12-m) c l):=by unfold fG;rw[if_pos h2l]
    have hskip:fm (fun c=>fG (part x (12-m) c l)) c=fm (fun c=>fG (part x (12-m) c l)) k:=Dq hkc fun j h1 h2=>by
     have:=hno j h1 h2;rw[u.nk j (by omega),(zU (N j (by omega))).2]at this;simpa using this
    have hnext:(fm (fun c=>fG (part x (12-m) c l)) (c+1)).flatten.length=(fm (fun c=>fG (part x (12-m) c l)) k).flatten.length+(part x (12-m) c l).length:=by
     rw[gS,hskip,hmc];simp
    have hpl:(part x (12-m) c l).length≤l.length:=lO;refine Join.intro (fun t hd=>t=(((part x (12-m) c l).length:Int),true)∧Upd No hx hd) (fun R hR=>?_) ?_
    ·refine⟨_,vc (D C (by omega)) 0,_,vc (D C (by omega)) 1,_,vc (D C (by omega)) 2,s0,xg (D g (by omega)),aX fun hd bd f=>?_⟩
     refine⟨xg (f.get0 (D g (by omega))),⟨vc (f.get0 (D C (by omega))) 0,vc (f.get0 (D C (by omega))) 1,vc (f.get0 (D C (by omega))) 2⟩,_,C0 bd,?_⟩;have hsx:Sl Mo 1 (fun y=>h.size≤y) hd s0 way:=((G.upd hi fun _ h=>h.elim).upd w fun y q=>.inl (by have q:y=E.size:=q;omega)).upd f fun _ h=>h.elim
     refine CN hsx Z (by omega) rfl fun s' he hse hce T=>?_
     have gE:=f.tr T;refine⟨⟨vc (gE.get0 (D C (by omega))) 0,vc (gE.get0 (D C (by omega))) 1,vc (gE.get0 (D C (by omega))) 2⟩,?_⟩;refine ih (by omega) (TrieAt.upd0 (uW.tr gE) tk) (tb.upd (uW.tr gE) id) hse hce (by simp;omega) ?_ (oD hr) (by omega) fun hf kf=>hR _ _ ⟨rfl,gE.tr kf⟩
     have:=X.part (c:=c);rw[hw,show 13-(m+1)=12-m by omega]at this
     exact this
    ·rintro t hd ⟨rfl,f⟩
     refine Join.plain (ah.2 ?_);rw[decide_eq_false (by simp only;omega)];refine ah.2 ⟨_,xg (f.get0 Q),?_⟩;have hf1:=(hfl k).resolve_right (by omega);have hS:(eJ x (12-m) l).length≤60000:=by omega
     refine zG (c':= #[.int .i64 (((eJ x (12-m) l).length+(fm (fun c=>fG (part x (12-m) c l)) (c+1)).flatten.length:Nat):Int)]) (f.get0 Q) (by simp) ?_ fun hf bf uf=>?_
     ·rw[hnext]
      have:IntKind.wrap .i64 ((((eJ x (12-m) l).length+(fm (fun c=>fG (part x (12-m) c l)) k).flatten.length:Nat):Int)+((part x (12-m) c l).length:Int))=(((eJ x (12-m) l).length+((fm (fun c=>fG (part x (12-m) c l)) k).flatten.length+(part x (12-m) c l).length):Nat):Int):=by rw[nA (by omega)];omega
      simp only[this];rfl
     ·exact hK hf ⟨hc,(w.tr f.wide).tr uf,bf⟩ (f.wide.tr uf)
   ·obtain⟨hk32,w,Q⟩:=q
    have D:∀{y:Nat} {o:Obj},H[y]? =some o→y≠E.size→hx[y]? =some o:=fun q hne=>w.get (hi.get0 q) hne
    have hkm:fm (fun c=>fG (part x (12-m) c l)) 32=fm (fun c=>fG (part x (12-m) c l)) k:=Dq hk32 fun j h1 h2=>by
     have:=hno j h1 h2;rw[u.nk j (by omega),(zU (N j (by omega))).2]at this;simpa using this
    have ev:((eJ x (12-m) l).length+(fm (fun c=>fG (part x (12-m) c l)) k).flatten.length:Nat)=l.length:=by rw[←hkm];exact hall
    rw[ev]at Q;have sx:=w.size;refine⟨_,xg Q,zG (D e4 (by omega)) (by simp) rfl fun hf bf uf=>zG (uf.oth (D e5 (by omega)) (by omega)) (by simp) rfl fun hg bg ug=>?_⟩
    have sf:=uf.size;have sg:=ug.size;have g2:=ug.oth (uf.oth hdx (by omega)) (by omega);have kh:Upd (· =h13.size) hg (hg.setIfInBounds h13.size (.deferred none)):=Upd.set _ _ rfl
    refine⟨g2,bK ?_⟩;generalize hg.setIfInBounds h13.size (.deferred none)=hh at kh;have g3:=kh.oth (ug.oth (uf.oth (w.get hde (by omega)) (by omega)) (by omega)) (by omega);have kj:Upd (· =h12.size) hh (hh.setIfInBounds h12.size (.deferred none)):=Upd.set _ _ rfl
    refine⟨g3,bK ?_⟩;generalize hh.setIfInBounds h12.size (.deferred none)=hj at kj;refine⟨_,xg (kj.oth (kh.oth (ug.oth bf (by omega)) (by omega)) (by omega)),_,xg (kj.oth (kh.oth bg (by omega)) (by omega)),?_⟩;refine hk hj ?_;refine(((((s.tr hi).trans w fun y q=>.inr ?_).own uf (by omega)).own ug (by omega)).own kh (by omega)).own kj (by omega)
    have q:y=E.size:=q;omega
end Go.Proofs
namespace Go.Proofs
open Go Go.Lift
theorem zZ{W:Nat→Prop}{h:ad}{b:Nat}{sl val:ByteArray}{has:Bool}{s:SliceV}{ow:Option Addr}{ks:List (Option Addr)}{F:Fo}(L:h[b]? =some (.cells (tB sl has val s ow) aU (0,0))) (v:Sl kC 1 W h s ks) (w:RxL W h ks F.toL) (hc:dW F) {K:Bool→ad→Prop} (T:K true h):HC PG iA [.pointer (some ⟨b,0,none⟩)] [.c .bool] K h:=by
 refine vp (some ⟨b,0,none⟩) ?_;unfold oY dC fH cG bL;refine⟨_,rfl,s,cF (i:=3) L,?_⟩;have u:=v.len;rw[w.1]at u;have S:=iE hc;have j:=dx.1 hc;refine LoopP.ghost (fun(i:Nat) (t:Int) J=>t=(i:Int)∧i≤F.toL.length∧J=h) (fun i=>F.toL.length-i) 0 ⟨rfl,bp _,rfl⟩ ?_
 rintro I i t J ⟨rfl,hi,rfl⟩ X;refine bj (fun e=>?_) fun _=>T
 have e:i<F.toL.length:=by omega
 obtain⟨kb,g,H,o,kv,N,ks',kk,n,_⟩:=w.at e;obtain⟨a,V,_,hv⟩:=v.at0 H;have k:g.data.toList≠[]:=by rw[o];exact(j.2 _ (aW e)).1
 have Z:(g.toList==(⟨#[]⟩:ByteArray).toList)=false:=by
  rw[beq_eq_false_iff_ne,ByteArray.toList_eq,ByteArray.toList_eq];exact k
 obtain⟨c,D,B⟩:=Az k;refine⟨⟨by omega,by omega⟩,a,V,_,hv,Join.intro (fun t M=>t=false∧M=J) (fun R P=>?_) ?_⟩
 ·refine⟨_,rfl,g,cF (i:=0) n,?_⟩
  rw[Z];refine ah.2 (bj (fun z=>?_) fun _=>P _ _ ⟨rfl,rfl⟩)
  have Q:0<i:=by have:(i:Int)>0:=z;omega
  have e1:IntKind.wrap .i64 ((i:Int)-1)=((i-1:Nat):Int):=by rw[nA (by omega)];omega
  rw[e1];have f:i-1<F.toL.length:=by omega
  obtain⟨jb,m,A,q,jv,O,Y,jk,E,_⟩:=w.at f;obtain⟨a',G,_,C⟩:=v.at0 A;have p:m.data.toList≠[]:=by rw[q];exact(j.2 _ (aW f)).1
  obtain⟨d,x,y⟩:=Az p;refine⟨_,rfl,s,cF (i:=3) L,⟨by omega,by omega⟩,a',G,_,C,_,rfl,m,cF (i:=0) E,d,by decide,x,_,rfl,g,cF (i:=0) n,c,by decide,D,P _ _ ⟨?_,rfl⟩⟩
  have:=cn.1 j.1 (i-1) i f e (by omega);rw[o]at B;rw[q]at y;exact decide_eq_false (by omega)
 ·rintro t M ⟨rfl,rfl⟩
  refine ah.2 ?_;rw[ep e (by omega)];exact X (i+1) _ _ ⟨rfl,e,rfl⟩ (by omega)
theorem CG{W:Nat→Prop}{h:ad}{s:SliceV}{ks:List (Option Addr)}{L:List Bn}{f:FuncId}(g:Sl kC 1 W h s ks)(j:RxL W h ks L)(x:L.length≤256)(p:∀i (hi:i<L.length) {b:Nat} {sl:ByteArray},RxN W h b sl L[i].2.1 L[i].2.2→∀{K:Bool→ad→Prop},K false h→HC PG f [.pointer (some ⟨b,0,none⟩)] [.c .bool] K h){K:Bool→ad→Prop}(n:K false h):
  HC PG bR [.slice s.a s.len s.cap,.func (.func f) #[] #[]] [.c .bool] K h:=by
 refine gr s _ ?_;unfold dH;refine gQ s _ ?_;unfold dZ dC fH;have d:=g.len;rw[j.1]at d;refine LoopP.ghost (fun(i:Nat) (t:Int) k=>t=(i:Int)∧i≤L.length∧k=h) (fun i=>L.length-i) 0 ⟨rfl,bp _,rfl⟩ ?_
 rintro I i t k ⟨rfl,hi,rfl⟩ q;refine bj (fun c=>?_) fun _=>n
 have c:i<L.length:=by omega
 obtain⟨w,m,e,u,v⟩:=j.at c;obtain⟨a,o,_,hv⟩:=g.at0 e;refine⟨⟨by omega,by omega⟩,a,o,_,hv,HV.mk' (p i c v (ah.2 ?_))⟩
 rw[ep c (by omega)];exact q (i+1) _ _ ⟨rfl,c,rfl⟩ (by omega)
def OV(n:Bn):Prop:=∀{W:Nat→Prop} {h:ad} {b:Nat} {sl:ByteArray},RxN W h b sl n.2.1 n.2.2→∀{K:Bool→ad→Prop},K true h→HC PG gU [.pointer (some ⟨b,0,none⟩)] [.c .bool] K h
theorem Nq{lab:List UInt8}{w:Option ByteArray}{F:Fo}(hc:dW F)(a:w.isSome∨2≤F.toL.length)(p:∀n∈F.toL,OV n):OV (lab,w,F):=by
 intro W h b sl r K m;simp only at r;obtain⟨val,s,ow,ks,d,hv,e,o,u⟩:=r;have f:=nX.1 u;have c:=e.len;rw[f.1]at c;refine tT (some ⟨b,0,none⟩) ?_;unfold nV bL ip;refine Join.intro (fun t j=>t=false∧j=h) (fun R k=>?_) ?_
 ·refine zZ d e f hc (ah.2 ⟨_,rfl,w.isSome,cF (i:=1) d,?_⟩)
  cases hwS:w.isSome with
  |true=>exact ah.2 (k _ _ ⟨rfl,rfl⟩)
  |false=>
   refine az.2 ⟨_,rfl,s,cF (i:=3) d,k _ _ ⟨decide_eq_false ?_,rfl⟩⟩;rw[hwS]at a;rcases a with a|a
   ·cases a
   ·omega
 ·rintro t j ⟨rfl,rfl⟩
  refine ah.2 ⟨_,rfl,s,cF (i:=3) d,CG e f (iE hc) (fun i hi b sl q v g=>?_) m⟩
  refine ss _ ?_;unfold mw;exact p _ (aW hi) q g
theorem DF:∀{F:Fo},dW F→∀n∈F.toL,OV n
 | .nil,_,n,a=>by simp[Fo.toL]at a
 | .cons lab w kids rest,h,n,a=>by
  rcases aq.1 a with rfl|a
  ·exact Nq h.2.2.1 h.2.1 (DF h.2.2.1)
  ·exact DF h.2.2.2.2 n a
theorem FQ{W:Nat→Prop}{h:ad}{b:Nat}{l:List Pr}(t:RadAt W h b l){K:Bool→ad→Prop}(f:K true h):HC PG qk [.pointer (some ⟨b,0,none⟩)] [.c .bool] K h:=by
 obtain⟨w,F,r,hc,_⟩:=t.ex;obtain⟨val,s,ow,ks,a,hv,d,g,k⟩:=r;have e:=nX.1 k;refine BF (some ⟨b,0,none⟩) ?_;unfold uA cG bL;refine az.2 ⟨_,rfl,_,cF (i:=0) a,?_⟩;rw[beq_self_eq_true];refine az.2 (zZ a d e hc (az.2 ⟨_,rfl,s,cF (i:=3) a,CG d e (iE hc) (fun i hi b sl j m c=>?_) f⟩))
 refine yZ _ ?_;unfold r7;exact DF hc _ (aW hi) j c
theorem H5{W:Nat→Prop}{x:Hs}{h:ad}{d:Int}{t:Tr}{l:List Pr}(i:TreeIs W h d x t l)(tb:Tab h)(j:cp l)(m:l.length≤60000){K:Bool→ad→Prop}(f:∀h',Upd No h h'→K true h'):HC PG lU [FB t] [.c .bool] K h:=by
 refine wF t ?_;unfold pM bo af cE aA vE yi qv;refine aX fun k b1 k1=>⟨_,vc b1 0,?_⟩
 rcases i with⟨_,b,rfl,t⟩|⟨_,b,rfl,t⟩
 ·refine ah.2 ⟨_,nO b1 1 0,_,nO b1 1 1,_,nO b1 1 2,_,vc b1 0,_,vc b1 1,_,vc b1 2,_,vc b1 3,_,vc b1 4,_,vc b1 5,?_⟩
  refine B1 (TrieAt.upd0 k1 t) fun s e=>⟨⟨nO (e.get0 b1) 1 0,nO (e.get0 b1) 1 1,nO (e.get0 b1) 1 2⟩,?_⟩
  refine BB (x.k0,x.k1,x.mask) _ ?_;unfold uw af Ai vE;refine aX fun q b3 n=>ah.2 ⟨_,vc b3 0,_,vc b3 1,_,vc b3 2,?_⟩
  have a:=(k1.tr e).tr n;refine KZ 13 (au _) (sw:=⟨none,0,0⟩) (way:= []) (TrieAt.upd0 a t) (tb.upd a id) (Sl.nil MZ) (au _) rfl (fun p _ i c hc=>by simp at hc) j m fun g o=>?_
  exact f g (a.tr o)
 ·refine az.2 ⟨_,vc b1 5,FQ (t.upd0 k1) (f k k1)⟩
end Go.Proofs
namespace Go.Proofs
open Go Go.Lift
end Go.Proofs
namespace Go.Proofs
open Go Go.Lift
theorem EA:∀F:Fo,(uQ F).length=(F.toL.map fun n=>(mq n.2.1 n.2.2).length).sum
 | .nil=>rfl
 | .cons lab w kids rest=>by
  rw[Iu,Fo.toL_cons,eI,m5,←EA rest,ae,fS];rfl
def Nx(n:Bn):Prop:=∀{W:Nat→Prop} {h:ad} {b:Nat} {sl:ByteArray},RxN W h b sl n.2.1 n.2.2→(mq n.2.1 n.2.2).length≤1000000000→∀{K:Int→ad→Prop},(∀h',Upd No h h'→K (((mq n.2.1 n.2.2).length:Nat):Int) h')→HC PG pz [.pointer (some ⟨b,0,none⟩)] [.c (.int .i64)] K h
theorem Hx{lab:List UInt8}{w:Option ByteArray}{F:Fo}(H:F.toL.length≤256)(L:∀n∈F.toL,Nx n):Nx (lab,w,F):=by
 intro W h b sl r O K B;simp only at r O B;refine Fe (some ⟨b,0,none⟩) ?_;unfold yM dC fH;have g:(mq w F).length=(w.map fun v=>(([]:List UInt8),v)).toList.length+(F.toL.map fun n=>(mq n.2.1 n.2.2).length).sum:=by
  rw[←EA,←ae];rfl
 refine Join.intro (fun t G=>t=(((w.map fun v=>(([]:List UInt8),v)).toList.length:Nat):Int)∧G=h) (fun R C=>?_) ?_
 ·refine FM r fun v _=>?_
  cases w with
  |none=>exact ah.2 (C _ _ ⟨rfl,rfl⟩)
  |some u=>exact az.2 (C _ _ ⟨rfl,rfl⟩)
 ·rintro t G ⟨rfl,rfl⟩
  generalize (w.map fun v=>(([]:List UInt8),v)).toList.length=c0 at g
  refine Ig r H fun s1 s ks o f k1=>?_
  have d:Sl kC 1 No s s1 ks:=o.sl fun _ _ _ h=>h
  have j:=d.len;rw[f.1]at j;refine LoopP.ghost (fun(i:Nat) (t:Int×Int) m=>t.1=((c0+((F.toL.take i).map fun n=>(mq n.2.1 n.2.2).length).sum:Nat):Int)∧t.2=(i:Int)∧i≤F.toL.length∧Upd No s m) (fun i=>F.toL.length-i) 0 ⟨by simp,rfl,bp _,Upd.refl _ _⟩ ?_
  rintro I i ⟨T,ti⟩ m ⟨D,E,hi,k⟩ M;simp only at D E;subst D E;have z:∀i,((F.toL.take i).map fun n=>(mq n.2.1 n.2.2).length).sum≤(F.toL.map fun n=>(mq n.2.1 n.2.2).length).sum:=fun i=>by
   conv=>rhs;rw[←bF i F.toL,dG,gz]
   omega
  refine bj (fun c=>?_) fun p=>?_
  ·have c:i<F.toL.length:=by have:(i:Int)<(s1.len:Int):=c;omega
   obtain⟨N,P,A,_,y⟩:=(f.upd0 k).at c;obtain⟨a,J,_,hv⟩:=(d.upd k fun _ h=>h.elim).at0 A
   refine⟨⟨by simp only;omega,by simp only;omega⟩,a,J,some ⟨N,0,none⟩,hv,?_⟩
   have Q:((F.toL.take (i+1)).map fun n=>(mq n.2.1 n.2.2).length).sum=((F.toL.take i).map fun n=>(mq n.2.1 n.2.2).length).sum+(mq F.toL[i].2.1 F.toL[i].2.2).length:=by
    rw[cK c,dG,gz];simp
   have s:=z (i+1);refine L _ (aW c) y (by omega) fun S x=>?_
   rw[ep c (by omega)];have e:IntKind.wrap .i64 (((c0+((F.toL.take i).map fun n=>(mq n.2.1 n.2.2).length).sum:Nat):Int)+((mq F.toL[i].2.1 F.toL[i].2.2).length:Int))=((c0+((F.toL.take (i+1)).map fun n=>(mq n.2.1 n.2.2).length).sum:Nat):Int):=by
    rw[nA (by omega)];omega
   rw[e];exact M (i+1) _ _ ⟨rfl,rfl,c,k.tr x⟩ (by omega)
  ·have q:i=F.toL.length:=by have:¬(i:Int)<(s1.len:Int):=p;omega
   subst q;rw[cV,←g];exact B m (k1.tr k)
theorem Ap:∀{F:Fo},dW F→∀n∈F.toL,Nx n
 | .nil,_,n,a=>by simp[Fo.toL]at a
 | .cons lab w kids rest,h,n,a=>by
  rcases aq.1 a with rfl|a
  ·exact Hx (iE h.2.2.1) (Ap h.2.2.1)
  ·exact Ap h.2.2.2.2 n a
theorem JK{W:Nat→Prop}{x:Hs}{h:ad}{t:Tr}{l:List Pr}(i:TreeIs W h 1 x t l)(d:cp l)(p:l.length≤60000){K:Int→ad→Prop}(j:∀h',Upd No h h'→K (l.length:Int) h'):HC PG iM [FB t] [.c (.int .i64)] K h:=by
 refine rX t ?_;unfold nH bo aA qv;rcases i with⟨e,_⟩|⟨_,b,rfl,t⟩
 ·cases e
 refine aX fun o b1 k1=>⟨_,vc b1 0,az.2 ⟨_,vc b1 5,?_⟩⟩
 obtain⟨w,F,n,c,g⟩:=(t.upd0 k1).ex;have f:=Hm c d g;have a:=congrArg List.length f;unfold H2 at a;rw[fS]at a;refine Hx (lab:= []) (iE c) (Ap c) n (by simp only;omega) fun m k=>?_
 simp only;rw[a];exact j m (k1.tr k)
end Go.Proofs
namespace Go.Proofs
open Go Go.Lift
end Go.Proofs
namespace Go.Proofs
open Go Go.Lift
abbrev Rt:=Int×Int×Int×Int×SliceV
abbrev FS(r:Rt):List Value:= [.int .i64 r.1,.int .u64 r.2.1,.int .u64 r.2.2.1,.int .u64 r.2.2.2.1,.slice r.2.2.2.2.a r.2.2.2.2.len r.2.2.2.2.cap]
abbrev Oe:Rt:=(0,0,0,0,⟨none,0,0⟩)
def hx(a v:Int):Int:=if a=0 then v else 0
def RefIs(W:Nat→Prop)(h:ad)(a:Int)(x:Hs)(r:Rt)(l:List Pr):Prop:=∃s,r=(a,hx a x.k0,hx a x.k1,hx a x.mask,s)∧Sl iY 2 W h s l∧s.len≤s.cap
theorem RefIs.upd0{W:Nat→Prop}{h b:ad}{a:Int}{x:Hs}{r:Rt}{l:List Pr}(k:Upd No h b)(i:RefIs W h a x r l):RefIs W b a x r l:=
 let⟨s,e,c⟩:=i;⟨s,e,c.1.upd k fun _ h=>h.elim,c.2⟩
theorem RefIs.less{W W':Nat→Prop}{h:ad}(hm:∀b,W' b→W b∨h.size≤b){a:Int}{x:Hs}{r:Rt}{l:List Pr}(i:RefIs W h a x r l):RefIs W' h a x r l:=
 let⟨s,e,c⟩:=i;⟨s,e,c.1.less hm,c.2⟩
theorem RefIs.updM{W M:Nat→Prop}{h c:ad}(k:Upd M h c)(hm:∀b,M b→W b∨h.size≤b){a:Int}{x:Hs}{r:Rt}{l:List Pr}(i:RefIs W h a x r l):RefIs W c a x r l:=
 let⟨s,e,d⟩:=i;⟨s,e,d.1.upd k hm,d.2⟩
theorem LK{W:Nat→Prop}{x:Hs}{h:ad}{a:Int}(g:a=0∨a=1){K:Rt×Int→ad→Prop}(i:∀h' r,RefIs W h' a x r []→Upd No h h'→K (r,0) h'):HC PG xB [.int .i64 a,.agg #[.int .u64 x.k0,.int .u64 x.k1,.int .u64 x.mask]] [.agg [.int .i64,.int .u64,.int .u64,.int .u64,.slice],.c (.int .i64)] K h:=by
 refine Jd a (x.k0,x.k1,x.mask) ?_;unfold CI bo af gC Ai sH NC;refine aX fun k b1 k1=>aX fun m b2 j=>?_
 have c1:=j.get0 b1;have s1:=k1.size;have e:=k1.tr j;rcases g with rfl|rfl
 ·refine az.2 ⟨_,vc c1 0,_,vc c1 1,_,vc c1 2,?_⟩
  refine fc (c:=FS Oe) (vs:=FS (0,x.k0,x.k1,x.mask,⟨none,0,0⟩)) b2 rfl fun f b d=>?_
  exact⟨_,vc b 0,_,vc b 1,_,vc b 2,_,vc b 3,⟨none,0,0⟩,vc b 4,i f (0,x.k0,x.k1,x.mask,⟨none,0,0⟩) ⟨_,rfl,Sl.nil jy,au _⟩ (e.own d s1)⟩
 ·refine ah.2 (az.2 ?_)
  refine fc (c:=FS Oe) (vs:=FS (1,0,0,0,⟨none,0,0⟩)) b2 rfl fun f b d=>?_
  exact⟨_,vc b 0,_,vc b 1,_,vc b 2,_,vc b 3,⟨none,0,0⟩,vc b 4,i f (1,0,0,0,⟨none,0,0⟩) ⟨_,rfl,Sl.nil jy,au _⟩ (e.own d s1)⟩
def um(s:ByteArray):ByteArray:=s.extract 0 (min s.size 30)
theorem AN(s:ByteArray):(um s).size≤30:=by unfold um;rw[mo];omega
end Go.Proofs
namespace Go.Proofs
open Go Go.Lift
end Go.Proofs
namespace Go.Proofs
open Go Go.Lift
end Go.Proofs
namespace Go.Proofs
open Go.Lift
abbrev Ch:=ByteArray×ByteArray×ByteArray×Bool×Bool
end Go.Proofs
namespace Go.Proofs
open Go Go.Lift
end Go.Proofs
namespace Go.Proofs
open Go Go.Lift
theorem Ga{h:ad}{b:Nat}{c:Array Value}{t:TypeId}(a:h[b]? =some (.cells c t (0,0))) (hc:0<c.size):du h ⟨b,0,none⟩:=⟨c,t,a,hc⟩
theorem TrieAt.plain{W:Nat→Prop}{x:Hs}{h:ad}:∀{m b:Nat} {l:List Pr},TrieAt W x h m b l→du h ⟨b,0,none⟩
 |0,_,_,t=>by obtain⟨_,_,_,a,_⟩:=BuckAt.ex t;exact Ga a (by simp[eg])
 |m+1,_,_,⟨s,nd,_⟩=>by obtain⟨_,_,_,_,_,a,_⟩:=nd.ex;exact Ga a (by simp[eg])
end Go.Proofs
namespace Go.Proofs
open Go Go.Lift
end Go.Proofs
namespace Go.Proofs
open Go Go.Lift
theorem RxN.plain{W:Nat→Prop}{h:ad}{b:Nat}{sl:ByteArray}{w:Option ByteArray}{F:Fo}(r:RxN W h b sl w F):du h ⟨b,0,none⟩:=by
 obtain⟨val,s,ow,ks,a,_⟩:=r;exact Ga a (by simp[tB])
end Go.Proofs
namespace Go.Proofs
open Go Go.Lift
end Go.Proofs
namespace Go.Proofs
open Go Go.Lift
end Go.Proofs
namespace Go.Proofs
open Go Go.Lift
end Go.Proofs
namespace Go.Proofs
open Go Go.Lift
end Go.Proofs
namespace Go.Proofs
open Go Go.Lift
theorem NW{h:ad}{r:Rt}{k:ad→Prop}(d:∀h',h'[h.size]? =some (.cells (FS r).toArray gN (0,0))→Upd No h h'→k h'):
  At (hnew h (FS Oe) gN) (fun a=>rc a (some (aC h)) 0 (FS r)∧At (gd a (aC h) 0 (FS r)) k):=
 aX fun a b1 k1=>fc (c:=FS Oe) (vs:=FS r) b1 rfl fun e b2 b=>d e b2 (k1.own b (au _))
end Go.Proofs
namespace Go.Proofs
open Go Go.Lift
end Go.Proofs
namespace Go.Proofs
open Go Go.Lift
abbrev b1:ByteArray:=⟨#[49]⟩
abbrev b2:ByteArray:=⟨#[50]⟩
abbrev b3:ByteArray:=⟨#[51]⟩
end Go.Proofs
namespace Go.Proofs
open Go Go.Lift
def look(l:List Pr)(k:ByteArray):Option ByteArray:=(l.find? fun p=>decide (p.1=k)).map (·.2)
end Go.Proofs
namespace Go.Proofs
open Go Go.Lift
end Go.Proofs
namespace Go.Proofs
open Go Go.Lift
def MQ(c:Ch):Bool:=(!((!c.2.2.2.1&& !c.2.2.2.2)||(c.2.2.2.1&&(c.2.2.2.2&&decide (c.2.1=c.2.2.1)))))&&((c.2.2.2.1||decide (c.2.1=⟨#[]⟩))&&(c.2.2.2.2||decide (c.2.2.1=⟨#[]⟩)))
def one(c:Ch):Option Ch:=if MQ c then some c else none
end Go.Proofs
namespace Go.Proofs
open Go Go.Lift
end Go.Proofs
namespace Go.Proofs
open Go Go.Lift
end Go.Proofs
namespace Go.Proofs
open Go Go.Lift
end Go.Proofs
namespace Go.Proofs
open Go Go.Lift
theorem FC(t:Tr):(gm t).length=6∧0<6:=⟨rfl,by omega⟩
theorem MP(r:Rt):(FS r).length=5∧0<5:=⟨rfl,by omega⟩
end Go.Proofs
namespace Go.Proofs
open Go Go.Lift
theorem JL(x:Hs)(lev:Nat)(l:List Pr):(eJ x lev l).length+(jg x lev l).flatten.length=l.length:=by
 have h:=ou x lev l 32;have d:(l.filter fun p=>decide (ck x lev p.1<32))=l:=gV.2 fun p _=>decide_eq_true (ww ..)
 rw[d]at h;have:∀n,(fm (fun c=>mC (part x lev c l)) n).length+(fm (fun c=>fG (part x lev c l)) n).flatten.length=((bX n).map fun c=>(part x lev c l).length).sum:=by
  intro n;induction n with
  |zero=>simp[fm]
  |succ n ih=>
   rw[gS,gS,eZ,dG,gz];simp only[ae,cQ,eI,mh,m5,rL,dL];generalize part x lev n l=q;have:(mC q).toList.length+(fG q).toList.flatten.length=q.length:=by
    match q with
    | []=>simp[mC,fG]
    | [a]=>simp[mC,fG]
    |a::b::q=>simp[mC,fG]
   omega
 have:=this 32;unfold eJ jg;omega
theorem Gm{W:Nat→Prop}{x:Hs}{h:ad}{m:Nat}{ks:List (Option Addr)}:∀{ls:List (List Pr)},KidsAt W x h m ks ls→ks.length=ls.length∧∀i (hi:i<ls.length),∃b,ks[i]? =some (some ⟨b,0,none⟩)∧TrieAt W x h m b ls[i]:=by
 induction ks with
 |nil=>intro ls;cases ls with
  |nil=>intro _;exact⟨rfl,fun i hi=>absurd hi (kV _)⟩
  |cons a ls=>intro h;exact h.elim
 |cons k ks ihk=>intro ls;cases ls with
  |nil=>intro h;exact h.elim
  |cons a ls=>
   rintro⟨⟨b,rfl,tk⟩,h⟩;obtain⟨e,c⟩:=ihk h;refine⟨by simp[e],fun i hi=>?_⟩
   cases i with
   |zero=>exact⟨b,rfl,tk⟩
   |succ i=>simp only[List.getElem?_cons_succ,List.getElem_cons_succ];exact c i (by simpa using hi)
theorem LU{x:Hs}{W:Nat→Prop}:∀(m:Nat),m≤13→∀{b:Nat} {l:List Pr} {h:ad},TrieAt W x h m b l→l.length≤60000→∀{K:Int→ad→Prop},(∀j,Upd No h j→K (l.length:Int) j)→HC PG pC [.pointer (some ⟨b,0,none⟩)] [.c (.int .i64)] K h:=by
 intro m;induction m with
 |zero=>
  intro _ b l h t T K E;refine yI _ ?_;unfold tq dC fH;have bk:∀{j},Upd No h j→BuckAt W j b l:=fun k=>BuckAt.upd t k fun _ h=>h.elim
  obtain⟨sp,sk,ow,v,p,hsk,_⟩:=(bk (Upd.refl No h)).ex;refine na v p (by omega) fun s1 h1 q k1=>?_
  obtain⟨F,R,G,u,X,o,_⟩:=(bk k1).ex;refine Dk u o (by simp) fun s2 w s C=>?_
  have D:=s.len;rw[List.length_nil]at D;refine LoopP.ghost (fun(_:Unit) (t:Int×Int) j=>t=((s1.len:Int),0)∧j=w) (fun _=>0) () ⟨rfl,rfl⟩ ?_
  rintro I _ t A ⟨rfl,e⟩ Y;rw[e];refine bj (fun f=>absurd f (by simp only;omega)) fun _=>?_
  simp only;rw[q.len];exact E w (k1.tr C)
 |succ m ih=>
  intro hm b l h t T K E;refine yI _ ?_;unfold tq dC fH;obtain⟨sl,nd,Q⟩:=t;have S:∀c,c<32→SlotIs W x h m sl c (part x (12-m) c l):=Q;have hd:∀{j},Upd No h j→∃d n sp sk ow,j[b]? =some (.cells (eg d n sp sk false ow) bm (0,0))∧Sl iY 2 W j sp (eJ x (12-m) l)∧Sl ny 1 W j sk (fm sl.k 32):=fun{j} k=>by
   obtain⟨d,n,sp,sk,ow,v,bits,A,Z,_⟩:=(nd.upd k fun _ h=>h.elim).ex
   refine⟨d,n,sp,sk,ow,v,?_,Z⟩;rw[←zd S];exact A
  have O:KidsAt W x h m (fm sl.k 32) (jg x (12-m) l):=Gn 32 S;have z:∀L∈jg x (12-m) l,L.length≤60000:=fun L hL=>by
   obtain⟨_,c,rfl⟩:=ox hL;exact bB lO T
  have H:=JL x (12-m) l;obtain⟨P,y⟩:=Gm O;generalize eJ x (12-m) l=So at hd H;generalize jg x (12-m) l=Ma at z H P y;obtain⟨d,n,sp,sk,ow,v,p,_⟩:=hd (Upd.refl No h);refine na v p (by omega) fun s1 h1 q k1=>?_
  obtain⟨d1,n1,F,R,G,u,_,o⟩:=hd k1;have V:=sO (g:=sl.k);refine Dk u o (by omega) fun s2 w s C=>?_
  have S2:Sl ny 1 No w s2 (fm sl.k 32):=s.sl fun _ _ _ h=>h
  have hlk:=S2.len;refine LoopP.ghost (fun(i:Nat) (t:Int×Int) j=>t.1=((So.length+(Ma.take i).flatten.length:Nat):Int)∧t.2=(i:Int)∧i≤Ma.length∧Upd No w j) (fun i=>Ma.length-i) 0 ⟨by rw[q.len];simp,rfl,bp _,Upd.refl _ _⟩ ?_
  rintro I i ⟨tn,ti⟩ A ⟨e1,D,hi,B⟩ Y;simp only at e1 D;subst e1 D;refine bj (fun f=>?_) fun J=>?_
  ·have f:i<Ma.length:=by simp only at f;omega
   obtain⟨kb,N,tk⟩:=y i f;obtain⟨a,ha,_,hv⟩:=(S2.upd B fun _ h=>h.elim).at0 N
   refine⟨⟨by simp only;omega,by simp only;omega⟩,a,ha,some ⟨kb,0,none⟩,hv,?_⟩
   have p:(Ma.take i).flatten.length+Ma[i].length≤Ma.flatten.length:=by
    have e:Ma=Ma.take i++Ma[i]::Ma.drop (i+1):=by rw[List.getElem_cons_drop,bF]
    have:=congrArg (fun L=>(List.flatten L).length) e
    simp only[cQ,dU,ae]at this;omega
   refine ih (by omega) (TrieAt.upd0 ((k1.tr C).tr B) tk) (z _ (aW f)) fun Z k4=>?_
   simp only;rw[ep f (by omega),nA (by omega)];refine Y (i+1) _ _ ⟨?_,rfl,f,B.tr k4⟩ (by omega);rw[cK f,cQ];simp only[dU,List.flatten_nil,bV,ae];omega
  ·have M:i=Ma.length:=by simp only at J;omega
   subst M;simp only;rw[cV,H];exact E A ((k1.tr C).tr B)
theorem Hk{W:Nat→Prop}{x:Hs}{h:ad}{a:Int}{t:Tr}{l:List Pr}(i:TreeIs W h a x t l)(f:cp l)(e:l.length≤60000){K:Int→ad→Prop}(d:∀h',Upd No h h'→K (l.length:Int) h'):HC PG iM [FB t] [.c (.int .i64)] K h:=by
 rcases i with⟨rfl,b,rfl,c⟩|⟨rfl,b,rfl,c⟩
 ·refine rX _ ?_
  unfold nH bo aA qv;refine aX fun k b1 k1=>⟨_,vc b1 0,ah.2 ⟨_,vc b1 4,?_⟩⟩
  exact LU 13 (au _) (TrieAt.upd0 k1 c) e fun j g=>d j (k1.tr g)
 ·exact JK (x:=x) (.inr ⟨rfl,b,rfl,c⟩) f e d
end Go.Proofs
namespace Go.Proofs
open Go Go.Lift
end Go.Proofs
namespace Go.Proofs
open Go Go.Lift
def byN(s:ByteArray)(i:Nat):Nat:=if h:i<s.size then(s[i]'h).toNat else 0
def hv(s:ByteArray):Nat→Nat→Nat
 |_,0=>0
 |p,c+1=>hv s (p+1) c*256+byN s p
end Go.Proofs
namespace Go.Proofs
open Go Go.Lift
end Go.Proofs
namespace Go.Proofs
open Go Go.Lift
section
variable {bu:Bool} {s:SliceV} {q q':Nat→List Pr} {kk kk':Nat→Option Addr} {i:Nat}
end
end Go.Proofs
namespace Go.Proofs
open Go Go.Lift
end Go.Proofs
namespace Go.Proofs
open Go Go.Lift
end Go.Proofs
namespace Go.Proofs
open Go Go.Lift
end Go.Proofs
namespace Go.Proofs
open Go Go.Lift
end Go.Proofs
namespace Go.Proofs
open Go Go.Lift
end Go.Proofs
namespace Go.Proofs
open Go Go.Lift
end Go.Proofs
namespace Go.Proofs
open Go Go.Lift
theorem Jv{l:List Pr}{p:Pr}{n:Nat}(b:cp l)(c:Fit l)(e:l.length≤n)(d:p.1.size≤5030∧p.2.size≤5030):cp (oy l p)∧Fit (oy l p)∧(oy l p).length≤n+1:=by
 unfold oy;split
 ·refine⟨xp p b,fun q a=>?_,bB (Cr p) (by omega)⟩
  rcases vX a with rfl|a
  ·exact⟨by omega,by omega⟩
  ·exact c q a
 ·exact⟨b,c,by omega⟩
theorem Kp{l:List Pr}{k:ByteArray}{n:Nat}(a:cp l)(b:Fit l)(d:l.length≤n):cp (oK l k)∧Fit (oK l k)∧(oK l k).length≤n+1:=by
 unfold oK;split
 ·exact⟨a,b,by omega⟩
 ·exact⟨Cb a,fun q c=>b q (zl.1 c).1,bB KT (by omega)⟩
end Go.Proofs
