/- A part of the proof that the named laws of this program answer true, whatever the input. -/
import Derived.Test.YtajpljopgikpgaaGreatDoorPart6
import Derived.Test.YtajpljopgikpgaaGreatDoorPart2
import Derived.Test.YtajpljopgikpgaaGreatDoorPart0
import Derived.Test.YtajpljopgikpgaaGreatDoorPart4
import Derived.Test.YtajpljopgikpgaaGreatDoorPart3
open Array renaming size→bJ
open BitVec renaming ofInt→ai,ofInt_natCast→fF
open ByteArray renaming size_extract→mo
open List renaming length_append→ae,size_toArray→cz,append_nil→bV,flatMap_append→bv,flatMap_cons→aL,append_assoc→ak,getElem?_eq_getElem→ag,pairwise_iff_getElem→cn,filter_eq_self→gV,range→bX,range_succ→eZ,map_append→dG,sum_append→gz,flatten_append→cQ,map_cons→eI,map_nil→mh,sum_cons→m5,sum_nil→rL,getElem_mem→aW,mem_cons→aq,length_map→fS,take_append_drop→bF,take_succ_eq_append_getElem→cK,take_length→cV,flatten_cons→dU
open Nat renaming le_refl→au,zero_add→aD,add_zero→dL,testBit_zero→hO,not_lt_zero→kV,testBit_succ→ft,zero_testBit→eA,eq_of_testBit_eq→fB,testBit_and→fR,mod_eq_of_lt→dK,zero_le→bp,lt_or_ge→bM,le_trans→bB
namespace Go.Proofs
open Go Go.Lift
theorem Kid.less{W W':Nat→Prop}{h:ad}(hm:∀b,W' b→W b∨h.size≤b){a:Option Addr}{n:Bn}:Kid W h a n→Kid W' h a n
 |⟨b,sl,e1,e2,e3⟩=>⟨b,sl,e1,e2,e3.less hm⟩
theorem Kid.updM{W M:Nat→Prop}{h c:ad}(k:Upd M h c)(hm:∀b,M b→W b∨h.size≤b){a:Option Addr}{n:Bn}:Kid W h a n→Kid W c a n
 |⟨b,sl,e1,e2,e3⟩=>⟨b,sl,e1,e2,e3.updM k hm⟩
theorem RxL.less{W W':Nat→Prop}{h:ad}(hm:∀b,W' b→W b∨h.size≤b){ks:List (Option Addr)}{L:List Bn}(r:RxL W h ks L):RxL W' h ks L:=⟨r.1,fun p a=>(r.2 p a).less hm⟩
theorem RxL.updM{W M:Nat→Prop}{h a:ad}(k:Upd M h a)(hm:∀b,M b→W b∨h.size≤b){ks:List (Option Addr)}{L:List Bn}(r:RxL W h ks L):RxL W a ks L:=⟨r.1,fun p c=>(r.2 p c).updM k hm⟩
end Go.Proofs
namespace Go.Proofs
open Go Go.Lift
theorem uT{h:ad}{t:Tr}{k:ad→Prop}(d:∀h',h'[h.size]? =some (.cells (gm t).toArray ax (0,0))→Upd No h h'→k h'):
  At (hnew h (gm zJ) ax) (fun a=>rc a (some (aC h)) 0 (gm t)∧At (gd a (aC h) 0 (gm t)) k):=
 aX fun a b1 k1=>fc (c:=gm zJ) (vs:=gm t) b1 rfl fun e b2 b=>d e b2 (k1.own b (au _))
end Go.Proofs
namespace Go.Proofs
open Go Go.Lift
theorem LF{h:ad}{b n:Nat}{t:TypeId}{c d vs:List Value}(a:h[b]? =some (.cells (c++d).toArray t (0,0))) (g:c.length=n) (i:vs.length=d.length) {k:ad→Prop}
  (f:∀h',h'[b]? =some (.cells (c++vs).toArray t (0,0))→Upd (· =b) h h'→k h'):rc h (some (adr ⟨b,0,none⟩ n)) 0 vs∧At (gd h (adr ⟨b,0,none⟩ n) 0 vs) k:=by
 rw[bG,aD];have e:=gw vs h 0 n (c++d) a (by rw[ae];omega);refine⟨.inr ⟨_,rfl,fun j m=>by rw[bG];exact gM a (by rw[cz,ae];omega)⟩,bK ?_⟩
 rw[e];refine f _ ?_ (Upd.set h _ rfl);rw[ix a];congr 3
 subst g;rw[dL,List.take_left,List.drop_eq_nil_of_le (by rw[ae];omega),bV]
abbrev edL(pb tb:Nat)(t:Tr):List Value:= [.pointer (some ⟨pb,0,none⟩),.pointer (some ⟨tb,0,none⟩)]++gm t
def EdAt(h:ad)(eb pb tb:Nat)(t:Tr):Prop:=h[eb]? =some (.cells (edL pb tb t).toArray yl (0,0))
theorem Ki{h:ad}{tb pb:Nat}{ti:Int}{a:Bool}(k:TokAt h tb pb ti a){K:Bool→ad→Prop}(b:K a h):HC PG dD [.pointer (some ⟨tb,0,none⟩)] [.c .bool] K h:=by
 refine wa k.by_ ?_;cases a<;>exact b
theorem EZ{h:ad}{eb pb tb:Nat}{t:Tr}{ti:Int}{a:Bool}(e:EdAt h eb pb tb t)(k:TokAt h tb pb ti a){K:Bool→ad→Prop}(b:K (!a) h):HC PG lq [.pointer (some ⟨eb,0,none⟩)] [.c .bool] K h:=by
 refine vy _ ?_;unfold pa eK;exact az.2 ⟨_,rfl,_,vc e 1,Ki k b⟩
theorem tH{h:ad}{eb pb tb:Nat}{t:Tr}{ti:Int}{a:Bool}(e:EdAt h eb pb tb t)(k:TokAt h tb pb ti a){K:Int→ad→Prop}(b:K (if a then 0 else 5) h):HC PG hJ [.pointer (some ⟨eb,0,none⟩)] [.c (.int .i64)] K h:=by
 refine xZ _ ?_;unfold qW;refine ah.2 (EZ e k ?_);cases a
 ·exact az.2 b
 ·exact ah.2 b
theorem EdAt.upd{M:Nat→Prop}{h a:ad}{eb pb tb:Nat}{t:Tr}(e:EdAt h eb pb tb t)(k:Upd M h a)(hm:¬M eb):EdAt a eb pb tb t:=k.get e hm
theorem TokAt.upd{M:Nat→Prop}{h b:ad}{tb pb:Nat}{ti:Int}{a:Bool}(e:TokAt h tb pb ti a)(k:Upd M h b)(hm:¬M tb):TokAt b tb pb ti a:=k.get e hm
theorem HV.mono{P:Program}{V:Value}{args:List Value}{ks:List Kind}{K a:qI ks→ad→Prop}{h:ad}{f:FuncId}{cap:Array Value}(e:V=.func (.func f) #[] cap)(hc:HC P f (args++cap.toList) ks K h)(b:∀t h',K t h'→a t h'):HV P V args ks a h:=by
 subst e;exact HV.mk' (by simpa using hc.mono b)
abbrev JC:List Kind:= [.agg [.int .i64,.int .u64,.int .u64,.int .u64,.ptr,.ptr],.c (.int .i64)]
theorem yD{h:ad}{eb pb tb:Nat}{tu:Tr}{f:FuncId}{cap:Array Value}(e:EdAt h eb pb tb tu){K:Int→ad→Prop}
  (hc:HC PG f ([.pointer (some ⟨tb,0,none⟩)]++cap.toList) JC (fun(z:Tr×Int) n=>EdAt n eb pb tb tu∧∀i,Upd No n i→((z.2=0→∀h',EdAt h' eb pb tb z.1→Upd (· =eb) i h'→K 0 h')∧(z.2≠0→K z.2 i))) h):HC PG iB [.pointer (some ⟨eb,0,none⟩),.func (.func f) #[] cap] [.c (.int .i64)] K h:=by
 refine vx _ _ ?_;unfold o9 bo af eK aA nv rd vI qv M0 Lq;refine⟨_,rfl,_,vc e 1,HV.mono rfl hc fun(z:Tr×Int) n hz=>?_⟩
 obtain⟨s,hz⟩:=hz;refine aX fun i t u=>fc (c:=gm zJ) (vs:=gm z.1) t rfl fun q b k=>?_
 have g:=u.own k (au _);obtain⟨o,j⟩:=hz q g;refine CondP.intro (fun a=>?_) fun a=>?_
 ·have a:z.2=0:=by simpa using a
  refine⟨_,vc b 0,_,vc b 1,_,vc b 2,_,vc b 3,_,vc b 4,_,vc b 5,_,rfl,?_⟩;refine LF (c:= [.pointer (some ⟨pb,0,none⟩),.pointer (some ⟨tb,0,none⟩)]) (d:=gm tu) (vs:=gm z.1) (s.upd g id) rfl rfl fun v p m=>?_
  rw[a];exact o a v p m
 ·exact j (by simpa using a)
structure EdO(W S:Nat→Prop)(h:ad)(eb pb tb:Nat)(ti:Int)(kind:Int)(x:Hs)(tu:Tr)(lu:List Pr):Prop where
 ed:EdAt h eb pb tb tu
 tk:TokAt h tb pb ti true
 iu:TreeO (some ⟨tb,0,none⟩) (fun y=>W y∨S y) h kind x tu lu S
 lt:∀y,(W y∨S y)→y<h.size
 we:W eb
 wt:W tb
 ap:∀y,S y→¬W y
 up:cp lu
 fit:Fit lu
theorem EdO.can{W S:Nat→Prop}{h:ad}{eb pb tb:Nat}{ti:Int}{b:Int}{x:Hs}{tu:Tr}{lu:List Pr}(e:EdO W S h eb pb tb ti b x tu lu):Can (some ⟨tb,0,none⟩) (some ⟨tb,0,none⟩) (fun y=>W y∨S y) S h:=
 ⟨e.tk.by_,e.lt,fun y d=>.inr d,fun a h=>by cases h;exact .inl e.wt,fun a h c=>by cases h;exact e.ap _ c e.wt⟩
theorem EdO.fin{W S j:Nat→Prop}{h m o C B k:ad}{eb pb tb b:Nat}{ti:Int}{d:Int}{x:Hs}{tu g:Tr}{lu f:List Pr}(e:EdO W S h eb pb tb ti d x tu lu)(w:Upd No h m)(v:Upd S m o)(H:TreeO (some ⟨tb,0,none⟩) (fun y=>Pro (fun y=>W y∨S y) h m y∨j y) o d x g f j)(i:∀y,j y→(S y∨m.size≤y)∧y<o.size)
  (q:Upd (· =b) o C)(D:h.size≤b)(F:b<m.size)(p:Upd No C B)(E:EdAt k eb pb tb g)(t:Upd (· =eb) B k)(up:cp f)(fit:Fit f):EdO W j k eb pb tb ti d x g f∧Upd (fun y=>S y∨y=eb) h k∧∀y,j y→(S y∨h.size≤y)∧y<k.size:=by
 have s3:=w.size;have L:=v.size;have O:=q.size;have M:=p.size;have N:=t.size;have s:∀y,S y→y<h.size:=fun y c=>e.lt y (.inr c)
 have I:=e.lt _ (.inl e.we);have K:=e.lt _ (.inl e.wt);have u:∀{z},W z→¬j z:=fun n h=>by
  rcases(i _ h).1 with h|h
  ·exact e.ap _ h n
  ·have:=e.lt _ (.inl n);omega
 have A:Upd (fun y=>S y∨y=eb) h k:=(((w.wide.tr (v.mono fun y c=>.inl (.inl c))).trans q fun y c=>.inr (by have c:y=b:=c;omega)).tr p.wide).trans t fun y c=>.inl (.inr c)
 have G:=H.loc q D F s i;have J:=(G.upd0 p).upd t (fun y c=>by have:=(i y c).2;omega) fun y c=>by
  have c:y=eb:=c;subst c;exact .inl ⟨.inl (.inl (.inl e.we)),u e.we⟩
 refine⟨⟨E,e.tk.upd A fun h=>?_,J.less fun y c=>.inl (c.imp (fun h=>.inl (.inl h)) id),fun y c=>c.elim (fun h=>?_) fun h=>?_,e.we,e.wt,fun y c n=>u n c,up,fit⟩,A,fun y c=>⟨(i y c).1.imp id fun h=>by omega,by have:=(i y c).2;omega⟩⟩
 ·rcases h with h|h
  ·exact e.ap _ h e.wt
  ·have a:=e.tk
   rw[h]at a;have a:=a.symm.trans e.ed;simp at a
 ·have:=e.lt y (.inl h);omega
 ·have:=(i y h).2;omega
set_option maxHeartbeats 1000000 in
theorem EY{W S:Nat→Prop}{h:ad}{eb pb tb:Nat}{ti:Int}{f:Int}{x:Hs}{tu:Tr}{lu:List Pr}(e:EdO W S h eb pb tb ti f x tu lu)(M:lu.length≤1000000)(p:Pr){K:Int→ad→Prop}
  (v:∀n b s,EdO W s n eb pb tb ti f x b (oy lu p)→Upd (fun y=>S y∨y=eb) h n→(∀y,s y→(S y∨h.size≤y)∧y<n.size)→K (C0 p) n)(g:Fit (oy lu p)):HC PG fP [.pointer (some ⟨eb,0,none⟩),.agg #[.string p.1,.string p.2]] [.c (.int .i64)] K h:=by
 refine r6 _ p ?_;unfold nK ui;refine aX fun T b1 k1=>aX fun X b2 B=>?_
 have z1:=aF b1;have Z:=aF b2;have s1:=k1.size;have s2:=B.size;have c1:=B.get0 b1;have d:=k1.tr B;refine⟨_,vc c1 0,tH (e.ed.upd d id) (e.tk.upd d id) (ah.2 ⟨_,vc c1 0,?_⟩)⟩;refine yD (e.ed.upd d id) (wR _ _ _ ?_);unfold pY rR bo af cE eK aA cG gC yi rd qv rP;refine aX fun Y b3 A=>?_
 have I:=aF b3;have a:=d.tr A;have j:=e.ed.upd a id;have F:=A.get0 b2;have G:=A.get0 c1;refine⟨_,vc G 0,_,rfl,_,nO j 2 0,_,nO j 2 1,_,nO j 2 2,_,nO j 2 3,_,nO j 2 4,_,nO j 2 5,p.1,vc F 0,p.2,vc F 1,?_⟩;have q:∀y,S y→y<h.size:=fun y N=>e.lt y (.inr N)
 refine BZ (e.iu.pro a) (e.can.pro a) e.up M p fun h4 b s m H u O=>?_
 have V:=m.size;refine⟨vc (m.get G fun t=>by have:=q _ t;omega) 0,?_⟩
 refine fc (c:=gm zJ) (vs:=gm b) (m.get b3 fun t=>by have:=q _ t;omega) rfl fun Q k i=>?_
 refine⟨_,vc k 0,_,vc k 1,_,vc k 2,_,vc k 3,_,vc k 4,_,vc k 5,?_⟩;have J:EdAt Q eb pb tb tu:=(j.upd m fun t=>e.ap _ t e.we).upd i (by have:=e.lt _ (.inl e.we);omega)
 have o:cp (oy lu p):=by
  unfold oy;split
  ·exact xp p e.up
  ·exact e.up
 refine⟨J,fun P z=>⟨fun hz n L D=>?_,fun hz=>?_⟩⟩
 ·obtain⟨C,w,E⟩:=e.fin a m H u i (by omega) I z L D o g
  have hz:C0 p=0:=hz;rw[hz]at v;exact v n b s C w E
 ·have hz:C0 p≠0:=hz
  have R:=O hz;subst R;obtain⟨C,w,E⟩:=e.fin a m H u i (by omega) I z (J.upd z id) (Upd.refl _ _) o g;exact v P b s C w E
end Go.Proofs
namespace Go.Proofs
open Go Go.Lift
theorem FK{W:Nat→Prop}{h:ad}{b:Nat}{sl:ByteArray}{w:Option ByteArray}{F:Fo}(r:RxN W h b sl w F){K:ByteArray×Bool→ad→Prop}(c:∀v,(∀u,w=some u→v=u)→K (v,w.isSome) h):HC PG ll [.pointer (some ⟨b,0,none⟩)] [.c .str,.c .bool] K h:=by
 refine vr _ ?_;unfold o5 cG ip;obtain⟨val,s,ow,ks,a,hv,_⟩:=r;exact ah.2 ⟨_,rfl,val,cF (i:=2) a,_,rfl,w.isSome,cF (i:=1) a,c val (vw hv)⟩
theorem Ic{W:Nat→Prop}{h:ad}{b:Nat}{sl:ByteArray}{w:Option ByteArray}{F:Fo}(r:RxN W h b sl w F)(m:F.toL.length≤256){K:SliceV→ad→Prop}(e:∀s' a ks,OwnS kC 1 aH (fun y=>h.size≤y) a s' ks→RxL W a ks F.toL→Upd No h a→K s' a):HC PG lY [.pointer (some ⟨b,0,none⟩)] [.c .slice] K h:=by
 refine wK _ ?_;unfold pR bL;obtain⟨val,s,ow,ks,j,hv,k,_,f⟩:=r;have d:=nX.1 f;refine ah.2 ⟨_,rfl,s,cF (i:=3) j,?_⟩;refine CD k (by rw[d.1];omega) fun s' a g c=>e s' a ks g (d.upd0 c) c
theorem Is(lab:List UInt8)(w:Option ByteArray)(b a:Fo):uQ (.cons lab w b a)=((w.map fun v=>(([]:List UInt8),v)).toList++uQ b).map (fun p=>(lab++p.1,p.2))++uQ a:=rfl
end Go.Proofs
namespace Go.Proofs
open Go Go.Lift
end Go.Proofs
namespace Go.Proofs
open Go Go.Lift
end Go.Proofs
namespace Go.Proofs
open Go Go.Lift
end Go.Proofs
namespace Go.Proofs
theorem Kh:∀{n x:Nat},x<2^n→0<x→∃c,c<n∧x.testBit c=true∧∀j,j<c→x.testBit j=false
 |0,x,h,h'=>by simp at h;omega
 |n+1,x,h,h'=>by
  by_cases e:x%2=1
  ·exact⟨0,by omega,by rw[hO];simpa using e,fun j a=>absurd a (kV _)⟩
  ·obtain⟨c,f,b,d⟩:=Kh (n:=n) (x:=x/2) (by rw[Nat.pow_succ]at h;omega) (by omega)
   refine⟨c+1,by omega,by rw[ft];exact b,fun j a=>?_⟩
   cases j with
   |zero=>rw[hO];simpa using e
   |succ j=>rw[ft];exact d j (by omega)
theorem Ag:∀{c x:Nat},x.testBit c=true→(∀j,j<c→x.testBit j=false)→∀i,(x-1).testBit i=if i<c then true else if i=c then false else x.testBit i
 |0,x,h,_,i=>by
  have h:x%2=1:=by rw[hO]at h;simpa using h
  cases i with
  |zero=>rw[hO,if_neg (by omega),if_pos rfl];simp;omega
  |succ i=>rw[ft,ft,if_neg (by omega),if_neg (by omega)];congr 1;omega
 |c+1,x,h,hl,i=>by
  have a:=hl 0 (by omega);rw[hO]at a;have f:¬x%2=1:=by simpa using a
  have a:x%2=0:=by omega
  rw[ft]at h;have b:0<x/2:=by
   rcases Nat.eq_zero_or_pos (x/2)with e|e
   ·rw[e,eA]at h;cases h
   ·exact e
  cases i with
  |zero=>rw[hO,if_pos (by omega)];simp;omega
  |succ i=>
   have:=Ag (x:=x/2) h (fun j d=>by have:=hl (j+1) (by omega);rwa [ft]at this) i
   rw[ft,ft,show(x-1)/2=x/2-1 by omega,this]
   simp only[Nat.add_lt_add_iff_right,Nat.add_right_cancel_iff]
theorem LQ{c x:Nat}(h:x.testBit c=true)(b:∀j,j<c→x.testBit j=false)(hc:c<32)(hx:x<4294967296):x&&&(4294967296-x)=2^c:=by
 have f:0<x:=by
  rcases Nat.eq_zero_or_pos x with e|e
  ·rw[e,eA]at h;cases h
  ·exact e
 refine fB fun i=>?_
 have e:4294967296-x=2^32-((x-1)+1):=by omega
 rw[fR,e,Nat.testBit_two_pow_sub_succ (by omega),Ag h b,Nat.testBit_two_pow];by_cases a:i<c
 ·rw[if_pos a,b i a];simp;omega
 ·rw[if_neg a]
  by_cases d:i=c
  ·subst d;simp[h,hc]
  ·rw[if_neg d]
   cases x.testBit i<;>simp<;>omega
theorem IU{c x:Nat}(h:x.testBit c=true)(b:∀j,j<c→x.testBit j=false)(i:Nat):(x&&&(x-1)).testBit i=(x.testBit i&&decide (c<i)):=by
 rw[fR,Ag h b];by_cases a:i<c
 ·rw[if_pos a,b i a];rfl
 ·rw[if_neg a]
  by_cases d:i=c
  ·subst d;simp
  ·rw[if_neg d]
   have:c<i:=by omega
   simp[this]
end Go.Proofs
namespace Go.Proofs
open Go Go.Lift
def wl(x:Hs):Nat→List Pr→List Pr
 |0,l=>l
 |m+1,l=>eJ x (12-m) l++(jg x (12-m) l).flatMap (wl x m)
def cw(x:Hs):Nat→List Pr→Nat
 |0,_=>2
 |m+1,l=>2+((jg x (12-m) l).map (cw x m)).sum
structure Fr where
 sp:SliceV
 sk:SliceV
 n:Nat
 ps:List Pr
 ks:List (Nat×List Pr)
def Fr.raw(f:Fr):SliceV×SliceV:=(f.sp,f.sk)
def Fr.rem(x:Hs)(f:Fr):List Pr:=f.ps++f.ks.flatMap fun k=>wl x (f.n-1) k.2
theorem setCell{α:Type}{f:α→List Value}{c:Nat}{t:TypeId}{M:Nat→Prop}{h:ad}{s:SliceV}{P Q:List α}{x y:α}{j:Nat}{v:Value}(n:OwnS f c t M h s (P++x::Q))(I:j<c)(C:f y=(f x).set j v){a:Addr}(A:s.a=some a){i:Nat}(hi:i=P.length){G:ad→Prop}(B:∀k,OwnS f c t M k s (P++y::Q)→Upd M h k→G k):
  Wr h (adr (adr a (i*c)) j)∧At (hset h (adr (adr a (i*c)) j) v) G:=by
 subst hi;have o:=n.ne;have d:=n.len;have m:=n.cap;rcases n.blk with F|⟨b,e,g,w,hc,D⟩
 ·rw[ae,List.length_cons]at d;omega
 rw[A]at g;cases g;have J:(P.flatMap f).length=P.length*c:=iC o P;rw[bv,aL]at hc;have H:=(o x).1;have E:adr (adr ⟨b,0,none⟩ (P.length*c)) j=⟨b,P.length*c+j,none⟩:=by rw[bG,bG,aD]
 rw[E];have p:P.length*c+j<(P.flatMap f++(f x++Q.flatMap f)++e).toArray.size:=by
  simp only[cz,ae];omega
 refine⟨gM hc p,td hc fun k u q=>B k ⟨by rw[d];simp,o,m,.inr ⟨b,e,A,w,?_,D⟩⟩ (q.mono fun z hz=>.inl (by have hz:z=b:=hz;rw[hz];exact w))⟩
 rw[u];congr 3
 rw[bv,aL,C];apply Array.toList_inj.1;rw[Array.toList_setIfInBounds];simp only[ak];rw[List.set_append_right _ _ (by omega),show P.length*c+j-(P.flatMap f).length=j by omega,List.set_append_left _ _ (by omega)]
end Go.Proofs
namespace Go.Proofs
open Go Go.Lift
end Go.Proofs
namespace Go.Proofs
open Go Go.Lift
def Below(W:Nat→Prop)(x:Hs)(h:ad)(m:Nat)(r:Option Addr)(l:List Pr):Prop:=(r=none∧l= [])∨∃b,r=some ⟨b,0,none⟩∧TrieAt W x h m b l
theorem Below.upd0{W:Nat→Prop}{x:Hs}{h a:ad}{m:Nat}{r:Option Addr}{l:List Pr}(k:Upd No h a)(t:Below W x h m r l):Below W x a m r l:=t.imp id fun⟨b,e,t⟩=>⟨b,e,TrieAt.upd0 k t⟩
theorem Below.less{W W':Nat→Prop}{x:Hs}{h:ad}{m:Nat}{r:Option Addr}{l:List Pr}(hm:∀b,W' b→W b∨h.size≤b)(t:Below W x h m r l):Below W' x h m r l:=t.imp id fun⟨b,e,t⟩=>⟨b,e,TrieAt.less hm t⟩
theorem Below.updM{W M:Nat→Prop}{x:Hs}{h a:ad}{m:Nat}{r:Option Addr}{l:List Pr}(k:Upd M h a)(hm:∀b,M b→W b∨h.size≤b)(t:Below W x h m r l):Below W x a m r l:=t.imp id fun⟨b,e,t⟩=>⟨b,e,TrieAt.updM k hm t⟩
end Go.Proofs
namespace Go.Proofs
open Go Go.Lift
abbrev tzL:List Nat:= [0,1,28,2,29,14,24,3,30,22,20,15,25,17,4,8,31,27,13,23,21,19,16,7,26,12,18,6,11,5,10,9]
def Tab(h:ad):Prop:=∀i,i<32→aG h ⟨0,i,none⟩=some (.int .u8 ((tzL.getD i 0:Nat):Int))
theorem Tab.upd{M:Nat→Prop}{h a:ad}(t:Tab h)(k:Upd M h a)(hm:¬M 0):Tab a:=fun i hi=>k.cell (t i hi) hm
theorem MF:∀c:Fin 32,Int.fdiv (IntKind.wrap .u32 (IntKind.wrap .u32 ((2^c.val:Nat):Int)*125613361)) (2^(min (27:Int).toNat (IntKind.bits .u32)))=((2^c.val*125613361%4294967296/134217728:Nat):Int)∧2^c.val*125613361%4294967296/134217728<32∧tzL.getD (2^c.val*125613361%4294967296/134217728) 0=c.val:=by decide+kernel
theorem Lc{a b:Nat}(d:a<4294967296)(c:b<4294967296):(ai (IntKind.bits .u32) (a:Int)&&&ai (IntKind.bits .u32) (b:Int)).toNat=a&&&b:=by
 rw[show IntKind.bits .u32=32 from rfl,fF,fF,BitVec.toNat_and,BitVec.toNat_ofNat,BitVec.toNat_ofNat,dK (show a<2^32 from d),dK (show b<2^32 from c)]
theorem NN{h:ad}(tb:Tab h){x c:Nat}(hx:x<4294967296)(hc:c<32)(a:x.testBit c=true)(i:∀j,j<c→x.testBit j=false){K:Int→ad→Prop}(g:K (c:Int) h):HC PG fX [.int .u32 (x:Int)] [.c (.int .i64)] K h:=by
 refine oo x ?_;unfold jp dC fH;have k:0<x:=by
  rcases Nat.eq_zero_or_pos x with e|e
  ·rw[e,eA]at a;cases a
  ·exact e
 refine CondP.intro (fun e=>?_) fun _=>?_
 ·have e:(x:Int)=0:=by simpa using e
  omega
 have ew:IntKind.wrap .u32 (0-(x:Int))=((4294967296-x:Nat):Int):=by rw[IntKind.wrap_u32];omega
 rw[ew,Lc hx (by omega),LQ a i hc hx];obtain⟨d,f,b⟩:=MF ⟨c,hc⟩;simp only at d f b;simp only[Bd];rw[d];refine⟨by decide,⟨by omega,by omega⟩,((tzL.getD (2^c*125613361%4294967296/134217728) 0:Nat):Int),?_,?_⟩
 ·rw[Nat.mul_one,bG,aD,Int.toNat_natCast];exact tb _ f
 ·rw[b,nA (by omega)];exact g
def dk(d k:Nat):Nat:=(d>>>k)<<<k
theorem xF(d k i:Nat):(dk d k).testBit i=(decide (k≤i)&&d.testBit i):=by
 unfold dk;rw[Nat.testBit_shiftLeft];by_cases h:k≤i
 ·rw[decide_eq_true (show i≥k from h),Nat.testBit_shiftRight];congr 2;omega
 ·rw[decide_eq_false (show ¬i≥k from h)];rfl
theorem Mr(d k:Nat):dk d k≤d:=by
 unfold dk;rw[Nat.shiftLeft_eq,Nat.shiftRight_eq_div_pow];exact Nat.div_mul_le_self ..
theorem L2(d:Nat):dk d 0=d:=fB fun i=>by rw[xF];simp
theorem Cf{d:Nat}(hd:d<4294967296){t:Nat}{h:ad}(C:h[t]? =some (.cells #[.int .u32 (d:Int)] rg (0,0)))
  {BODY:Int→(Option Ex→ad→Prop)→ad→Prop} {N:ad→Prop} {X:Nat→ad→Prop} {R:ad→Prop} (Inv:Nat→ad→Prop) (M:Nat→Prop)
  (L:∀k a,Inv k a→Tab a) (h0:Inv 0 h) (f:∀k a q,Inv k a→h.size≤a.size→Upd (fun b=>b=t∨h.size≤b) a q→Inv k q)
  (hM:∀b,M b→b≠t∧b<h.size)
  (step:∀k c a (KK:Option Ex→ad→Prop),Inv k a→k≤c→c<32→d.testBit c=true→(∀j,k≤j→j<c→d.testBit j=false)→(∀q,Inv (c+1) q→Upd M a q→KK none q)→BODY (c:Int) KK a)
  (fin:∀k a,Inv k a→(∀j,k≤j→j<32→d.testBit j=false)→a[h.size]? =some (.deferred (some []))→N a):
  RangeP PG (.func (.func gf) #[] #[.pointer (some ⟨t,0,none⟩)]) [.c (.int .i64)] h
   (fun Ce bz (x:Int) k G=>(G[(bJ h+1)]? =some Ce∧At (Array.setIfInBounds G (bJ h+1) bz) (fun Y=>BODY x k Y))) N X R:=by
 refine⟨fun lo hlo s=>?_⟩
 refine⟨gf,#[],#[.pointer (some ⟨t,0,none⟩)],rfl,?_⟩;have zb:=aF C;have k1:Upd No h ((h.push (.deferred (some []))).push (lo .ready none)):=(Upd.push No _ _).tr (Upd.push No _ _);have V:((h.push (.deferred (some []))).push (lo .ready none))[h.size+1]? =some (lo .ready none):=by
  have:=Ey (h.push (.deferred (some []))) (lo .ready none);rwa [Array.size_push]at this
 have l1:((h.push (.deferred (some []))).push (lo .ready none))[h.size]? =some (.deferred (some [])):=(Upd.push No _ _).get0 (Ey h _);have b1:=k1.get0 C;have i1:=f 0 _ _ h0 (au _) k1.wide;have z1:=aF V;generalize (h.push (.deferred (some []))).push (lo .ready none)=a at k1 V l1 b1 i1 z1;refine tW (.func (.yield (h.size+1)) #[] #[]) ⟨t,0,none⟩ ?_;unfold lz
 refine LoopP.ghost (fun(k:Nat) (_:Unit) m=>Inv k m∧m[t]? =some (.cells #[.int .u32 ((dk d k:Nat):Int)] rg (0,0))∧m[h.size]? =some (.deferred (some []))∧m[h.size+1]? =some (lo .ready none)∧k≤32) (fun k=>33-k) 0 ⟨i1,by rw[L2];exact b1,l1,V,bp _⟩ ?_
 rintro I k ⟨⟩ m ⟨hi,D,E,p,hk32⟩ hI;have zz:=aF p;have y:=Nat.lt_of_le_of_lt (Mr d k) hd;refine⟨_,aS D,CondP.intro (fun e=>?_) fun e=>?_⟩
 ·have Q:0<dk d k:=by
   have:((dk d k:Nat):Int)≠0:=by simpa using e
   omega
  obtain⟨c,hc,z,w⟩:=Kh (n:=32) y Q;have A:=z;rw[xF,Bool.and_eq_true,decide_eq_true_iff]at A;refine⟨_,aS D,NN (L k _ hi) y hc z w ?_⟩;refine s (c:Int) m _ p ⟨p,?_⟩;have J:Upd (· =h.size+1) m (m.setIfInBounds (h.size+1) (lo .busy none)):=Upd.set _ _ rfl
  have lb:=ix (o:=lo .busy none) p;have sb:=J.size;refine bK ?_;generalize m.setIfInBounds (h.size+1) (lo .busy none)=q at J lb sb;refine step k c q _ (f k _ _ hi (by omega) (J.mono fun b C=>.inl (.inr (by omega)))) A.1 hc A.2 (fun j a q=>?_) fun S T u=>?_
  ·have:=w j q
   rw[xF,decide_eq_true a]at this;simpa using this
  have F:=u.get lb fun e=>by have:=(hM _ e).2;omega
  have W:=u.get (J.get D (show ¬t=h.size+1 by omega)) fun e=>(hM _ e).1 rfl
  have O:=u.get (J.get E (show ¬h.size=h.size+1 by omega)) fun e=>by have:=(hM _ e).2;omega
  refine⟨F,?_⟩;have v:Upd (· =h.size+1) S (S.setIfInBounds (h.size+1) (lo .ready none)):=Upd.set _ _ rfl
  have l5:=ix (o:=lo .ready none) F;have g:=v.get W (show ¬t=h.size+1 by omega)
  have K:=v.get O (show ¬h.size=h.size+1 by omega)
  have s3:=u.size;have i5:=f (c+1) _ _ T (by omega) (v.mono fun b C=>.inl (.inr (by omega)))
  simp only[Option.isNone_none,if_true];refine ah.2 ?_;generalize S.setIfInBounds (h.size+1) (lo .ready none)=h5 at v l5 g K i5;refine⟨_,aS g,_,aS g,?_⟩;have ew:IntKind.wrap .u32 (((dk d k:Nat):Int)-1)=((dk d k-1:Nat):Int):=by rw[IntKind.wrap_u32];omega
  have ea:dk d k&&&(dk d k-1)=dk d (c+1):=by
   refine fB fun i=>?_
   rw[IU z w,xF,xF];by_cases H:c<i
   ·rw[decide_eq_true H,decide_eq_true (show k≤i by omega),decide_eq_true (show c+1≤i by omega)];simp
   ·rw[decide_eq_false H,decide_eq_false (show ¬c+1≤i by omega)];simp
  simp only[Bd];rw[ew,Lc y (by omega),ea];have P:IntKind.wrap .u32 ((dk d (c+1):Nat):Int)=((dk d (c+1):Nat):Int):=by have:=Mr d (c+1);rw[IntKind.wrap_u32];omega
  rw[P];refine⟨gM g (by simp),td g fun h6 Z B=>?_⟩
  have s5:=v.size;refine hI (c+1) () h6 ⟨f _ _ _ i5 (by omega) (B.mono fun b C=>.inl (.inl C)),Z,B.oth K (by omega),B.oth l5 (by omega),hc⟩ (by omega)
 ·have hz:dk d k=0:=by
   have:((dk d k:Nat):Int)=0:=by simpa using e
   omega
  have v:Upd (· =h.size+1) m (m.setIfInBounds (h.size+1) (lo .exhausted none)):=Upd.set _ _ rfl
  refine⟨.ready,none,by decide,p,?_⟩
  refine fin k _ (f k _ _ hi (by omega) (v.mono fun b C=>.inl (.inr (by omega)))) (fun j a _=>?_) (v.get E (show ¬h.size=h.size+1 by omega))
  have:=xF d k j;rw[hz,eA,decide_eq_true a]at this;simpa using this.symm
end Go.Proofs
namespace Go.Proofs
open Go Go.Lift
abbrev Mm(n:Nat):List Value:= [.int .i64 (n:Int)]
theorem MX(n:Nat):(Mm n).length=1∧0<1:=⟨rfl,by omega⟩
theorem xg{h:ad}{b:Nat}{c:Array Value}{t:TypeId}(a:h[b]? =some (.cells c t (0,0))):aG h ⟨b,0,none⟩=c[0]?:=aS a
theorem zG{h:ad}{b:Nat}{c c':Array Value}{t:TypeId}{v:Value}{k:ad→Prop}(f:h[b]? =some (.cells c t (0,0))) (hi:0<c.size) (e:c.setIfInBounds 0 v=c') (g:∀a,a[b]? =some (.cells c' t (0,0))→Upd (· =b) h a→k a):Wr h ⟨b,0,none⟩∧At (hset h ⟨b,0,none⟩ v) k:=
 ⟨gM f hi,td f fun a d i=>g a (e▸d) i⟩
theorem CZ{h:ad}{b:Nat}{cs:List Value}{t:TypeId}(a:h[b]? =some (.cells cs.toArray t (0,0))):SRow h (some ⟨b,0,none⟩) cs.length cs:=
 ⟨rfl,.inr ⟨_,rfl,nY a fun i v hv=>by rw[aD,List.getElem?_toArray];exact hv⟩⟩
theorem Aq{W:Nat→Prop}{x:Hs}{k:ByteArray}{h:ad}{s:SliceV}{way:List Nat}(e:Sl Mm 1 W h s way)(o:way.length≤13)(n:∀i c,way[i]? =some c→ck x i k=c) {K:Bool→ad→Prop} (g:K true h):HC PG kH [.int .u64 (lG x k),.slice s.a s.len s.cap] [.c .bool] K h:=by
 refine BA (lG x k) s ?_;unfold uv dC fH qd;have f:=e.len;refine LoopP.ghost (fun(i:Nat) (t:Int) d=>t=(i:Int)∧i≤way.length∧d=h) (fun i=>way.length-i) 0 ⟨rfl,bp _,rfl⟩ ?_
 rintro I i t d ⟨rfl,hi,rfl⟩ m;refine bj (fun b=>?_) fun _=>g
 have b:i<way.length:=by omega
 obtain⟨a,j,_,hv⟩:=e.at0 (ag b);refine⟨⟨by omega,by omega⟩,a,j,_,hv,KV (x:=x) (k:=k) (lev:=i) (by omega) ?_⟩
 rw[n i _ (ag b),bne_self_eq_false];refine ah.2 ?_;rw[ep b (by omega)];exact m (i+1) _ _ ⟨rfl,b,rfl⟩ (by omega)
theorem Ix{W:Nat→Prop}{h:ad}{s:SliceV}{l:List Pr}(d:Sl iY 2 W h s l)(k:cp l)(q:l.length≤1000000){K:Bool→ad→Prop}(j:K true h):HC PG rC [.slice s.a s.len s.cap] [.c .bool] K h:=by
 refine DQ s ?_;unfold wZ dC fH cG;have g:=d.len;refine LoopP.ghost (fun(i:Nat) (t:Int) f=>t=((i+1:Nat):Int)∧f=h) (fun i=>l.length-i) 0 ⟨rfl,rfl⟩ ?_
 rintro I i t f ⟨rfl,rfl⟩ p;refine bj (fun b=>?_) fun _=>j
 have b:i+1<l.length:=by omega
 have m:IntKind.wrap .i64 (((i+1:Nat):Int)-1)=(i:Int):=by rw[nA (by omega)];omega
 rw[m];obtain⟨a,n,_,hv⟩:=d.at (ag (show i<l.length by omega))
 obtain⟨a',c,_,e⟩:=d.at (ag b);refine⟨⟨by omega,by omega⟩,a,n,_,hv 0 _ rfl,⟨by omega,by omega⟩,a',c,_,e 0 _ rfl,?_⟩
 have:=cn.1 k i (i+1) (by omega) b (by omega);have o:Op.bytesLess l[i].1.toList l[i+1].1.toList=true:=this;rw[o];refine ah.2 ?_;rw[ep b (by omega)];exact p (i+1) _ _ ⟨rfl,rfl⟩ (by omega)
theorem H4(x:Hs)(lev:Nat)(l:List Pr):(eJ x lev l).length+(jg x lev l).flatten.length=l.length:=by
 have h:=ou x lev l 32;have d:(l.filter fun p=>decide (ck x lev p.1<32))=l:=gV.2 fun p _=>decide_eq_true (ww ..)
 rw[d]at h;have:∀n,(fm (fun c=>mC (part x lev c l)) n).length+(fm (fun c=>fG (part x lev c l)) n).flatten.length=((bX n).map fun c=>(part x lev c l).length).sum:=by
  intro n;induction n with
  |zero=>simp[fm]
  |succ n ih=>
   rw[gS,gS,eZ,dG,gz];simp only[ae,cQ,eI,mh,m5,rL,dL];generalize part x lev n l=q;have:(mC q).toList.length+(fG q).toList.flatten.length=q.length:=by
    match q with
    | []=>simp[mC,fG]
    | [a]=>simp[mC,fG]
    |a::b::q=>simp[mC,fG]
   omega
 have:=this 32;unfold eJ jg;omega
theorem Dp{β:Type}{g:Nat→Option β}{k:Nat}:∀{c:Nat},k≤c→(∀j,k≤j→j<c→g j=none)→fm g c=fm g k
 |0,h,_=>by rw[show k=0 by omega]
 |c+1,h,hn=>by
  rcases bM k (c+1)with b|b
  ·rw[gS,hn c (by omega) (by omega),Dp (by omega) fun j a d=>hn j a (by omega)];simp
  ·rw[show k=c+1 by omega]
end Go.Proofs
namespace Go.Proofs
open Go Go.Lift
theorem H6{W:Nat→Prop}{x:Hs}{h:ad}{m:Nat}{s:Slots}{c:Nat}{l:List Pr}(t:SlotIs W x h m s c l)(b:(s.p c).isSome):∃p,l= [p]∧s.p c=some p:=by
 rcases t with⟨_,a,_⟩|⟨p,d,a,_⟩|⟨_,a,_⟩
 ·rw[a]at b;cases b
 ·exact⟨p,d,a⟩
 ·rw[a]at b;cases b
theorem H7{W:Nat→Prop}{x:Hs}{h:ad}{m:Nat}{s:Slots}{c:Nat}{l:List Pr}(t:SlotIs W x h m s c l)(b:(s.k c).isSome):2≤l.length∧∃d,s.k c=some (some ⟨d,0,none⟩)∧TrieAt W x h m d l:=by
 rcases t with⟨_,_,a⟩|⟨p,_,_,a⟩|⟨e,_,d,a,f⟩
 ·rw[a]at b;cases b
 ·rw[a]at b;cases b
 ·exact⟨e,d,a,f⟩
theorem CN{W:Nat→Prop}{h:ad}{s:SliceV}{way:List Nat}{c:Nat}{xs:List Value}(f:Sl Mm 1 W h s way)(hc:s.cap=s.len)(g:way.length≤13)(hx:xs= [.int .i64 (c:Int)]){K:SliceV→ad→Prop}
  (d:∀s' a,Sl Mm 1 No a s' (way++ [c])→s'.len≤s'.cap→Upd No h a→K s' a):AppP (some [.int .i64 0]) 1 8 lK s.a s.len s.cap 1 xs h K:=by
 subst hx;refine E7 (ys:= [c]) f rfl rfl rfl (by omega) (by omega) (by simp;omega) fun s' a b e=>d s' a (b.sl fun _ _ _ h=>h) b.cap e
def OnWay(x:Hs)(way:List Nat)(l:List Pr):Prop:=∀p∈l,∀i c,way[i]? =some c→ck x i p.1=c
theorem OnWay.part{x:Hs}{way:List Nat}{l:List Pr}{c:Nat}(o:OnWay x way l):OnWay x (way++ [c]) (part x way.length c l):=fun p a i d hd=>by
 have a:=kF.1 a;rcases bM i way.length with h|h
 ·rw[List.getElem?_append_left h]at hd;exact o p a.1 i d hd
 ·rw[List.getElem?_append_right h]at hd
  have:i-way.length=0:=by have:=(List.getElem?_eq_some_iff.1 hd).1;simp at this;omega
  rw[this]at hd;simp only[List.getElem?_cons_zero,Option.some.injEq]at hd;subst hd;rw[show i=way.length by omega];exact a.2
theorem KW{W:Nat→Prop}{x:Hs}:∀(m:Nat),m≤13→∀{h:ad} {b:Nat} {l:List Pr} {sw:SliceV} {way:List Nat},TrieAt W x h m b l→Tab h→Sl Mm 1 No h sw way→sw.len≤sw.cap→way.length=13-m→OnWay x way l→cp l→l.length≤60000→∀{K:Int×Bool→ad→Prop},(∀T,Upd No h T→K ((l.length:Int),true) T)→
  HC PG kI [.agg #[.int .u64 x.k0,.int .u64 x.k1,.int .u64 x.mask],.pointer (some ⟨b,0,none⟩),.slice sw.a sw.len sw.cap] [.c (.int .i64),.c .bool] K h:=by
 intro m;induction m with
 |zero=>
  intro _ h b l sw way t tb hs hcp hw Y hr hn K hk;refine uq (x.k0,x.k1,x.mask) (some ⟨b,0,none⟩) sw ?_;unfold qs fH af cG aE nv Ai vE su qz yU ui ld HZ;refine aX fun h1 b1 k1=>aX fun h2 b2 k2=>aX fun h3 b3 Z=>aX fun h4 b4 M=>aX fun h5 b5 L=>?_
  have J:Upd No h h5:=(((k1.tr k2).tr Z).tr M).tr L;have c1:=L.get0 (M.get0 (Z.get0 (k2.get0 b1)));have c2:=L.get0 (M.get0 (Z.get0 b2));have c3:=L.get0 (M.get0 b3);have c4:=L.get0 b4;have s1:=k1.size;have s2:=k2.size;have s3:=Z.size;have s4:=M.size;have z3:=aF b3;have z4:=aF b4;have z5:=aF b5;obtain⟨sp,sk,ow,hb,hsp,_⟩:=(BuckAt.upd t J fun _ h=>h.elim:BuckAt W h5 b l).ex
  refine⟨_,xg c2,na hb hsp (by omega) fun s8 C ho8 z=>?_⟩
  refine⟨_,xg (z.get0 c2),f6 (z.get0 hb) (az.2 ?_)⟩;have d1:=z.get0 c1;have d3:=z.get0 c3;have d4:=z.get0 c4;have d5:=z.get0 b5;have s8':=z.size;have hs8:Sl iY 2 No C s8 l:=ho8.sl fun _ _ _ h=>h
  have hlen:=hs8.len;have hwl:=hs.len;have hs':Sl Mm 1 No C sw way:=(hs.upd J fun _ h=>h.elim).upd z fun _ h=>h.elim
  refine Join.plain ⟨sw,xg d3,?_⟩;rw[show((sw.len:Int) !=(13:Int))=false by rw[bne_eq_false_iff_eq];omega]
  refine ah.2 (Ix hs8 hr (by omega) (ah.2 ?_));refine LoopP.ghost (fun(i:Nat) (t:Int) T=>t=(i:Int)∧i≤l.length∧Upd No C T) (fun i=>l.length-i) 0 ⟨rfl,bp _,Upd.refl _ _⟩ ?_
  rintro I i t T ⟨rfl,hi,V⟩ hI;refine bj (fun Q=>?_) fun hge=>?_
  ·have Q:i<l.length:=by omega
   obtain⟨a,ha,_,hv⟩:=(hs8.upd V fun _ h=>h.elim).at (ag Q)
   refine⟨⟨by omega,by omega⟩,a,ha,_,hv 0 _ rfl,_,hv 1 _ rfl,Ke (p:=l[i]) fun h9 b9 k9=>?_⟩
   have A:=V.tr k9;refine⟨_,vc (A.get0 d1) 0,_,vc (A.get0 d1) 1,_,vc (A.get0 d1) 2,_,vc b9 0,sw,xg (A.get0 d3),rv fun h10 k10=>⟨xg (k10.get0 (A.get0 d3)),?_⟩⟩
   refine Aq ((hs'.upd A fun _ h=>h.elim).upd k10 fun _ h=>h.elim) (by omega) (fun j c hj=>Y _ (aW Q) j c hj) (ah.2 ?_)
   rw[ep Q (by omega)];exact hI (i+1) _ _ ⟨rfl,Q,A.tr k10⟩ (by omega)
  ·have hil:i=l.length:=by omega
   subst hil;refine zG (V.get0 d4) (by simp) rfl fun h9 b9 A=>zG (A.oth (V.get0 d5) (by omega)) (by simp) rfl fun h10 b10 v=>?_
   refine⟨_,xg (v.oth b9 (by omega)),_,xg b10,?_⟩;have e:((s8.len:Nat):Int)=(l.length:Int):=by omega
   rw[e];exact hk _ ((((J.tr z).tr V).own A (by omega)).own v (by omega))
 |succ m ih=>
  intro hm h b l sw way t tb hs hcp hw Y hr hn K hk;refine uq (x.k0,x.k1,x.mask) (some ⟨b,0,none⟩) sw ?_;unfold qs fH af cG aE nv Ai vE su qz yU ui ld HZ;obtain⟨sl,nd,hs0⟩:=t;have N:∀c,c<32→SlotIs W x h m sl c (part x (12-m) c l):=hs0;refine aX fun h1 b1 k1=>aX fun h2 b2 k2=>aX fun h3 b3 Z=>aX fun h4 b4 M=>aX fun h5 b5 L=>?_
  have J:Upd No h h5:=(((k1.tr k2).tr Z).tr M).tr L;have c1:=L.get0 (M.get0 (Z.get0 (k2.get0 b1)));have c2:=L.get0 (M.get0 (Z.get0 b2));have c3:=L.get0 (M.get0 b3);have c4:=L.get0 b4;have s1:=k1.size;have s2:=k2.size;have s3:=Z.size;have s4:=M.size;have z1:=aF b1;have z2:=aF b2;have z3:=aF b3;have z4:=aF b4;have z5:=aF b5;obtain⟨d,n,sp,sk,ow,hb,bits,hsp,hsk,_⟩:=(nd.upd J fun _ h=>h.elim).ex
  have hfp:(fm sl.p 32).length≤32:=sO;refine⟨_,xg c2,na hb hsp (by omega) fun s8 C ho8 z=>?_⟩
  refine⟨_,xg (z.get0 c2),f6 (z.get0 hb) (ah.2 ⟨sw,xg (z.get0 c3),?_⟩)⟩;have k08:=J.tr z;have hl8:=ho8.len;rw[zd N]at hl8;have hwl:=hs.len;rw[decide_eq_false (by omega)];refine ah.2 (aX fun h9 b9 k9=>?_)
  have A:=z.tr k9;have s8':=z.size;have z9:=aF b9;refine zG b9 (by simp) rfl fun h10 b10 v=>?_
  have d1:=v.oth (A.get0 c1) (by omega);have d2:=v.oth (A.get0 c2) (by omega);have d3:=v.oth (A.get0 c3) (by omega);have d4:=v.oth (A.get0 c4) (by omega);have d5:=v.oth (A.get0 b5) (by omega);refine⟨sw,xg d3,sw,xg d3,sw,xg d3,⟨by omega,by omega⟩,⟨by omega,by omega⟩,?_⟩
  refine zG d3 (by simp) rfl fun H b11 D=>?_
  have s:Upd No h H:=((k08.tr k9).own v (by omega)).own D (by omega);have E:=D.oth d1 (by omega);have e2:=D.oth d2 (by omega);have e4:=D.oth d4 (by omega);have e5:=D.oth d5 (by omega);have e9:=D.oth b10 (by omega);have s11:=s.size;have s10a:=v.size;have s11a:=D.size;have F:Sl Mm 1 (fun y=>h.size≤y) H ⟨aK sw.a 0 ((sw.len:Int).toNat) 1,((sw.len:Int).toNat)-0,((sw.len:Int).toNat)-0⟩ way:=by
   have:=Sl.sub ((hs.less (W':=fun y=>h.size≤y) fun _ h=>.inr h).upd s fun _ h=>h.elim) (l:=0) (hi:=sw.len) (m:=sw.len) (c:=sw.len-0) (bp _) (by omega) (au _)
   rw[List.drop_zero,List.take_of_length_le (by omega)]at this;exact this
  have X:(⟨aK sw.a 0 ((sw.len:Int).toNat) 1,((sw.len:Int).toNat)-0,((sw.len:Int).toNat)-0⟩:SliceV).cap=(⟨aK sw.a 0 ((sw.len:Int).toNat) 1,((sw.len:Int).toNat)-0,((sw.len:Int).toNat)-0⟩:SliceV).len:=rfl;have q:H[h2.size]? =some (.cells #[sv ⟨aK sw.a 0 ((sw.len:Int).toNat) 1,((sw.len:Int).toNat)-0,((sw.len:Int).toNat)-0⟩] Hg (0,0)):=b11;clear b11;generalize (⟨aK sw.a 0 ((sw.len:Int).toNat) 1,((sw.len:Int).toNat)-0,((sw.len:Int).toNat)-0⟩:SliceV)=s0 at F X q
  obtain⟨d',n',sp',sk',ow',hb',O,_⟩:=(nd.upd s fun _ h=>h.elim).ex
  have tb11:=tb.upd s id;refine⟨_,xg e2,Dw hb' (qK d' (aX fun h12 b12 k12=>?_))⟩
  have s12:=k12.size;have z12:=aF b12;refine Cf (d:=d') O.d32 b12 (fun k T=>Upd No H T) No (fun k h1 hi=>tb11.upd hi id) k12 (fun k ha hb hi hle V=>hi.trans V fun y g=>.inr (by omega)) (fun _ h=>h.elim) (fun k c ha KK hi hkc hc hdc _ hK=>?_) fun k ha hi _ hde=>?_
  ·
   have hdc':=hdc;rw[O.dp c hc]at hdc';obtain⟨p,hp1,hp2⟩:=H6 (N c hc) hdc';refine⟨_,xg (hi.get0 e2),An (nd.upd (s.tr hi) fun _ h=>h.elim) hc fun hb kb=>?_⟩
   rw[hp2];have ib:=hi.tr kb;refine Ke (p:=p) fun hc' bc kc=>?_
   have G:=ib.tr kc;have hon:∀i c',(way++ [c])[i]? =some c'→ck x i p.1=c':=by
    have:=Y.part (c:=c);rw[hw,show 13-(m+1)=12-m by omega,hp1]at this
    exact this p (List.mem_singleton.2 rfl)
   refine Join.intro (fun t hd=>t=false∧Upd No hc' hd) (fun R hR=>?_) ?_
   ·refine⟨_,vc (G.get0 E) 0,_,vc (G.get0 E) 1,_,vc (G.get0 E) 2,_,vc bc 0,s0,xg (G.get0 q),?_,?_⟩
    ·refine rv fun hd f=>⟨xg (f.get0 (G.get0 q)),aX fun he be S=>⟨xg (S.get0 (f.get0 (G.get0 q))),_,CZ be,?_⟩⟩
     refine CN (((F.upd G fun _ h=>h.elim).upd f fun _ h=>h.elim).upd S fun _ h=>h.elim) X (by omega) rfl fun s' hf hsf _ kf=>?_
     exact Aq hsf (by simp;omega) hon (hR _ _ ⟨rfl,(f.tr S).tr kf⟩)
    ·refine aX fun hd bd f=>⟨xg (f.get0 (G.get0 q)),vc (f.get0 bc) 0,⟨vc (f.get0 (G.get0 E)) 0,vc (f.get0 (G.get0 E)) 1,vc (f.get0 (G.get0 E)) 2⟩,?_⟩
     refine rv fun he S=>⟨xg (S.get0 (f.get0 (G.get0 q))),_,CZ (S.get0 bd),?_⟩
     refine CN (((F.upd G fun _ h=>h.elim).upd f fun _ h=>h.elim).upd S fun _ h=>h.elim) X (by omega) rfl fun s' hf hsf _ kf=>?_
     exact Aq hsf (by simp;omega) hon (hR _ _ ⟨rfl,(f.tr S).tr kf⟩)
   ·rintro t hd ⟨rfl,f⟩
    exact ah.2 (hK hd (G.tr f) ((kb.tr kc).tr f))
  ·
   obtain⟨d'',n'',sp'',sk'',ow'',hb'',u,_⟩:=(nd.upd (s.tr hi) fun _ h=>h.elim).ex
   refine⟨_,xg (hi.get0 e2),vV hb'' (qK n'' (aX fun h13 b13 k13=>?_))⟩
   have i13:=hi.tr k13;have s13:=k13.size;have z13:=aF b13;have sa:=hi.size;have zde:=aF hde;have hl8':s8.len=(eJ x (12-m) l).length:=hl8;have hall:=H4 x (12-m) l;have hfl:∀k,(fm (fun c=>fG (part x (12-m) c l)) k).flatten.length≤60000∨32<k:=fun k=>by
    rcases bM 32 k with h|h
    ·exact .inr h
    ·refine .inl ?_
     have:((fm (fun c=>fG (part x (12-m) c l)) k).flatten).length≤(jg x (12-m) l).flatten.length:=by
      unfold jg;have hj:∀j,∃r,fm (fun c=>fG (part x (12-m) c l)) (k+j)=fm (fun c=>fG (part x (12-m) c l)) k++r:=fun j=>by
       induction j with
       |zero=>exact⟨[],by simp⟩
       |succ j ihj=>obtain⟨r,hr⟩:=ihj;exact⟨r++(fG (part x (12-m) (k+j) l)).toList,by rw[←Nat.add_assoc,gS,hr,ak]⟩
      have this:=hj (32-k);rw[show k+(32-k)=32 by omega]at this
      obtain⟨r,hr⟩:=this;rw[hr,cQ,ae];omega
     omega
   refine Cf (d:=n'') u.n32 b13 (fun k T=>k≤32∧Upd (· =C.size) ha T∧T[C.size]? =some (.cells #[.int .i64 (((eJ x (12-m) l).length+(fm (fun c=>fG (part x (12-m) c l)) k).flatten.length:Nat):Int)] lK (0,0))) (· =C.size)
    (fun k hx g=>(tb11.upd hi id).upd g.2.1 fun e=>by have e:0=C.size:=e;omega) ⟨bp _,k13.wide,?_⟩ (fun k hx g hz hle V=>⟨hz.1,hz.2.1.trans V fun y g=>.inr (by omega),V.get hz.2.2 (by omega)⟩) (fun y g=>⟨by have g:y=C.size:=g;omega,by have g:y=C.size:=g;omega⟩) (fun k c hx KK g hkc hc hnc hno hK=>?_) fun k hx g hno hdx=>?_
   ·have:=i13.get0 e9
    rw[show((eJ x (12-m) l).length+(fm (fun c=>fG (part x (12-m) c l)) 0).flatten.length:Nat)=s8.len by rw[hl8'];simp[fm]]
    exact this
   ·obtain⟨hk32,w,P⟩:=g
    have hnc':=hnc;rw[u.nk c hc]at hnc';obtain⟨h2l,kb,hkb,tk⟩:=H7 (N c hc) hnc';have B:∀{y:Nat} {o:Obj},H[y]? =some o→y≠C.size→hx[y]? =some o:=fun g hne=>w.get (hi.get0 g) hne
    have uW:Upd No h hx:=(s.tr hi).trans w fun y g=>.inr (by have g:y=C.size:=g;omega)
    refine⟨_,xg (B e2 (by omega)),Df (nd.upd uW fun _ h=>h.elim) hc ?_⟩
    rw[hkb];have hmc:fG (part x (12-m) c l)=some (part x (12-m) c l):=by unfold fG;rw[if_pos h2l]
    have hskip:fm (fun c=>fG (part x (12-m) c l)) c=fm (fun c=>fG (part x (12-m) c l)) k:=Dp hkc fun j h1 h2=>by
     have:=hno j h1 h2;rw[u.nk j (by omega),(zU (N j (by omega))).2]at this;simpa using this
    have hnext:(fm (fun c=>fG (part x (12-m) c l)) (c+1)).flatten.length=(fm (fun c=>fG (part x (12-m) c l)) k).flatten.length+(part x (12-m) c l).length:=by
     rw[gS,hskip,hmc];simp
    have hpl:(part x (12-m) c l).length≤l.length:=lO;refine Join.intro (fun t hd=>t=(((part x (12-m) c l).length:Int),true)∧Upd No hx hd) (fun R hR=>?_) ?_
    ·refine⟨_,vc (B E (by omega)) 0,_,vc (B E (by omega)) 1,_,vc (B E (by omega)) 2,s0,xg (B q (by omega)),aX fun hd bd f=>?_⟩
     refine⟨xg (f.get0 (B q (by omega))),⟨vc (f.get0 (B E (by omega))) 0,vc (f.get0 (B E (by omega))) 1,vc (f.get0 (B E (by omega))) 2⟩,_,CZ bd,?_⟩;have hsx:Sl Mm 1 (fun y=>h.size≤y) hd s0 way:=((F.upd hi fun _ h=>h.elim).upd w fun y g=>.inl (by have g:y=C.size:=g;omega)).upd f fun _ h=>h.elim
     refine CN hsx X (by omega) rfl fun s' he hse hce S=>?_
     have gE:=f.tr S;refine⟨⟨vc (gE.get0 (B E (by omega))) 0,vc (gE.get0 (B E (by omega))) 1,vc (gE.get0 (B E (by omega))) 2⟩,?_⟩;refine ih (by omega) (TrieAt.upd0 (uW.tr gE) tk) (tb.upd (uW.tr gE) id) hse hce (by simp;omega) ?_ (oD hr) (by omega) fun hf kf=>hR _ _ ⟨rfl,gE.tr kf⟩
     have:=Y.part (c:=c);rw[hw,show 13-(m+1)=12-m by omega]at this
     exact this
    ·rintro t hd ⟨rfl,f⟩
     refine Join.plain (ah.2 ?_);rw[decide_eq_false (by simp only;omega)];refine ah.2 ⟨_,xg (f.get0 P),?_⟩;have hf1:=(hfl k).resolve_right (by omega);have hS:(eJ x (12-m) l).length≤60000:=by omega
     refine zG (c':= #[.int .i64 (((eJ x (12-m) l).length+(fm (fun c=>fG (part x (12-m) c l)) (c+1)).flatten.length:Nat):Int)]) (f.get0 P) (by simp) ?_ fun hf bf uf=>?_
     ·rw[hnext]
      have:IntKind.wrap .i64 ((((eJ x (12-m) l).length+(fm (fun c=>fG (part x (12-m) c l)) k).flatten.length:Nat):Int)+((part x (12-m) c l).length:Int))=(((eJ x (12-m) l).length+((fm (fun c=>fG (part x (12-m) c l)) k).flatten.length+(part x (12-m) c l).length):Nat):Int):=by rw[nA (by omega)];omega
      simp only[this];rfl
     ·exact hK hf ⟨hc,(w.tr f.wide).tr uf,bf⟩ (f.wide.tr uf)
   ·obtain⟨hk32,w,P⟩:=g
    have B:∀{y:Nat} {o:Obj},H[y]? =some o→y≠C.size→hx[y]? =some o:=fun g hne=>w.get (hi.get0 g) hne
    have hkm:fm (fun c=>fG (part x (12-m) c l)) 32=fm (fun c=>fG (part x (12-m) c l)) k:=Dp hk32 fun j h1 h2=>by
     have:=hno j h1 h2;rw[u.nk j (by omega),(zU (N j (by omega))).2]at this;simpa using this
    have ev:((eJ x (12-m) l).length+(fm (fun c=>fG (part x (12-m) c l)) k).flatten.length:Nat)=l.length:=by rw[←hkm];exact hall
    rw[ev]at P;have sx:=w.size;refine⟨_,xg P,zG (B e4 (by omega)) (by simp) rfl fun hf bf uf=>zG (uf.oth (B e5 (by omega)) (by omega)) (by simp) rfl fun hg bg ug=>?_⟩
    have sf:=uf.size;have sg:=ug.size;have g2:=ug.oth (uf.oth hdx (by omega)) (by omega);have kh:Upd (· =h13.size) hg (hg.setIfInBounds h13.size (.deferred none)):=Upd.set _ _ rfl
    refine⟨g2,bK ?_⟩;generalize hg.setIfInBounds h13.size (.deferred none)=hh at kh;have g3:=kh.oth (ug.oth (uf.oth (w.get hde (by omega)) (by omega)) (by omega)) (by omega);have kj:Upd (· =h12.size) hh (hh.setIfInBounds h12.size (.deferred none)):=Upd.set _ _ rfl
    refine⟨g3,bK ?_⟩;generalize hh.setIfInBounds h12.size (.deferred none)=hj at kj;refine⟨_,xg (kj.oth (kh.oth (ug.oth bf (by omega)) (by omega)) (by omega)),_,xg (kj.oth (kh.oth bg (by omega)) (by omega)),?_⟩;refine hk hj ?_;refine(((((s.tr hi).trans w fun y g=>.inr ?_).own uf (by omega)).own ug (by omega)).own kh (by omega)).own kj (by omega)
    have g:y=C.size:=g;omega
end Go.Proofs
namespace Go.Proofs
open Go Go.Lift
theorem zZ{W:Nat→Prop}{h:ad}{b:Nat}{sl val:ByteArray}{has:Bool}{s:SliceV}{ow:Option Addr}{ks:List (Option Addr)}{F:Fo}(O:h[b]? =some (.cells (tB sl has val s ow) aU (0,0))) (v:Sl kC 1 W h s ks) (A:RxL W h ks F.toL) (hc:dW F) {K:Bool→ad→Prop} (T:K true h):HC PG iA [.pointer (some ⟨b,0,none⟩)] [.c .bool] K h:=by
 refine vp (some ⟨b,0,none⟩) ?_;unfold oY dC fH cG bL;refine⟨_,rfl,s,cF (i:=3) O,?_⟩;have m:=v.len;rw[A.1]at m;have M:=iE hc;have j:=dx.1 hc;refine LoopP.ghost (fun(i:Nat) (t:Int) x=>t=(i:Int)∧i≤F.toL.length∧x=h) (fun i=>F.toL.length-i) 0 ⟨rfl,bp _,rfl⟩ ?_
 rintro I i t x ⟨rfl,hi,rfl⟩ hI;refine bj (fun e=>?_) fun _=>T
 have e:i<F.toL.length:=by omega
 obtain⟨kb,g,y,o,kv,Q,Z,kk,p,_⟩:=A.at e;obtain⟨a,ha,_,hv⟩:=v.at0 y;have u:g.data.toList≠[]:=by rw[o];exact(j.2 _ (aW e)).1
 have V:(g.toList==(⟨#[]⟩:ByteArray).toList)=false:=by
  rw[beq_eq_false_iff_ne,ByteArray.toList_eq,ByteArray.toList_eq];exact u
 obtain⟨c,B,G⟩:=Az u;refine⟨⟨by omega,by omega⟩,a,ha,_,hv,Join.intro (fun t L=>t=false∧L=x) (fun R N=>?_) ?_⟩
 ·refine⟨_,rfl,g,cF (i:=0) p,?_⟩
  rw[V];refine ah.2 (bj (fun E=>?_) fun _=>N _ _ ⟨rfl,rfl⟩)
  have S:0<i:=by have:(i:Int)>0:=E;omega
  have Y:IntKind.wrap .i64 ((i:Int)-1)=((i-1:Nat):Int):=by rw[nA (by omega)];omega
  rw[Y];have f:i-1<F.toL.length:=by omega
  obtain⟨jb,n,D,k,jv,P,X,jk,J,_⟩:=A.at f;obtain⟨a',w,_,z⟩:=v.at0 D;have q:n.data.toList≠[]:=by rw[k];exact(j.2 _ (aW f)).1
  obtain⟨d,H,C⟩:=Az q;refine⟨_,rfl,s,cF (i:=3) O,⟨by omega,by omega⟩,a',w,_,z,_,rfl,n,cF (i:=0) J,d,by decide,H,_,rfl,g,cF (i:=0) p,c,by decide,B,N _ _ ⟨?_,rfl⟩⟩
  have:=cn.1 j.1 (i-1) i f e (by omega);rw[o]at G;rw[k]at C;exact decide_eq_false (by omega)
 ·rintro t L ⟨rfl,rfl⟩
  refine ah.2 ?_;rw[ep e (by omega)];exact hI (i+1) _ _ ⟨rfl,e,rfl⟩ (by omega)
theorem CG{W:Nat→Prop}{h:ad}{s:SliceV}{ks:List (Option Addr)}{L:List Bn}{f:FuncId}(j:Sl kC 1 W h s ks)(k:RxL W h ks L)(x:L.length≤256)(p:∀i (hi:i<L.length) {b:Nat} {sl:ByteArray},RxN W h b sl L[i].2.1 L[i].2.2→∀{K:Bool→ad→Prop},K false h→HC PG f [.pointer (some ⟨b,0,none⟩)] [.c .bool] K h){K:Bool→ad→Prop}(m:K false h):
  HC PG bR [.slice s.a s.len s.cap,.func (.func f) #[] #[]] [.c .bool] K h:=by
 refine gr s _ ?_;unfold dH;refine gQ s _ ?_;unfold dZ dC fH;have d:=j.len;rw[k.1]at d;refine LoopP.ghost (fun(i:Nat) (t:Int) g=>t=(i:Int)∧i≤L.length∧g=h) (fun i=>L.length-i) 0 ⟨rfl,bp _,rfl⟩ ?_
 rintro I i t g ⟨rfl,hi,rfl⟩ v;refine bj (fun c=>?_) fun _=>m
 have c:i<L.length:=by omega
 obtain⟨w,q,e,o,n⟩:=k.at c;obtain⟨a,u,_,hv⟩:=j.at0 e;refine⟨⟨by omega,by omega⟩,a,u,_,hv,HV.mk' (p i c n (ah.2 ?_))⟩
 rw[ep c (by omega)];exact v (i+1) _ _ ⟨rfl,c,rfl⟩ (by omega)
def OT(n:Bn):Prop:=∀{W:Nat→Prop} {h:ad} {b:Nat} {sl:ByteArray},RxN W h b sl n.2.1 n.2.2→∀{K:Bool→ad→Prop},K true h→HC PG gU [.pointer (some ⟨b,0,none⟩)] [.c .bool] K h
theorem Nn{lab:List UInt8}{w:Option ByteArray}{F:Fo}(hc:dW F)(c:w.isSome∨2≤F.toL.length)(p:∀n∈F.toL,OT n):OT (lab,w,F):=by
 intro W h b sl r K m;simp only at r;obtain⟨val,s,ow,ks,d,hv,f,u,o⟩:=r;have g:=nX.1 o;have a:=f.len;rw[g.1]at a;refine tT (some ⟨b,0,none⟩) ?_;unfold nV bL ip;refine Join.intro (fun t j=>t=false∧j=h) (fun R k=>?_) ?_
 ·refine zZ d f g hc (ah.2 ⟨_,rfl,w.isSome,cF (i:=1) d,?_⟩)
  cases hwS:w.isSome with
  |true=>exact ah.2 (k _ _ ⟨rfl,rfl⟩)
  |false=>
   refine az.2 ⟨_,rfl,s,cF (i:=3) d,k _ _ ⟨decide_eq_false ?_,rfl⟩⟩;rw[hwS]at c;rcases c with c|c
   ·cases c
   ·omega
 ·rintro t j ⟨rfl,rfl⟩
  refine ah.2 ⟨_,rfl,s,cF (i:=3) d,CG f g (iE hc) (fun i hi b sl q v e=>?_) m⟩
  refine ss _ ?_;unfold mw;exact p _ (aW hi) q e
theorem DE:∀{F:Fo},dW F→∀n∈F.toL,OT n
 | .nil,_,n,a=>by simp[Fo.toL]at a
 | .cons lab w kids rest,h,n,a=>by
  rcases aq.1 a with rfl|a
  ·exact Nn h.2.2.1 h.2.1 (DE h.2.2.1)
  ·exact DE h.2.2.2.2 n a
theorem FO{W:Nat→Prop}{h:ad}{b:Nat}{l:List Pr}(t:RadAt W h b l){K:Bool→ad→Prop}(f:K true h):HC PG qk [.pointer (some ⟨b,0,none⟩)] [.c .bool] K h:=by
 obtain⟨w,F,r,hc,_⟩:=t.ex;obtain⟨val,s,ow,ks,c,hv,d,k,g⟩:=r;have e:=nX.1 g;refine BF (some ⟨b,0,none⟩) ?_;unfold uA cG bL;refine az.2 ⟨_,rfl,_,cF (i:=0) c,?_⟩;rw[beq_self_eq_true];refine az.2 (zZ c d e hc (az.2 ⟨_,rfl,s,cF (i:=3) c,CG d e (iE hc) (fun i hi b sl j m a=>?_) f⟩))
 refine yZ _ ?_;unfold r7;exact DE hc _ (aW hi) j a
theorem H3{W:Nat→Prop}{x:Hs}{h:ad}{d:Int}{t:Tr}{l:List Pr}(i:TreeIs W h d x t l)(tb:Tab h)(j:cp l)(k:l.length≤60000){K:Bool→ad→Prop}(f:∀h',Upd No h h'→K true h'):HC PG lU [FA t] [.c .bool] K h:=by
 refine wF t ?_;unfold pM bo af cE aA vE yi qv;refine aX fun g b1 k1=>⟨_,vc b1 0,?_⟩
 rcases i with⟨_,b,rfl,t⟩|⟨_,b,rfl,t⟩
 ·refine ah.2 ⟨_,nO b1 1 0,_,nO b1 1 1,_,nO b1 1 2,_,vc b1 0,_,vc b1 1,_,vc b1 2,_,vc b1 3,_,vc b1 4,_,vc b1 5,?_⟩
  refine B1 (TrieAt.upd0 k1 t) fun q e=>⟨⟨nO (e.get0 b1) 1 0,nO (e.get0 b1) 1 1,nO (e.get0 b1) 1 2⟩,?_⟩
  refine BB (x.k0,x.k1,x.mask) _ ?_;unfold uw af Ai vE;refine aX fun s b3 n=>ah.2 ⟨_,vc b3 0,_,vc b3 1,_,vc b3 2,?_⟩
  have a:=(k1.tr e).tr n;refine KW 13 (au _) (sw:=⟨none,0,0⟩) (way:= []) (TrieAt.upd0 a t) (tb.upd a id) (Sl.nil MX) (au _) rfl (fun p _ i c hc=>by simp at hc) j k fun o m=>?_
  exact f o (a.tr m)
 ·refine az.2 ⟨_,vc b1 5,FO (t.upd0 k1) (f g k1)⟩
end Go.Proofs
namespace Go.Proofs
open Go Go.Lift
end Go.Proofs
namespace Go.Proofs
open Go Go.Lift
theorem Ez:∀F:Fo,(uQ F).length=(F.toL.map fun n=>(mq n.2.1 n.2.2).length).sum
 | .nil=>rfl
 | .cons lab w kids rest=>by
  rw[Is,Fo.toL_cons,eI,m5,←Ez rest,ae,fS];rfl
def Nv(n:Bn):Prop:=∀{W:Nat→Prop} {h:ad} {b:Nat} {sl:ByteArray},RxN W h b sl n.2.1 n.2.2→(mq n.2.1 n.2.2).length≤1000000000→∀{K:Int→ad→Prop},(∀h',Upd No h h'→K (((mq n.2.1 n.2.2).length:Nat):Int) h')→HC PG pz [.pointer (some ⟨b,0,none⟩)] [.c (.int .i64)] K h
theorem Hv{lab:List UInt8}{w:Option ByteArray}{F:Fo}(M:F.toL.length≤256)(H:∀n∈F.toL,Nv n):Nv (lab,w,F):=by
 intro W h b sl r L K B;simp only at r L B;refine Fc (some ⟨b,0,none⟩) ?_;unfold yM dC fH;have g:(mq w F).length=(w.map fun v=>(([]:List UInt8),v)).toList.length+(F.toL.map fun n=>(mq n.2.1 n.2.2).length).sum:=by
  rw[←Ez,←ae];rfl
 refine Join.intro (fun t C=>t=(((w.map fun v=>(([]:List UInt8),v)).toList.length:Nat):Int)∧C=h) (fun R D=>?_) ?_
 ·refine FK r fun v _=>?_
  cases w with
  |none=>exact ah.2 (D _ _ ⟨rfl,rfl⟩)
  |some u=>exact az.2 (D _ _ ⟨rfl,rfl⟩)
 ·rintro t C ⟨rfl,rfl⟩
  generalize (w.map fun v=>(([]:List UInt8),v)).toList.length=c0 at g
  refine Ic r M fun s1 m ks y f k1=>?_
  have j:Sl kC 1 No m s1 ks:=y.sl fun _ _ _ h=>h
  have d:=j.len;rw[f.1]at d;refine LoopP.ghost (fun(i:Nat) (t:Int×Int) o=>t.1=((c0+((F.toL.take i).map fun n=>(mq n.2.1 n.2.2).length).sum:Nat):Int)∧t.2=(i:Int)∧i≤F.toL.length∧Upd No m o) (fun i=>F.toL.length-i) 0 ⟨by simp,rfl,bp _,Upd.refl _ _⟩ ?_
  rintro I i ⟨T,ti⟩ o ⟨G,E,hi,k⟩ Q;simp only at G E;subst G E;have p:∀i,((F.toL.take i).map fun n=>(mq n.2.1 n.2.2).length).sum≤(F.toL.map fun n=>(mq n.2.1 n.2.2).length).sum:=fun i=>by
   conv=>rhs;rw[←bF i F.toL,dG,gz]
   omega
  refine bj (fun c=>?_) fun s=>?_
  ·have c:i<F.toL.length:=by have:(i:Int)<(s1.len:Int):=c;omega
   obtain⟨N,J,x,_,q⟩:=(f.upd0 k).at c;obtain⟨a,P,_,hv⟩:=(j.upd k fun _ h=>h.elim).at0 x
   refine⟨⟨by simp only;omega,by simp only;omega⟩,a,P,some ⟨N,0,none⟩,hv,?_⟩
   have O:((F.toL.take (i+1)).map fun n=>(mq n.2.1 n.2.2).length).sum=((F.toL.take i).map fun n=>(mq n.2.1 n.2.2).length).sum+(mq F.toL[i].2.1 F.toL[i].2.2).length:=by
    rw[cK c,dG,gz];simp
   have m:=p (i+1);refine H _ (aW c) q (by omega) fun S z=>?_
   rw[ep c (by omega)];have e:IntKind.wrap .i64 (((c0+((F.toL.take i).map fun n=>(mq n.2.1 n.2.2).length).sum:Nat):Int)+((mq F.toL[i].2.1 F.toL[i].2.2).length:Int))=((c0+((F.toL.take (i+1)).map fun n=>(mq n.2.1 n.2.2).length).sum:Nat):Int):=by
    rw[nA (by omega)];omega
   rw[e];exact Q (i+1) _ _ ⟨rfl,rfl,c,k.tr z⟩ (by omega)
  ·have A:i=F.toL.length:=by have:¬(i:Int)<(s1.len:Int):=s;omega
   subst A;rw[cV,←g];exact B o (k1.tr k)
theorem Ap:∀{F:Fo},dW F→∀n∈F.toL,Nv n
 | .nil,_,n,a=>by simp[Fo.toL]at a
 | .cons lab w kids rest,h,n,a=>by
  rcases aq.1 a with rfl|a
  ·exact Hv (iE h.2.2.1) (Ap h.2.2.1)
  ·exact Ap h.2.2.2.2 n a
theorem JI{W:Nat→Prop}{x:Hs}{h:ad}{t:Tr}{l:List Pr}(i:TreeIs W h 1 x t l)(j:cp l)(p:l.length≤60000){K:Int→ad→Prop}(d:∀h',Upd No h h'→K (l.length:Int) h'):HC PG iM [FA t] [.c (.int .i64)] K h:=by
 refine rX t ?_;unfold nH bo aA qv;rcases i with⟨e,_⟩|⟨_,b,rfl,t⟩
 ·cases e
 refine aX fun o b1 k1=>⟨_,vc b1 0,az.2 ⟨_,vc b1 5,?_⟩⟩
 obtain⟨w,F,n,c,g⟩:=(t.upd0 k1).ex;have f:=Hk c j g;have a:=congrArg List.length f;unfold H0 at a;rw[fS]at a;refine Hv (lab:= []) (iE c) (Ap c) n (by simp only;omega) fun m k=>?_
 simp only;rw[a];exact d m (k1.tr k)
end Go.Proofs
namespace Go.Proofs
open Go Go.Lift
end Go.Proofs
namespace Go.Proofs
open Go Go.Lift
abbrev Rt:=Int×Int×Int×Int×SliceV
abbrev FQ(r:Rt):List Value:= [.int .i64 r.1,.int .u64 r.2.1,.int .u64 r.2.2.1,.int .u64 r.2.2.2.1,.slice r.2.2.2.2.a r.2.2.2.2.len r.2.2.2.2.cap]
abbrev Oc:Rt:=(0,0,0,0,⟨none,0,0⟩)
def hx(a v:Int):Int:=if a=0 then v else 0
def RefIs(W:Nat→Prop)(h:ad)(a:Int)(x:Hs)(r:Rt)(l:List Pr):Prop:=∃s,r=(a,hx a x.k0,hx a x.k1,hx a x.mask,s)∧Sl iY 2 W h s l∧s.len≤s.cap
theorem RefIs.upd0{W:Nat→Prop}{h b:ad}{a:Int}{x:Hs}{r:Rt}{l:List Pr}(k:Upd No h b)(i:RefIs W h a x r l):RefIs W b a x r l:=
 let⟨s,e,c⟩:=i;⟨s,e,c.1.upd k fun _ h=>h.elim,c.2⟩
theorem RefIs.less{W W':Nat→Prop}{h:ad}(hm:∀b,W' b→W b∨h.size≤b){a:Int}{x:Hs}{r:Rt}{l:List Pr}(i:RefIs W h a x r l):RefIs W' h a x r l:=
 let⟨s,e,c⟩:=i;⟨s,e,c.1.less hm,c.2⟩
theorem RefIs.updM{W M:Nat→Prop}{h c:ad}(k:Upd M h c)(hm:∀b,M b→W b∨h.size≤b){a:Int}{x:Hs}{r:Rt}{l:List Pr}(i:RefIs W h a x r l):RefIs W c a x r l:=
 let⟨s,e,d⟩:=i;⟨s,e,d.1.upd k hm,d.2⟩
theorem LI{W:Nat→Prop}{x:Hs}{h:ad}{a:Int}(f:a=0∨a=1){K:Rt×Int→ad→Prop}(i:∀h' r,RefIs W h' a x r []→Upd No h h'→K (r,0) h'):HC PG xB [.int .i64 a,.agg #[.int .u64 x.k0,.int .u64 x.k1,.int .u64 x.mask]] [.agg [.int .i64,.int .u64,.int .u64,.int .u64,.slice],.c (.int .i64)] K h:=by
 refine Jb a (x.k0,x.k1,x.mask) ?_;unfold CI bo af gC Ai sH NA;refine aX fun k b1 k1=>aX fun m b2 j=>?_
 have c1:=j.get0 b1;have s1:=k1.size;have e:=k1.tr j;rcases f with rfl|rfl
 ·refine az.2 ⟨_,vc c1 0,_,vc c1 1,_,vc c1 2,?_⟩
  refine fc (c:=FQ Oc) (vs:=FQ (0,x.k0,x.k1,x.mask,⟨none,0,0⟩)) b2 rfl fun g b d=>?_
  exact⟨_,vc b 0,_,vc b 1,_,vc b 2,_,vc b 3,⟨none,0,0⟩,vc b 4,i g (0,x.k0,x.k1,x.mask,⟨none,0,0⟩) ⟨_,rfl,Sl.nil jy,au _⟩ (e.own d s1)⟩
 ·refine ah.2 (az.2 ?_)
  refine fc (c:=FQ Oc) (vs:=FQ (1,0,0,0,⟨none,0,0⟩)) b2 rfl fun g b d=>?_
  exact⟨_,vc b 0,_,vc b 1,_,vc b 2,_,vc b 3,⟨none,0,0⟩,vc b 4,i g (1,0,0,0,⟨none,0,0⟩) ⟨_,rfl,Sl.nil jy,au _⟩ (e.own d s1)⟩
def um(s:ByteArray):ByteArray:=s.extract 0 (min s.size 30)
theorem AN(s:ByteArray):(um s).size≤30:=by unfold um;rw[mo];omega
end Go.Proofs
namespace Go.Proofs
open Go Go.Lift
end Go.Proofs
namespace Go.Proofs
open Go Go.Lift
end Go.Proofs
namespace Go.Proofs
open Go.Lift
abbrev Ch:=ByteArray×ByteArray×ByteArray×Bool×Bool
end Go.Proofs
namespace Go.Proofs
open Go Go.Lift
end Go.Proofs
namespace Go.Proofs
open Go Go.Lift
theorem F8{h:ad}{b:Nat}{c:Array Value}{t:TypeId}(a:h[b]? =some (.cells c t (0,0))) (hc:0<c.size):du h ⟨b,0,none⟩:=⟨c,t,a,hc⟩
theorem TrieAt.plain{W:Nat→Prop}{x:Hs}{h:ad}:∀{m b:Nat} {l:List Pr},TrieAt W x h m b l→du h ⟨b,0,none⟩
 |0,_,_,t=>by obtain⟨_,_,_,a,_⟩:=BuckAt.ex t;exact F8 a (by simp[eg])
 |m+1,_,_,⟨s,nd,_⟩=>by obtain⟨_,_,_,_,_,a,_⟩:=nd.ex;exact F8 a (by simp[eg])
end Go.Proofs
namespace Go.Proofs
open Go Go.Lift
end Go.Proofs
namespace Go.Proofs
open Go Go.Lift
theorem RxN.plain{W:Nat→Prop}{h:ad}{b:Nat}{sl:ByteArray}{w:Option ByteArray}{F:Fo}(r:RxN W h b sl w F):du h ⟨b,0,none⟩:=by
 obtain⟨val,s,ow,ks,a,_⟩:=r;exact F8 a (by simp[tB])
end Go.Proofs
namespace Go.Proofs
open Go Go.Lift
end Go.Proofs
namespace Go.Proofs
open Go Go.Lift
end Go.Proofs
namespace Go.Proofs
open Go Go.Lift
end Go.Proofs
namespace Go.Proofs
open Go Go.Lift
end Go.Proofs
namespace Go.Proofs
open Go Go.Lift
theorem NU{h:ad}{r:Rt}{k:ad→Prop}(d:∀h',h'[h.size]? =some (.cells (FQ r).toArray gN (0,0))→Upd No h h'→k h'):
  At (hnew h (FQ Oc) gN) (fun a=>rc a (some (aC h)) 0 (FQ r)∧At (gd a (aC h) 0 (FQ r)) k):=
 aX fun a b1 k1=>fc (c:=FQ Oc) (vs:=FQ r) b1 rfl fun e b2 b=>d e b2 (k1.own b (au _))
end Go.Proofs
namespace Go.Proofs
open Go Go.Lift
end Go.Proofs
namespace Go.Proofs
open Go Go.Lift
abbrev b1:ByteArray:=⟨#[49]⟩
abbrev b2:ByteArray:=⟨#[50]⟩
abbrev b3:ByteArray:=⟨#[51]⟩
end Go.Proofs
namespace Go.Proofs
open Go Go.Lift
def look(l:List Pr)(k:ByteArray):Option ByteArray:=(l.find? fun p=>decide (p.1=k)).map (·.2)
end Go.Proofs
namespace Go.Proofs
open Go Go.Lift
end Go.Proofs
namespace Go.Proofs
open Go Go.Lift
def MO(c:Ch):Bool:=(!((!c.2.2.2.1&& !c.2.2.2.2)||(c.2.2.2.1&&(c.2.2.2.2&&decide (c.2.1=c.2.2.1)))))&&((c.2.2.2.1||decide (c.2.1=⟨#[]⟩))&&(c.2.2.2.2||decide (c.2.2.1=⟨#[]⟩)))
def one(c:Ch):Option Ch:=if MO c then some c else none
end Go.Proofs
namespace Go.Proofs
open Go Go.Lift
end Go.Proofs
namespace Go.Proofs
open Go Go.Lift
end Go.Proofs
namespace Go.Proofs
open Go Go.Lift
end Go.Proofs
namespace Go.Proofs
open Go Go.Lift
theorem FB(t:Tr):(gm t).length=6∧0<6:=⟨rfl,by omega⟩
theorem MN(r:Rt):(FQ r).length=5∧0<5:=⟨rfl,by omega⟩
end Go.Proofs
namespace Go.Proofs
open Go Go.Lift
theorem JJ(x:Hs)(lev:Nat)(l:List Pr):(eJ x lev l).length+(jg x lev l).flatten.length=l.length:=by
 have h:=ou x lev l 32;have d:(l.filter fun p=>decide (ck x lev p.1<32))=l:=gV.2 fun p _=>decide_eq_true (ww ..)
 rw[d]at h;have:∀n,(fm (fun c=>mC (part x lev c l)) n).length+(fm (fun c=>fG (part x lev c l)) n).flatten.length=((bX n).map fun c=>(part x lev c l).length).sum:=by
  intro n;induction n with
  |zero=>simp[fm]
  |succ n ih=>
   rw[gS,gS,eZ,dG,gz];simp only[ae,cQ,eI,mh,m5,rL,dL];generalize part x lev n l=q;have:(mC q).toList.length+(fG q).toList.flatten.length=q.length:=by
    match q with
    | []=>simp[mC,fG]
    | [a]=>simp[mC,fG]
    |a::b::q=>simp[mC,fG]
   omega
 have:=this 32;unfold eJ jg;omega
theorem Gk{W:Nat→Prop}{x:Hs}{h:ad}{m:Nat}{ks:List (Option Addr)}:∀{ls:List (List Pr)},KidsAt W x h m ks ls→ks.length=ls.length∧∀i (hi:i<ls.length),∃b,ks[i]? =some (some ⟨b,0,none⟩)∧TrieAt W x h m b ls[i]:=by
 induction ks with
 |nil=>intro ls;cases ls with
  |nil=>intro _;exact⟨rfl,fun i hi=>absurd hi (kV _)⟩
  |cons a ls=>intro h;exact h.elim
 |cons k ks ihk=>intro ls;cases ls with
  |nil=>intro h;exact h.elim
  |cons a ls=>
   rintro⟨⟨b,rfl,tk⟩,h⟩;obtain⟨e,c⟩:=ihk h;refine⟨by simp[e],fun i hi=>?_⟩
   cases i with
   |zero=>exact⟨b,rfl,tk⟩
   |succ i=>simp only[List.getElem?_cons_succ,List.getElem_cons_succ];exact c i (by simpa using hi)
theorem LR{x:Hs}{W:Nat→Prop}:∀(m:Nat),m≤13→∀{b:Nat} {l:List Pr} {h:ad},TrieAt W x h m b l→l.length≤60000→∀{K:Int→ad→Prop},(∀j,Upd No h j→K (l.length:Int) j)→HC PG pC [.pointer (some ⟨b,0,none⟩)] [.c (.int .i64)] K h:=by
 intro m;induction m with
 |zero=>
  intro _ b l h t T K E;refine yI _ ?_;unfold tq dC fH;have bk:∀{j},Upd No h j→BuckAt W j b l:=fun k=>BuckAt.upd t k fun _ h=>h.elim
  obtain⟨sp,sk,ow,y,p,hsk,_⟩:=(bk (Upd.refl No h)).ex;refine na y p (by omega) fun s1 h1 u k1=>?_
  obtain⟨R,P,Q,s,V,o,_⟩:=(bk k1).ex;refine Di s o (by simp) fun s2 v q C=>?_
  have B:=q.len;rw[List.length_nil]at B;refine LoopP.ghost (fun(_:Unit) (t:Int×Int) j=>t=((s1.len:Int),0)∧j=v) (fun _=>0) () ⟨rfl,rfl⟩ ?_
  rintro I _ t A ⟨rfl,e⟩ Z;rw[e];refine bj (fun f=>absurd f (by simp only;omega)) fun _=>?_
  simp only;rw[u.len];exact E v (k1.tr C)
 |succ m ih=>
  intro hm b l h t T K E;refine yI _ ?_;unfold tq dC fH;obtain⟨sl,nd,M⟩:=t;have S:∀c,c<32→SlotIs W x h m sl c (part x (12-m) c l):=M;have hd:∀{j},Upd No h j→∃d n sp sk ow,j[b]? =some (.cells (eg d n sp sk false ow) bm (0,0))∧Sl iY 2 W j sp (eJ x (12-m) l)∧Sl ny 1 W j sk (fm sl.k 32):=fun{j} k=>by
   obtain⟨d,n,sp,sk,ow,y,bits,A,Y,_⟩:=(nd.upd k fun _ h=>h.elim).ex
   refine⟨d,n,sp,sk,ow,y,?_,Y⟩;rw[←zd S];exact A
  have F:KidsAt W x h m (fm sl.k 32) (jg x (12-m) l):=Gl 32 S;have w:∀L∈jg x (12-m) l,L.length≤60000:=fun L hL=>by
   obtain⟨_,c,rfl⟩:=ox hL;exact bB lO T
  have N:=JJ x (12-m) l;obtain⟨H,z⟩:=Gk F;generalize eJ x (12-m) l=So at hd N;generalize jg x (12-m) l=Ma at w N H z;obtain⟨d,n,sp,sk,ow,y,p,_⟩:=hd (Upd.refl No h);refine na y p (by omega) fun s1 h1 u k1=>?_
  obtain⟨d1,n1,R,P,Q,s,_,o⟩:=hd k1;have hk32:=sO (g:=sl.k);refine Di s o (by omega) fun s2 v q C=>?_
  have S2:Sl ny 1 No v s2 (fm sl.k 32):=q.sl fun _ _ _ h=>h
  have hlk:=S2.len;refine LoopP.ghost (fun(i:Nat) (t:Int×Int) j=>t.1=((So.length+(Ma.take i).flatten.length:Nat):Int)∧t.2=(i:Int)∧i≤Ma.length∧Upd No v j) (fun i=>Ma.length-i) 0 ⟨by rw[u.len];simp,rfl,bp _,Upd.refl _ _⟩ ?_
  rintro I i ⟨tn,ti⟩ A ⟨X,B,hi,D⟩ Z;simp only at X B;subst X B;refine bj (fun f=>?_) fun J=>?_
  ·have f:i<Ma.length:=by simp only at f;omega
   obtain⟨kb,G,tk⟩:=z i f;obtain⟨a,ha,_,hv⟩:=(S2.upd D fun _ h=>h.elim).at0 G
   refine⟨⟨by simp only;omega,by simp only;omega⟩,a,ha,some ⟨kb,0,none⟩,hv,?_⟩
   have p:(Ma.take i).flatten.length+Ma[i].length≤Ma.flatten.length:=by
    have e:Ma=Ma.take i++Ma[i]::Ma.drop (i+1):=by rw[List.getElem_cons_drop,bF]
    have:=congrArg (fun L=>(List.flatten L).length) e
    simp only[cQ,dU,ae]at this;omega
   refine ih (by omega) (TrieAt.upd0 ((k1.tr C).tr D) tk) (w _ (aW f)) fun Y k4=>?_
   simp only;rw[ep f (by omega),nA (by omega)];refine Z (i+1) _ _ ⟨?_,rfl,f,D.tr k4⟩ (by omega);rw[cK f,cQ];simp only[dU,List.flatten_nil,bV,ae];omega
  ·have O:i=Ma.length:=by simp only at J;omega
   subst O;simp only;rw[cV,N];exact E A ((k1.tr C).tr D)
theorem Hi{W:Nat→Prop}{x:Hs}{h:ad}{a:Int}{t:Tr}{l:List Pr}(i:TreeIs W h a x t l)(f:cp l)(e:l.length≤60000){K:Int→ad→Prop}(d:∀h',Upd No h h'→K (l.length:Int) h'):HC PG iM [FA t] [.c (.int .i64)] K h:=by
 rcases i with⟨rfl,b,rfl,c⟩|⟨rfl,b,rfl,c⟩
 ·refine rX _ ?_
  unfold nH bo aA qv;refine aX fun k b1 k1=>⟨_,vc b1 0,ah.2 ⟨_,vc b1 4,?_⟩⟩
  exact LR 13 (au _) (TrieAt.upd0 k1 c) e fun j g=>d j (k1.tr g)
 ·exact JI (x:=x) (.inr ⟨rfl,b,rfl,c⟩) f e d
end Go.Proofs
namespace Go.Proofs
open Go Go.Lift
end Go.Proofs
namespace Go.Proofs
open Go Go.Lift
def byN(s:ByteArray)(i:Nat):Nat:=if h:i<s.size then(s[i]'h).toNat else 0
def hv(s:ByteArray):Nat→Nat→Nat
 |_,0=>0
 |p,c+1=>hv s (p+1) c*256+byN s p
end Go.Proofs
namespace Go.Proofs
open Go Go.Lift
end Go.Proofs
namespace Go.Proofs
open Go Go.Lift
section
variable {bu:Bool} {s:SliceV} {q q':Nat→List Pr} {kk kk':Nat→Option Addr} {i:Nat}
end
end Go.Proofs
namespace Go.Proofs
open Go Go.Lift
end Go.Proofs
namespace Go.Proofs
open Go Go.Lift
end Go.Proofs
namespace Go.Proofs
open Go Go.Lift
end Go.Proofs
namespace Go.Proofs
open Go Go.Lift
end Go.Proofs
namespace Go.Proofs
open Go Go.Lift
end Go.Proofs
namespace Go.Proofs
open Go Go.Lift
end Go.Proofs
namespace Go.Proofs
open Go Go.Lift
theorem Jt{l:List Pr}{p:Pr}{n:Nat}(b:cp l)(c:Fit l)(e:l.length≤n)(d:p.1.size≤5030∧p.2.size≤5030):cp (oy l p)∧Fit (oy l p)∧(oy l p).length≤n+1:=by
 unfold oy;split
 ·refine⟨xp p b,fun q a=>?_,bB (Cr p) (by omega)⟩
  rcases vX a with rfl|a
  ·exact⟨by omega,by omega⟩
  ·exact c q a
 ·exact⟨b,c,by omega⟩
theorem Km{l:List Pr}{k:ByteArray}{n:Nat}(a:cp l)(b:Fit l)(d:l.length≤n):cp (oK l k)∧Fit (oK l k)∧(oK l k).length≤n+1:=by
 unfold oK;split
 ·exact⟨a,b,by omega⟩
 ·exact⟨Cb a,fun q c=>b q (zl.1 c).1,bB KQ (by omega)⟩
end Go.Proofs
