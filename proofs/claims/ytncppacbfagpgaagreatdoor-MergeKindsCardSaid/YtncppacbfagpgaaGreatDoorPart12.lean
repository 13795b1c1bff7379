/- A part of the proof that the named laws of this program answer true, whatever the input. -/
import Derived.Test.YtncppacbfagpgaaGreatDoorPart11
import Derived.Test.YtncppacbfagpgaaGreatDoorPart6
import Derived.Test.YtncppacbfagpgaaGreatDoorPart9
open Bool renaming true_and→mh
open Int renaming tmod→kM
open List renaming getElem_mem→bw,mem_cons→aB,length_cons→ar,getElem?_eq_getElem→ag,foldl_cons→jh,pairwise_singleton→cC,mem_singleton→aF,take_take→m7,length_append→ac
open Nat renaming zero_le→aW,le_refl→aq,mul_le_mul_right→cy,le_trans→bh,min_eq_right→jR,min_eq_left→bN,lt_of_lt_of_le→aQ,zero_add→aM
namespace Go.Proofs
open Go Go.Lift
theorem FQ{W:Nat→Prop}{h:ae}{b:Nat}{sl val:ByteArray}{has:Bool}{s:SliceV}{ow:Option Addr}{ks:List (Option Addr)}{F:Fo}(hb:h[b]? =some (.cells (EO sl has val s ow) cj (0,0))) (hs:Sl ua 1 W h s ks) (hL:RxL W h ks F.toL) (hc:gJ F) {K:Bool→ae→Prop} (hk:K true h):HC PG lN [.pointer (some ⟨b,0,none⟩)] [.c .bool] K h:=by
 refine AO (some ⟨b,0,none⟩) ?_;unfold tN bM cB bR aO;refine⟨_,rfl,s,eT (i:=3) hb,?_⟩;have hlen:=hs.len;rw[hL.1]at hlen;have h256:=lP hc;have hcF:=gc.1 hc;refine LoopP.ghost (fun(i:Nat) (t:Int) h'=>t=(i:Int)∧i≤F.toL.length∧h'=h) (fun i=>F.toL.length-i) 0 ⟨rfl,aW _,rfl⟩ ?_
 rintro I i t h' ⟨rfl,hi,rfl⟩ hI;refine az (fun hlt=>?_) fun _=>hk
 have hlt:i<F.toL.length:=by omega
 obtain⟨kb,ksl,hki,hkl,kv,kval,ks',kk,kb1,_⟩:=hL.at hlt;obtain⟨a,ha,_,hv⟩:=hs.at0 hki;have hne:ksl.data.toList≠[]:=by rw[hkl];exact(hcF.2 _ (bw hlt)).1
 have e0:(ksl.toList==(⟨#[]⟩:ByteArray).toList)=false:=by
  rw[beq_eq_false_iff_ne,ByteArray.toList_eq,ByteArray.toList_eq];exact hne
 obtain⟨c,hc0,hc1⟩:=Gr hne;refine⟨⟨by omega,by omega⟩,a,ha,_,hv,Join.intro (fun t h2=>t=false∧h2=h') (fun R hR=>?_) ?_⟩
 ·refine⟨_,rfl,ksl,eT (i:=0) kb1,?_⟩
  rw[e0];refine aj.2 (az (fun hgt=>?_) fun _=>hR _ _ ⟨rfl,rfl⟩)
  have hpos:0<i:=by have:(i:Int)>0:=hgt;omega
  have e1:IntKind.wrap .i64 ((i:Int)-1)=((i-1:Nat):Int):=by rw[gD (by omega)];omega
  rw[e1];have hlt2:i-1<F.toL.length:=by omega
  obtain⟨jb,jsl,hji,hjl,jv,jval,js',jk,jb1,_⟩:=hL.at hlt2;obtain⟨a',ha',_,hv'⟩:=hs.at0 hji;have hne2:jsl.data.toList≠[]:=by rw[hjl];exact(hcF.2 _ (bw hlt2)).1
  obtain⟨d,hd0,hd1⟩:=Gr hne2;refine⟨_,rfl,s,eT (i:=3) hb,⟨by omega,by omega⟩,a',ha',_,hv',_,rfl,jsl,eT (i:=0) jb1,d,by decide,hd0,_,rfl,ksl,eT (i:=0) kb1,c,by decide,hc0,hR _ _ ⟨?_,rfl⟩⟩
  have:=List.pairwise_iff_getElem.1 hcF.1 (i-1) i hlt2 hlt (by omega);rw[hkl]at hc1;rw[hjl]at hd1;exact decide_eq_false (by omega)
 ·rintro t h2 ⟨rfl,rfl⟩
  refine aj.2 ?_;rw[cS hlt (by omega)];exact hI (i+1) _ _ ⟨rfl,hlt,rfl⟩ (by omega)
theorem JU{W:Nat→Prop}{h:ae}{s:SliceV}{ks:List (Option Addr)}{L:List Bn}{f:FuncId}(hs:Sl ua 1 W h s ks)(hL:RxL W h ks L)(hn:L.length≤256)(hf:∀i (hi:i<L.length) {b:Nat} {sl:ByteArray},RxN W h b sl L[i].2.1 L[i].2.2→∀{K:Bool→ae→Prop},K false h→HC PG f [.pointer (some ⟨b,0,none⟩)] [.c .bool] K h){K:Bool→ae→Prop}(hk:K false h):
  HC PG cW [.slice s.a s.len s.cap,.func (.func f) #[] #[]] [.c .bool] K h:=by
 refine j6 s _ ?_;unfold fF cr;refine kO s _ ?_;unfold gf bM cB;have hlen:=hs.len;rw[hL.1]at hlen;refine LoopP.ghost (fun(i:Nat) (t:Int) h'=>t=(i:Int)∧i≤L.length∧h'=h) (fun i=>L.length-i) 0 ⟨rfl,aW _,rfl⟩ ?_
 rintro I i t h' ⟨rfl,hi,rfl⟩ hI;refine az (fun hlt=>?_) fun _=>hk
 have hlt:i<L.length:=by omega
 obtain⟨kb,ksl,hki,hkl,kn⟩:=hL.at hlt;obtain⟨a,ha,_,hv⟩:=hs.at0 hki;refine⟨⟨by omega,by omega⟩,a,ha,_,hv,HV.mk' (hf i hlt kn (aj.2 ?_))⟩
 rw[cS hlt (by omega)];exact hI (i+1) _ _ ⟨rfl,hlt,rfl⟩ (by omega)
def ZD(n:Bn):Prop:=∀{W:Nat→Prop} {h:ae} {b:Nat} {sl:ByteArray},RxN W h b sl n.2.1 n.2.2→∀{K:Bool→ae→Prop},K true h→HC PG kW [.pointer (some ⟨b,0,none⟩)] [.c .bool] K h
theorem X8{lab:List UInt8}{w:Option ByteArray}{F:Fo}(hc:gJ F)(hw:w.isSome∨2≤F.toL.length)(ih:∀n∈F.toL,ZD n):ZD (lab,w,F):=by
 intro W h b sl r K hk;simp only at r;obtain⟨val,s,ow,ks,hb,hv,hs,hcp,hF⟩:=r;have hL:=oM.1 hF;have hlen:=hs.len;rw[hL.1]at hlen;refine y9 (some ⟨b,0,none⟩) ?_;unfold sm bR cP;refine Join.intro (fun t h'=>t=false∧h'=h) (fun R hR=>?_) ?_
 ·refine FQ hb hs hL hc (aj.2 ⟨_,rfl,w.isSome,eT (i:=1) hb,?_⟩)
  cases hwS:w.isSome with
  |true=>exact aj.2 (hR _ _ ⟨rfl,rfl⟩)
  |false=>
   refine ay.2 ⟨_,rfl,s,eT (i:=3) hb,hR _ _ ⟨decide_eq_false ?_,rfl⟩⟩;rw[hwS]at hw;rcases hw with hw|hw
   ·cases hw
   ·omega
 ·rintro t h' ⟨rfl,rfl⟩
  refine aj.2 ⟨_,rfl,s,eT (i:=3) hb,JU hs hL (lP hc) (fun i hi b sl kn K' hk'=>?_) hk⟩
  refine xA _ ?_;unfold qq;exact ih _ (bw hi) kn hk'
theorem Lh:∀{F:Fo},gJ F→∀n∈F.toL,ZD n
 | .nil,_,n,hn=>by simp[Fo.toL]at hn
 | .cons lab w kids rest,h,n,hn=>by
  rcases aB.1 hn with rfl|hn
  ·exact X8 h.2.2.1 h.2.1 (Lh h.2.2.1)
  ·exact Lh h.2.2.2.2 n hn
theorem Og{W:Nat→Prop}{h:ae}{b:Nat}{l:List Pr}(t:RadAt W h b l){K:Bool→ae→Prop}(hk:K true h):HC PG vf [.pointer (some ⟨b,0,none⟩)] [.c .bool] K h:=by
 obtain⟨w,F,r,hc,_⟩:=t.ex;obtain⟨val,s,ow,ks,hb,hv,hs,hcp,hF⟩:=r;have hL:=oM.1 hF;refine Is (some ⟨b,0,none⟩) ?_;unfold zM bR aO;refine ay.2 ⟨_,rfl,_,eT (i:=0) hb,?_⟩;rw[beq_self_eq_true];refine ay.2 (FQ hb hs hL hc (ay.2 ⟨_,rfl,s,eT (i:=3) hb,JU hs hL (lP hc) (fun i hi b sl kn K' hk'=>?_) hk⟩))
 refine EY _ ?_;unfold xi;exact Lh hc _ (bw hi) kn hk'
theorem RB{W:Nat→Prop}{x:Hs}{h:ae}{kind:Int}{t:Tr}{l:List Pr}(i:TreeIs W h kind x t l)(tb:Tab h)(hr:bO l)(hn:l.length≤60000){K:Bool→ae→Prop}(hk:∀h',Upd No h h'→K true h'):HC PG pL [A4 t] [.c .bool] K h:=by
 refine Cd t ?_;unfold uF aU af cM aH vr pj sQ;refine aS fun h1 b1 k1=>⟨_,vc b1 0,?_⟩
 rcases i with⟨_,b,rfl,t⟩|⟨_,b,rfl,t⟩
 ·refine aj.2 ⟨_,js b1 1 0,_,js b1 1 1,_,js b1 1 2,_,vc b1 0,_,vc b1 1,_,vc b1 2,_,vc b1 3,_,vc b1 4,_,vc b1 5,?_⟩
  refine yF (TrieAt.upd0 k1 t) fun h2 k2=>⟨⟨js (k2.get0 b1) 1 0,js (k2.get0 b1) 1 1,js (k2.get0 b1) 1 2⟩,?_⟩
  refine Im (x.k0,x.k1,x.mask) _ ?_;unfold zH af zt vr nm;refine aS fun h3 b3 k3=>aj.2 ⟨_,vc b3 0,_,vc b3 1,_,vc b3 2,?_⟩
  have k03:=(k1.tr k2).tr k3;refine UR 13 (aq _) (sw:=⟨none,0,0⟩) (way:= []) (TrieAt.upd0 k03 t) (tb.upd k03 id) (Sl.nil XP) (aq _) rfl (fun p _ i c hc=>by simp at hc) hr hn fun h4 k4=>?_
  exact hk h4 (k03.tr k4)
 ·refine ay.2 ⟨_,vc b1 5,Og (t.upd0 k1) (hk h1 k1)⟩
end Go.Proofs
namespace Go.Proofs
open Go Go.Lift
theorem Rx{kind:Int}{x:Hs}{l:List Pr}{xs:List UInt8}(hv:JV kind x l xs)(hf:Fit l)(hn:l.length≤60000):xs.length≤100000000000:=by
 rcases hv with⟨_,rfl⟩|⟨_,ys,hr,rfl⟩
 ·have h1:=oU (x:=x) 13 hf
  have h2:l.length*(20004+9*(13+1))≤60000*(20004+9*(13+1)):=cy _ hn;rw[ar];omega
 ·have h1:=Bm hr hf
  rw[ar];omega
theorem RS{W:Nat→Prop}{x:Hs}{h:ae}{kind:Int}{r:Rt}{l:List Pr}(hkd:kind=0∨kind=1)(i:RefIs W h kind x r l)(hr:bO l)(hf:Fit l)(hn:l.length≤60000){K:SliceV→ae→Prop}
  (hk:∀s' h' xs,OwnS pu 1 cH (fun y=>h.size≤y) h' s' xs→JV kind x l xs→Upd No h h'→K s' h'):HC PG yg [NQ r] [.c .slice] K h:=by
 refine Nl r ?_;unfold Ey aU cM cx vr CM uV;obtain⟨s,rfl,hs,hc⟩:=i;have hs:=hs.less (W':=No) fun _ h=>h.elim
 refine aS fun h1 b1 k1=>⟨_,vc b1 0,?_⟩
 have s1:=k1.size;rcases hkd with rfl|rfl
 ·refine aj.2 (aS fun h3 b3 k3=>⟨_,js (k3.get0 b1) 1 0,_,js (k3.get0 b1) 1 1,_,js (k3.get0 b1) 1 2,s,vc (k3.get0 b1) 4,?_⟩)
  have ob:=yV (b:=0) b3;have u3:=k1.tr k3;have e0:∀v,hx 0 v=v:=fun v=>if_pos rfl
  simp only[e0];refine TV (x:=x) (hs.upd u3 fun _ h=>h.elim) hn (fun p hp=>by have:=hf p hp;omega) fun h4 b td k4=>?_
  have s3:=k3.size;have s4:=k4.size;refine V7 13 (aq _) td hf hn fun s5 h5 ho5 k5=>?_
  have s5':=k5.size;have hlen:=oU (x:=x) 13 hf;have h2:l.length*(20004+9*(13+1))≤60000*(20004+9*(13+1)):=cy _ hn;refine yp (M:=fun y=>h1.size≤y) ((ob.upd k4 fun _ _ h=>h).upd k5 fun _ _ h=>h) (ho5.sl (W:=No) fun _ _ _ h=>h) (fun y hy=>by show h1.size≤y;omega) (by simp;omega) fun s6 h6 ho6 k6=>?_
  exact hk s6 h6 _ (ho6.more fun y hy=>bh s1 hy) (.inl ⟨rfl,rfl⟩) (((u3.tr k4).tr k5).trans k6 fun y hy=>.inr (bh s1 hy))
 ·refine ay.2 (aS fun h3 b3 k3=>⟨s,vc (k3.get0 b1) 4,?_⟩)
  have ob:=yV (b:=1) b3;have u3:=k1.tr k3;refine V4 (hs.upd u3 fun _ h=>h.elim) hc hr hn (fun p hp=>by have:=hf p hp;have:=OW p.1;show(ky p).length≤_;unfold ky;omega) fun h4 b w F dx hcF hpr k4=>?_
  have s3:=k3.size;have s4:=k4.size;obtain⟨hfit,hw⟩:=xZ hcF hpr hf;have hrv:Pw l (jd ([],w,F)):=⟨w,F,hcF,hpr,rfl⟩;have hlen:=Bm hrv hf;refine Q5 (lab:= []) (by simp) hw (lP hcF) (GC hfit) dx rfl (by omega) fun s5 h5 ho5 k5=>?_
  have s5':=k5.size;refine yp (M:=fun y=>h1.size≤y) ((ob.upd k4 fun _ _ h=>h).upd k5 fun _ _ h=>h) (ho5.sl (W:=No) fun _ _ _ h=>h) (fun y hy=>by show h1.size≤y;omega) (by simp;omega) fun s6 h6 ho6 k6=>?_
  exact hk s6 h6 _ (ho6.more fun y hy=>bh s1 hy) (.inr ⟨rfl,_,hrv,rfl⟩) (((u3.tr k4).tr k5).trans k6 fun y hy=>.inr (bh s1 hy))
theorem Sk{W W':Nat→Prop}{x:Hs}{h:ae}{kind:Int}{t:Tr}{r:Rt}{l:List Pr}(tb:Tab h)(i:TreeIs W h kind x t l)(j:RefIs W' h kind x r l)(hr:bO l)(hf:Fit l)(hn:l.length≤60000){K:Bool→ae→Prop}(hk:∀h',Upd No h h'→K true h'):HC PG AD [A4 t,NQ r] [.c .bool] K h:=by
 refine PT t r ?_;unfold Hy aU af aH cx pj CM sQ CR Qi;have hkd:kind=0∨kind=1:=i.imp (fun h=>h.1) fun h=>h.1
 refine aS fun h1 b1 k1=>aS fun h2 b2 k2=>?_
 have u2:=k1.tr k2;have c1:=k2.get0 b1;refine⟨_,vc c1 0,_,vc c1 1,_,vc c1 2,_,vc c1 3,_,vc c1 4,_,vc c1 5,_,vc b2 0,_,vc b2 1,_,vc b2 2,_,vc b2 3,r.2.2.2.2,vc b2 4,?_⟩;refine RA (i.upd0 u2) hr hf hn fun s3 h3 xs hv3 ho3 k3=>⟨⟨vc (k3.get0 b2) 0,vc (k3.get0 b2) 1,vc (k3.get0 b2) 2,vc (k3.get0 b2) 3,vc (k3.get0 b2) 4⟩,?_⟩
 have u3:=u2.tr k3;refine RS hkd (j.upd0 u3) hr hf hn fun s4 h4 ys ho4 hv4 k4=>?_
 have u4:=u3.tr k4;have e:xs=ys:=(Tw (fun _=>rfl) hv3 hv4 hf hf hn hn hr hr).2 rfl
 subst e;have hl:=Rx hv3 hf hn;refine RV ((ho3.upd k4 fun _ _ h=>h).sl (W:=No) fun _ _ _ h=>h) (ho4.sl (W:=No) fun _ _ _ h=>h) (by omega) ?_
 have c4:=k4.get0 (k3.get0 c1);refine ay.2 ⟨_,vc c4 0,_,vc c4 1,_,vc c4 2,_,vc c4 3,_,vc c4 4,_,vc c4 5,?_⟩;exact RB (i.upd0 u4) (tb.upd u4 id) hr hn fun h5 k5=>hk h5 (u4.tr k5)
end Go.Proofs
namespace Go.Proofs
open Go Go.Lift
theorem YM{h:ae}{t:TypeId}{c:Cf}{k:ae→Prop}(hk:∀h',h'[h.size]? =some (.cells (vM c).toArray t (0,0))→Upd No h h'→k h'):
  At (hnew h (vM Vz) t) fun h8=>r9 h8 (some (aE h)) 0 (vM c)∧At (gG h8 (aE h) 0 (vM c)) k:=
 aS fun _ b1 k1=>cO (c:=vM Vz) (vs:=vM c) b1 rfl fun h2 b2 hu2=>hk h2 b2 (k1.own hu2 (aq _))
theorem RJ{W W':Nat→Prop}{h:ae}{s s':SliceV}{l:List Cf}(hs:Sl vM 7 W h s l)(hs':Sl vM 7 W' h s' l)(hn:l.length≤1000000){K:Bool→ae→Prop}(hk:∀h',Upd No h h'→K true h'):HC PG AC [.slice s.a s.len s.cap,.slice s'.a s'.len s'.cap] [.c .bool] K h:=by
 refine PS s s' ?_;unfold Hx cB nv aO aw cP Ba A5;have e1:=hs.len;have e2:=hs'.len;refine CondP.intro (fun hne=>?_) fun _=>?_
 ·rw[e1,e2]at hne;simp at hne
 refine LoopP.ghost (fun(i:Nat) (t:Int) h'=>t=(i:Int)∧i≤l.length∧Upd No h h') (fun i=>l.length-i) 0 ⟨rfl,aW _,Upd.refl _ _⟩ ?_
 rintro I i t h' ⟨rfl,hi,hu⟩ hI;refine az (fun hlt=>?_) fun _=>hk _ hu
 have hlt:i<l.length:=by omega
 obtain⟨a,ha,_,hv⟩:=(hs.upd hu fun _ h=>h.elim).at (ag hlt)
 have hsl':=hs'.upd hu fun _ h=>h.elim
 refine⟨⟨by omega,by omega⟩,a,ha,_,hv 0 _ rfl,_,hv 1 _ rfl,_,hv 2 _ rfl,_,hv 3 _ rfl,_,hv 4 _ rfl,_,hv 5 _ rfl,_,hv 6 _ rfl,?_⟩
 refine YM (c:=l[i]) fun h13 b13 k13=>?_
 obtain⟨a',ha',_,hw⟩:=(hsl'.upd k13 fun _ h=>h.elim).at (ag hlt)
 generalize l[i]=c at b13 hw⊢;refine Join.intro (fun t h2=>t=false∧h2=h13) (fun R hR=>?_) ?_
 ·refine⟨c.1,vc b13 0,⟨by omega,by omega⟩,a',ha',c.1,hw 0 _ rfl,?_⟩
  rw[gd,decide_eq_true rfl];refine aj.2 ⟨c.2.1.1,js b13 1 0,c.2.1.2,js b13 1 1,⟨by omega,by omega⟩,a',ha',c.2.1.1,by rw[pW];exact hw 1 _ rfl,c.2.1.2,by rw[pW];exact hw 2 _ rfl,?_⟩
  rw[Kv c.2.1 c.2.1,decide_eq_true rfl];refine aj.2 ⟨c.2.2.1.1,js b13 3 0,c.2.2.1.2,js b13 3 1,⟨by omega,by omega⟩,a',ha',c.2.2.1.1,by rw[pW];exact hw 3 _ rfl,c.2.2.1.2,by rw[pW];exact hw 4 _ rfl,?_⟩
  rw[Kv c.2.2.1 c.2.2.1,decide_eq_true rfl];refine aj.2 ⟨c.2.2.2.1,js b13 5 0,c.2.2.2.2,js b13 5 1,⟨by omega,by omega⟩,a',ha',c.2.2.2.1,by rw[pW];exact hw 5 _ rfl,c.2.2.2.2,by rw[pW];exact hw 6 _ rfl,?_⟩
  rw[Kv c.2.2.2 c.2.2.2,decide_eq_true rfl];exact hR _ _ ⟨rfl,rfl⟩
 ·rintro t h2 ⟨rfl,e'⟩
  rw[e'];refine aj.2 ?_;rw[cS hlt (by omega)];exact hI (i+1) _ _ ⟨rfl,hlt,hu.tr k13⟩ (by omega)
theorem Sg{p:Int}(hp:p<0∨3<p):Jn p=⟨#[]⟩:=by
 unfold Jn;rw[if_neg (by omega),if_neg (by omega),if_neg (by omega),if_neg (by omega)]
theorem HU{h:ae}{tb to tt:Tr}{p:Int}(hb:(p<0∨3<p)∨(jj tb to&&jj tb tt)=false){K:Tr×SliceV×Int→ae→Prop}(hk:∀h',Upd No h h'→K (to,⟨none,0,0⟩,if p<0∨3<p then 1 else 11) h'):
  HC PG qF [A4 tb,A4 to,A4 tt,.int .i64 p] [.agg [.int .i64,.int .u64,.int .u64,.int .u64,.ptr,.ptr],.c .slice,.c (.int .i64)] K h:=by
 refine G7 tb to tt p ?_;unfold AV cB aU af aH di nv xB pj sQ Fz aO aw Am MK cP cT NU vq FA A6 vA Ba A5 zv pH;refine aS fun h1 b1 k1=>aS fun h2 b2 k2=>aS fun h3 b3 k3=>aS fun h4 b4 k4=>?_
 have s3:h.size≤h3.size:=((k1.tr k2).tr k3).size;have k04:=((k1.tr k2).tr k3).tr k4;have c0:=k4.get0 (k3.get0 (k2.get0 b1));have c1:=k4.get0 (k3.get0 b2);have c2:=k4.get0 b3;refine MD ?_;by_cases hp:p<0∨3<p
 ·rw[gd,decide_eq_true (Sg hp)]
  rw[if_pos hp]at hk;refine ay.2 ⟨_,vc c1 0,_,vc c1 1,_,vc c1 2,_,vc c1 3,_,vc c1 4,_,vc c1 5,?_⟩;refine cO (c:=ly HL) (vs:=ly to) b4 rfl fun h13 b13 hu13=>?_
  exact⟨_,vc b13 0,_,vc b13 1,_,vc b13 2,_,vc b13 3,_,vc b13 4,_,vc b13 5,hk h13 (k04.own hu13 s3)⟩
 ·rw[gd,decide_eq_false (Gb (by omega) (by omega))]
  rw[if_neg hp]at hk;have hb:=hb.resolve_left hp;refine aj.2 ?_;refine Join.intro (fun t h'=>t=true∧Upd No h4 h') (fun R hR=>?_) ?_
  ·refine⟨_,vc c0 0,_,vc c0 1,_,vc c0 2,_,vc c0 3,_,vc c0 4,_,vc c0 5,_,vc c1 0,_,vc c1 1,_,vc c1 2,_,vc c1 3,_,vc c1 4,_,vc c1 5,?_⟩
   refine xG (t:=tb) (u:=to) fun h5 k5=>?_
   cases hl:jj tb to with
   |false=>exact ay.2 (hR _ _ ⟨rfl,k5⟩)
   |true=>
    rw[hl,mh]at hb;have d0:=k5.get0 c0;have d2:=k5.get0 c2;refine aj.2 ⟨_,vc d0 0,_,vc d0 1,_,vc d0 2,_,vc d0 3,_,vc d0 4,_,vc d0 5,_,vc d2 0,_,vc d2 1,_,vc d2 2,_,vc d2 3,_,vc d2 4,_,vc d2 5,?_⟩;refine xG (t:=tb) (u:=tt) fun h6 k6=>?_
    rw[hb];exact hR _ _ ⟨rfl,k5.tr k6⟩
  rintro t h50 ⟨rfl,k50⟩;have d1:=k50.get0 c1;refine ay.2 ⟨_,vc d1 0,_,vc d1 1,_,vc d1 2,_,vc d1 3,_,vc d1 4,_,vc d1 5,?_⟩;refine cO (c:=ly HL) (vs:=ly to) (k50.get0 b4) rfl fun h13 b13 hu13=>?_
  exact⟨_,vc b13 0,_,vc b13 1,_,vc b13 2,_,vc b13 3,_,vc b13 4,_,vc b13 5,hk h13 ((k04.tr k50).own hu13 s3)⟩
theorem Mq{h:ae}{tb to tt:Rt}{p:Int}(hb:(p<0∨3<p)∨(BA tb to&&BA tb tt)=false){K:Rt×SliceV×Int→ae→Prop}(hk:∀h',Upd No h h'→K (to,⟨none,0,0⟩,if p<0∨3<p then 1 else 11) h'):
  HC PG yf [NQ tb,NQ to,NQ tt,.int .i64 p] [.agg [.int .i64,.int .u64,.int .u64,.int .u64,.slice],.c .slice,.c (.int .i64)] K h:=by
 refine Nk tb to tt p ?_;unfold Hi cB aU zr af cM cx bR di nv HH CM CR Yl LS aO aw kZ ij dS qn cP cT FA A6 vA Ba A5 zv pH;refine aS fun h1 b1 k1=>aS fun h2 b2 k2=>aS fun h3 b3 k3=>aS fun h4 b4 k4=>?_
 have s3:h.size≤h3.size:=((k1.tr k2).tr k3).size;have k04:=((k1.tr k2).tr k3).tr k4;have c0:=k4.get0 (k3.get0 (k2.get0 b1));have c1:=k4.get0 (k3.get0 b2);have c2:=k4.get0 b3;refine Join.intro (fun t h'=>t=decide (p<0∨3<p)∧h'=h4) (fun R hR=>?_) ?_
 ·refine az (fun e=>hR _ _ ⟨(decide_eq_true (.inl e)).symm,rfl⟩) fun e=>hR _ _ ⟨decide_eq_decide.2 (by omega),rfl⟩
 rintro _ h7 ⟨rfl,e7⟩;rw[e7];refine az (fun hp=>?_) fun hp=>?_
 ·rw[if_pos hp]at hk
  refine⟨_,vc c1 0,_,vc c1 1,_,vc c1 2,_,vc c1 3,to.2.2.2.2,vc c1 4,?_⟩;refine cO (c:=nU NR) (vs:=nU to) b4 rfl fun h13 b13 hu13=>?_
  exact⟨_,vc b13 0,_,vc b13 1,_,vc b13 2,_,vc b13 3,to.2.2.2.2,vc b13 4,hk h13 (k04.own hu13 s3)⟩
 ·rw[if_neg hp]at hk
  have hb:=hb.resolve_left hp;refine Join.intro (fun t h'=>t=true∧Upd No h4 h') (fun R hR=>?_) ?_
  ·refine⟨_,vc c0 0,_,vc c0 1,_,vc c0 2,_,vc c0 3,tb.2.2.2.2,vc c0 4,_,vc c1 0,_,vc c1 1,_,vc c1 2,_,vc c1 3,to.2.2.2.2,vc c1 4,?_⟩
   refine Bp (r:=tb) (q:=to) fun h5 k5=>?_
   cases hl:BA tb to with
   |false=>exact ay.2 (hR _ _ ⟨rfl,k5⟩)
   |true=>
    rw[hl,mh]at hb;have d0:=k5.get0 c0;have d2:=k5.get0 c2;refine aj.2 ⟨_,vc d0 0,_,vc d0 1,_,vc d0 2,_,vc d0 3,tb.2.2.2.2,vc d0 4,_,vc d2 0,_,vc d2 1,_,vc d2 2,_,vc d2 3,tt.2.2.2.2,vc d2 4,?_⟩;refine Bp (r:=tb) (q:=tt) fun h6 k6=>?_
    rw[hb];exact hR _ _ ⟨rfl,k5.tr k6⟩
  rintro t h50 ⟨rfl,k50⟩;have d1:=k50.get0 c1;refine ay.2 ⟨_,vc d1 0,_,vc d1 1,_,vc d1 2,_,vc d1 3,to.2.2.2.2,vc d1 4,?_⟩;refine cO (c:=nU NR) (vs:=nU to) (k50.get0 b4) rfl fun h13 b13 hu13=>?_
  exact⟨_,vc b13 0,_,vc b13 1,_,vc b13 2,_,vc b13 3,to.2.2.2.2,vc b13 4,hk h13 ((k04.tr k50).own hu13 s3)⟩
theorem Jq{W W':Nat→Prop}{h h':ae}{kind kind':Int}{x x':Hs}{t u:Tr}{l l':List Pr}(i:TreeIs W h kind x t l)(i':TreeIs W' h' kind' x' u l')(e:jj t u=true):kind'=kind∧(kind=0→x'=x):=by
 rcases i with⟨rfl,b,rfl,_⟩|⟨rfl,b,rfl,_⟩<;>rcases i' with⟨rfl,b',rfl,_⟩|⟨rfl,b',rfl,_⟩
 ·refine⟨rfl,fun _=>?_⟩
  cases x;cases x';simp[jj]at e;simp[e.1.1,e.1.2,e.2]
 ·simp[jj]at e
 ·simp[jj]at e
 ·exact⟨rfl,fun h=>by cases h⟩
theorem TreeIs.turn{W:Nat→Prop}{h:ae}{kind kind':Int}{x x':Hs}{u:Tr}{l:List Pr}(i:TreeIs W h kind' x' u l)(e:kind'=kind∧(kind=0→x'=x)):TreeIs W h kind x u l:=by
 obtain⟨rfl,e⟩:=e;rcases i with⟨h0,b,eu,t⟩|⟨h1,b,eu,t⟩
 ·rw[←e h0];exact .inl ⟨h0,b,eu,t⟩
 ·exact .inr ⟨h1,b,eu,t⟩
theorem RefIs.turn{W:Nat→Prop}{h:ae}{kind kind':Int}{x x':Hs}{r:Rt}{l:List Pr}(hkd:kind=0∨kind=1)(i:RefIs W h kind' x' r l)(e:kind'=kind∧(kind=0→x'=x)):RefIs W h kind x r l:=by
 obtain⟨rfl,e⟩:=e;obtain⟨s,er,hs⟩:=i;rcases hkd with rfl|rfl
 ·rw[←e rfl];exact⟨s,er,hs⟩
 ·exact⟨s,er,hs⟩
end Go.Proofs
namespace Go.Proofs
open Go Go.Lift
theorem uw:iH [(bA,b1)] [(bA,b1),(bB,b3)]= [(bB,⟨#[]⟩,b3,false,true)]:=by
 rw[ru (a:=(bA,b1)) (b:=(bA,b1)) rfl,jm];unfold xy;rw[if_pos rfl];rfl
theorem Uk(v w:ByteArray):look [(bA,v),(bB,w)] bB=some w:=by
 rw[fc,if_neg (fun e:bA=bB=>Y1 e.symm),fc,if_pos rfl]
theorem ME(v:ByteArray):look [(bA,v)] bB=none:=by
 rw[fc,if_neg (fun e:bA=bB=>Y1 e.symm)];rfl
theorem zT:tk [(bA,b1)] [(bA,b2)] [(bA,b1),(bB,b3)] 0 bB=(some b3,true):=by
 unfold tk;rw[ME,ME,Uk];unfold rW;rw[if_neg (by rintro(h|h)<;>cases h),if_pos rfl]
theorem En:(tx [(bA,b1)] [(bA,b2)] [(bA,b1),(bB,b3)] 0)= []:=by
 unfold tx Dv;rw[uw,List.map_singleton,List.filter_cons,zT];rfl
theorem HT:sY [(bA,b1)] [(bA,b2)] [(bA,b1),(bB,b3)] 0= [(bA,b2),(bB,b3)]:=by
 unfold sY pF;rw[uw,jh,List.foldl_nil];simp only;rw[zT];show gC (bB,b3) [(bA,b2)]=_
 rw[fX,if_pos Zf];rfl
theorem Pp{h:ae}{K:Bool→ae→Prop}(hk:∀h',Upd No h h'→K true h'):HC PG yj [] [.c .bool] K h:=by
 refine Ny ?_;unfold EI cB aU af aH nv xB pj sQ Sn aO ij vE Y8 Yo;refine aS fun h1 b1' k1=>?_
 have hs:Sl eg 2 No h1 ⟨some (aE h),1,1⟩ [(bA,b1)]:=⟨rfl,fk,fun _=>⟨_,rfl,fun h=>h.elim,ng b1' fun i v hv=>by simpa using hv⟩⟩
 refine vh TF TG (by omega) (W:=No) (x:=⟨0,0,0⟩) hs (fun _ h=>h.elim) (by simp) (fun p hp=>by have:=IS (v:=b1) (by decide) p hp;omega) fun h3 t i3 k3=>?_
 rw[Qs]at i3;refine xP (t:=t) fun h5 b5 k5=>?_
 refine aS fun h6 b6 k6=>?_
 have hs6:Sl eg 2 No h6 ⟨some (aE h5),1,1⟩ [(bA,b2)]:=⟨rfl,fk,fun _=>⟨_,rfl,fun h=>h.elim,ng b6 fun i v hv=>by simpa using hv⟩⟩
 refine vh TF TG (by omega) (W:=No) (x:=⟨0,0,0⟩) hs6 (fun _ h=>h.elim) (by simp) (fun p hp=>by have:=IS (v:=b2) (by decide) p hp;omega) fun h8 u i8 k8=>?_
 rw[Qs]at i8;refine xP (t:=u) fun h10 b10 k10=>?_
 refine aS fun h11 b11 k11=>?_
 have hs11:Sl eg 2 No h11 ⟨some (aE h10),2,2⟩ [(bA,b1),(bB,b3)]:=⟨rfl,fk,fun _=>⟨_,rfl,fun h=>h.elim,ng b11 fun i v hv=>by simpa using hv⟩⟩
 refine vh TF TG (by omega) (W:=No) (x:=⟨0,0,0⟩) hs11 (fun _ h=>h.elim) (by simp) (fun p hp=>by have:=RG (v:=b1) (w:=b3) (by decide) (by decide) p hp;omega) fun h13 w i13 k13=>?_
 rw[VP]at i13;refine xP (t:=w) fun h15 b15 k15=>?_
 have k1015:=(k11.tr k13).tr k15;have k515:=((k6.tr k8).tr k10).tr k1015;have c5:=k515.get0 b5;have c10:=k1015.get0 b10;refine⟨_,vc c5 0,_,vc c5 1,_,vc c5 2,_,vc c5 3,_,vc c5 4,_,vc c5 5,_,vc c10 0,_,vc c10 1,_,vc c10 2,_,vc c10 3,_,vc c10 4,_,vc c10 5,_,vc b15 0,_,vc b15 1,_,vc b15 2,_,vc b15 3,_,vc b15 4,_,vc b15 5,?_⟩;have fB:Few 2 [(bA,b1)]:=⟨cC ..,by decide,fun p hp=>by rw[aF.1 hp];exact⟨(by decide:bA.size≤30),(by decide:b1.size≤30)⟩⟩
 have fO:Few 2 [(bA,b2)]:=⟨cC ..,by decide,fun p hp=>by rw[aF.1 hp];exact⟨(by decide:bA.size≤30),(by decide:b2.size≤30)⟩⟩
 have fT:Few 2 [(bA,b1),(bB,b3)]:=⟨IX,by decide,fun p hp=>by
  rcases aB.1 hp with rfl|hp
  ·exact⟨(by decide:bA.size≤30),(by decide:b1.size≤30)⟩
  ·rw[aF.1 hp];exact⟨(by decide:bB.size≤30),(by decide:b3.size≤30)⟩⟩
 refine Ee (p:=0) (i3.upd0 (k5.tr k515)) (i8.upd0 (k10.tr k1015)) (i13.upd0 k15) (fun _ h=>h.elim) fB fO fT (by omega) (by omega) (by omega) (by omega) (by omega) (UI fB fT (by omega) (by omega) (by rw[uw];decide)) (fun c hc=>by
  rw[uw]at hc
  rw[aF.1 hc]
  simp only
  rw[zT]
  exact XA _ _) (fun _ hne=>absurd En hne) fun _ h35 o so i35 ho35 k35=>?_
 rw[En]at ho35;have hz35:=ho35.len;rw[HT]at i35;refine xP (t:=o) fun h37 b37 k37=>?_
 refine⟨_,vc b37 0,_,vc b37 1,_,vc b37 2,_,vc b37 3,_,vc b37 4,_,vc b37 5,?_⟩;refine N3 (W':=No) (i35.upd0 k37) IX (by decide) (fun _ h=>h.elim) fun s45 h45 hs45 k45=>?_
 have hlen:=hs45.len;obtain⟨a,ha,_,hv⟩:=hs45.at (i:=0) (x:=(bA,b2)) rfl;obtain⟨a',ha',_,hv'⟩:=hs45.at (i:=1) (x:=(bB,b3)) rfl;rw[ha]at ha';cases ha';refine ay.2 ?_;rw[show((so.len:Int)==(0:Int))=true by rw[hz35];rfl]
 refine ay.2 ?_;rw[show((s45.len:Int)==(2:Int))=true by rw[hlen];rfl]
 refine ay.2 ⟨⟨by omega,by rw[hlen];decide⟩,a,ha,b2,hv 1 _ rfl,?_⟩
 rw[beq_self_eq_true];refine ay.2 ⟨⟨by omega,by rw[hlen];decide⟩,a,ha,b3,hv' 1 _ rfl,?_⟩
 rw[beq_self_eq_true];exact hk h45 ((((((k1.tr k3).tr k5).tr k515).tr k35).tr k37).tr k45)
end Go.Proofs
namespace Go.Proofs
open Go Go.Lift
def mX(L0 l:List Pr):List Pr:=(l.take 20).foldl (fun acc p=>gC (H5 p) acc) L0
theorem JC{L0 l:List Pr}{i:Nat}(hi:i<l.length)(hh20:i<20):mX L0 (l.take (i+1))=gC (H5 l[i]) (mX L0 (l.take i)):=by
 unfold mX;rw[m7,m7,jR (by omega),jR (by omega),List.take_succ_eq_append_getElem hi,List.foldl_append];rfl
theorem JD{L0 l:List Pr}{i:Nat}(hh20:20≤i):mX L0 (l.take (i+1))=mX L0 (l.take i):=by
 unfold mX;rw[m7,m7,bN (by omega),bN (by omega)]
theorem Ap{n:Nat}{L0:List Pr}(f:Few n L0)(l:List Pr):Few (n+20) (mX L0 l):=by
 unfold mX;have:∀(m:List Pr) (n:Nat) (acc:List Pr),Few n acc→Few (n+m.length) (m.foldl (fun acc p=>gC (H5 p) acc) acc):=by
  intro m;induction m with
  |nil=>intro n acc h;exact h
  |cons p m ih=>
   intro n acc h;have:=ih (n+1) _ (h.ins (H5 p) (wU _) (wU _));rw[jh,ar];rw[Nat.add_assoc,Nat.add_comm 1]at this;exact this
 have h:=this (l.take 20) n L0 f;exact⟨h.up,bh h.len (by rw[List.length_take];omega),h.fit⟩
theorem Ub{x:Hs}{h:ae}{K:Int×Int×Int→ae→Prop}(hk:∀h',Upd No h h'→K (x.k0,x.k1,x.mask) h'):HC PG Ds [.agg #[.int .u64 x.k0,.int .u64 x.k1,.int .u64 x.mask]] [.agg [.int .u64,.int .u64,.int .u64]] K h:=by
 refine S0 (x.k0,x.k1,x.mask) ?_;unfold Kc af cM di zt Y7 Y9;refine aS fun h1 b1 k1=>aS fun h2 b2 k2=>?_
 have c1:=k2.get0 b1;refine⟨_,js c1 0 0,_,js c1 0 1,_,vc c1 2,?_⟩;refine cO (c:= [.int .u64 0,.int .u64 0,.int .u64 0]) (vs:= [.int .u64 x.k0,.int .u64 x.k1,.int .u64 x.mask]) b2 rfl fun h3 b3 hu3=>?_
 exact⟨_,vc b3 0,_,vc b3 1,_,vc b3 2,hk h3 ((k1.tr k2).own hu3 k1.size)⟩
theorem GR{W:Nat→Prop}{x:Hs}{h:ae}{k:Int}(h0:0≤k)(h1:k≤255)(hW:∀y,W y→y<h.size){K:Tr×Rt→ae→Prop}
  (hk:∀h' t r,TreeIs W h' (IntKind.wrap .i64 (kM k 2)) x t []→RefIs W h' (IntKind.wrap .i64 (kM k 2)) x r []→Upd No h h'→K (t,r) h'):
  HC PG ur [.int .u8 k,.agg #[.int .u64 x.k0,.int .u64 x.k1,.int .u64 x.mask]] [.agg [.int .i64,.int .u64,.int .u64,.int .u64,.ptr,.ptr],.agg [.int .i64,.int .u64,.int .u64,.int .u64,.slice]] K h:=by
 refine Nx k (x.k0,x.k1,x.mask) ?_;unfold EH aU af aH cx di nv zt vr xB HH pj CM Fz LS LL vE KT Eg;have hkd:=YR h0 h1;generalize IntKind.wrap .i64 (kM k 2)=kind at hkd hk⊢;refine aS fun h1 b1 k1=>aS fun h2 b2 k2=>aS fun h3 b3 k3=>⟨by decide,?_⟩
 have z1:=aZ b1;have z2:=aZ b2;have z3:=aZ b3;have s1:h.size≤h1.size:=k1.size;have s2:h1.size≤h2.size:=k2.size;have k03:=(k1.tr k2).tr k3;have c1:=k3.get0 (k2.get0 b1);have c2:=k3.get0 b2;have s3:=k3.size;refine⟨_,vc c1 0,_,vc c1 1,_,vc c1 2,?_⟩;refine Qq (W:=Pro W h h3) (x:=x) (Pro.lt hW k03) hkd fun h8 t i8 k8=>?_
 refine xP (t:=t) fun h10 b10 k810=>⟨by decide,?_⟩
 have s8:=k8.size;have XC:=k810.size;have z10:=aZ b10;have d1:=k810.get0 (k8.get0 c1);refine⟨_,vc d1 0,_,vc d1 1,_,vc d1 2,?_⟩;refine Ub (x:=x) fun h15 k15=>?_
 have s15:=k15.size;refine V5 (x:=x) (W:=Pro W h h3) hkd fun h17 r j17 k17=>?_
 have s17:=k17.size;refine QM (r:=r) fun hL bL k17L=>?_
 have sL:=k17L.size;have zL:=aZ bL;have k8L:Upd No h8 hL:=((k810.tr k15).tr k17).tr k17L;have kL:Upd No h hL:=(k03.tr k8).tr k8L;have tL:=k17L.get0 ((k15.tr k17).get0 b10);have rL1:=k8L.get0 (k8.get0 c2);have rL2:=k8L.get0 (k8.get0 b3);have hP1:Pro W h h3 h1.size:=.inr (by omega);have hP2:Pro W h h3 h2.size:=.inr (by omega);refine⟨_,vc tL 0,_,vc tL 1,_,vc tL 2,_,vc tL 3,_,vc tL 4,_,vc tL 5,_,vc bL 0,_,vc bL 1,_,vc bL 2,_,vc bL 3,r.2.2.2.2,vc bL 4,?_⟩
 refine cO (c:=ly HL) (vs:=ly t) rL1 rfl fun h70 b70 hu70=>?_
 have x70:=hu70.oth bL (by omega);refine⟨⟨vc x70 0,vc x70 1,vc x70 2,vc x70 3,vc x70 4⟩,?_⟩;refine cO (c:=nU NR) (vs:=nU r) (hu70.oth rL2 (by omega)) rfl fun h71 b71 hu71=>?_
 have t71:=hu71.oth b70 (by omega);refine⟨_,vc t71 0,_,vc t71 1,_,vc t71 2,_,vc t71 3,_,vc t71 4,_,vc t71 5,_,vc b71 0,_,vc b71 1,_,vc b71 2,_,vc b71 3,r.2.2.2.2,vc b71 4,?_⟩;refine hk h71 t r ((((i8.upd0 k8L).updM hu70 fun y hy=>.inl (by have hy:y=h1.size:=hy;rw[hy];exact hP1)).updM hu71 fun y hy=>.inl (by have hy:y=h2.size:=hy;rw[hy];exact hP2)).less Pro.sub) ((((j17.upd0 k17L).updM hu70 fun y hy=>.inl (by have hy:y=h1.size:=hy;rw[hy];exact hP1)).updM hu71 fun y hy=>.inl (by have hy:y=h2.size:=hy;rw[hy];exact hP2)).less Pro.sub) ((kL.own hu70 s1).own hu71 (by omega))
end Go.Proofs
namespace Go.Proofs
open Go Go.Lift
theorem CX{h:ae}{b:Nat}{t:TypeId}{A c B vs:List Value}{a:Addr}(hb:h[b]? =some (.cells (A++c++B).toArray t (0,0))) (ha:a=⟨b,A.length,none⟩) (hl:vs.length=c.length) {k:ae→Prop}
  (hk:∀h',h'[b]? =some (.cells (A++vs++B).toArray t (0,0))→Upd (· =b) h h'→k h'):r9 h (some a) 0 vs∧At (gG h a 0 vs) k:=by
 subst ha;have hlen:(A++c++B).length=A.length+vs.length+B.length:=by rw[ac,ac,hl]
 have e:=jJ vs h 0 A.length (A++c++B) hb (by omega);refine⟨.inr ⟨_,rfl,fun j hj=>by rw[bX];exact ii hb (by rw[List.size_toArray];omega)⟩,bE ?_⟩
 rw[e];refine hk _ ?_ (Upd.set h _ rfl);rw[j4 hb];congr 3
 rw[Nat.add_zero,hl,←ac,List.drop_left,List.append_assoc A c B,List.take_left]
def w3(t0 t1 t2:Tr)(r0 r1 r2:Rt):List Value:=ly t0++(ly t1++(ly t2++(nU r0++(nU r1++nU r2))))
end Go.Proofs
namespace Go.Proofs
open Go Go.Lift
end Go.Proofs
namespace Go.Proofs
open Go Go.Lift
set_option maxHeartbeats 1000000 in
theorem Ei{W:Nat→Prop}{x:Hs}{h:ae}{s:SliceV}{l L0 R0:List Pr}{kind:Int}{t:Tr}{r:Rt}{n:Nat}(it:TreeIs W h kind x t L0)(jr:RefIs W h kind x r R0)(fw0:Few n L0)(fr0:Few n R0)(hn0:n≤1000)(hs:Sl eg 2 W h s l)(hW:∀y,W y→y<h.size)(hn:l.length≤9223372036854775807){K:Tr×Rt→ae→Prop}
  (hk:∀h' t' r',TreeIs W h' kind x t' (mX L0 l)→RefIs W h' kind x r' (mX R0 l)→Upd No h h'→K (t',r') h'):
  HC PG uq [A4 t,NQ r,.slice s.a s.len s.cap,.slice none 0 0] [.agg [.int .i64,.int .u64,.int .u64,.int .u64,.ptr,.ptr],.agg [.int .i64,.int .u64,.int .u64,.int .u64,.slice]] K h:=by
 refine Nw t r s ⟨none,0,0⟩ ?_;unfold EG bM cB aU af aH cx di nv xB HH pj CM sQ CR Fz LS aO aw kZ ij vE dS qn KT;refine aS fun h1 b1 k1=>aS fun h2 b2 k2=>aS fun h3 b3 k3=>aS fun hL b4 k4=>?_
 have z1:=aZ b1;have z2:=aZ b2;have z3:=aZ b3;have z4:=aZ b4;have s1:h.size≤h1.size:=k1.size;have s2:h1.size≤h2.size:=k2.size;have s3:h2.size≤h3.size:=k3.size;have s4:=k4.size;have kL:Upd No h hL:=((k1.tr k2).tr k3).tr k4;have t0:=k4.get0 (k3.get0 (k2.get0 b1));have x0:=k4.get0 (k3.get0 b2);have rL1:=k4.get0 b3;have rL2:=b4;have iL:=it.pro kL;have jL:RefIs (Pro W h hL) hL kind x r R0:=(jr.less (W':=Pro W h hL) Pro.hm).upd0 kL
 have hWL:=Pro.lt hW kL;have hPt:Pro W h hL h.size:=.inr (by omega);have hPx:Pro W h hL h1.size:=.inr (by omega);have hP1:Pro W h hL h2.size:=.inr (by omega);have hP2:Pro W h hL h3.size:=.inr (by omega);have hlen:=hs.len;refine LoopP.ghost (fun(i:Nat) (ti:Int) h'=>ti=(i:Int)∧i≤l.length∧(∃tv rv,TreeIs (Pro W h hL) h' kind x tv (mX L0 (l.take i))∧RefIs (Pro W h hL) h' kind x rv (mX R0 (l.take i))∧h'[h.size]? =some (.cells (ly tv).toArray bI (0,0))∧h'[h1.size]? =some (.cells (nU rv).toArray cG (0,0)))∧Upd (fun y=>y=h.size∨y=h1.size) hL h') (fun i=>l.length-i) 0 ⟨rfl,aW _,⟨t,r,iL,jL,t0,x0⟩,Upd.refl _ _⟩ ?_
 rintro I i ti h' ⟨rfl,hi,⟨tv,rv,it,jr,bt,bx⟩,hu⟩ hI;have hus:=hu.size;have hu0:Upd No h h':=kL.trans hu fun y hy=>.inr (by rcases hy with rfl|rfl<;>omega)
 refine az (fun hlt=>?_) fun hge=>?_
 ·have hlt:i<l.length:=by omega
  obtain⟨a,ha,_,hv⟩:=(hs.upd hu0 fun _ h=>h.elim).at (ag hlt)
  refine Join.intro (fun _ h2'=>(∃tv rv,TreeIs (Pro W h hL) h2' kind x tv (mX L0 (l.take (i+1)))∧RefIs (Pro W h hL) h2' kind x rv (mX R0 (l.take (i+1)))∧h2'[h.size]? =some (.cells (ly tv).toArray bI (0,0))∧h2'[h1.size]? =some (.cells (nU rv).toArray cG (0,0)))∧Upd (fun y=>y=h.size∨y=h1.size) hL h2') (fun R hR=>⟨⟨by omega,by omega⟩,a,ha,l[i].1,hv 0 _ rfl,l[i].2,hv 1 _ rfl,?_⟩) ?_
  ·refine qo (p:=l[i]) fun h28 b28 k28=>?_
   have z28:=aZ b28;have nt:h'.size≠h.size:=by omega
   have nx:h'.size≠h1.size:=by omega
   refine az (fun hh20=>?_) fun hh20=>?_
   ·have hh20:i<20:=by omega
    rw[JC hlt hh20,JC hlt hh20]at hR;obtain⟨q1,e1⟩:=YX l[i].1;obtain⟨q2,e2⟩:=YX l[i].2;refine⟨_,vc b28 0,_,vc b28 0,q1,?_⟩;simp only[Bd];refine⟨_,vc b28 1,_,vc b28 1,q2,?_⟩;rw[e1,e2];refine uU (c':= #[.string (BV l[i].1),.string l[i].2]) b28 (by simp) rfl fun h29 b29 hu29=>?_
    refine uU (c':= #[.string (BV l[i].1),.string (BV l[i].2)]) b29 (by simp) rfl fun h35 b35 hu35=>?_
    have k35:Upd No h' h35:=(k28.own hu29 (aq _)).own hu35 (aq _);have t35:=k35.get0 bt;have x35:=k35.get0 bx;have s35:=k35.size;have fw:=Ap fw0 (l.take i);have fl:=fw.len;have gw:=Ap fr0 (l.take i);have gl:=gw.len;have p1:=wU l[i].1;have p2:=wU l[i].2;refine⟨_,vc t35 0,_,vc t35 1,_,vc t35 2,_,vc t35 3,_,vc t35 4,_,vc t35 5,_,vc b35 0,_,vc b35 1,?_⟩;refine LZ (it.upd0 k35) (fun y hy=>aQ (hWL y hy) (by omega)) fw.up (by omega) (H5 l[i]) (by unfold H5;simp only;omega) (by unfold H5;simp only;omega) fun h45 t' i45 _ k45=>?_
    refine cO (c:=ly tv) (vs:=ly t') (k45.get0 t35) rfl fun h46 t46 hu46=>?_
    have x46:=hu46.oth (k45.get0 x35) (by omega);have p46:=hu46.oth (k45.get0 b35) nt;have j46:=((jr.upd0 k35).upd0 k45).updM hu46 fun y hy=>.inl (by have hy:y=h.size:=hy;rw[hy];exact hPt)
    have s45:=k45.size;have s46:=hu46.size;refine⟨_,vc x46 0,_,vc x46 1,_,vc x46 2,_,vc x46 3,rv.2.2.2.2,vc x46 4,_,vc p46 0,_,vc p46 1,?_⟩;refine TU j46 (fun y hy=>aQ (hWL y hy) (by omega)) gw.up (by omega) (H5 l[i]) (by unfold H5;simp only;omega) (by unfold H5;simp only;omega) fun h55 r' j55 k55=>?_
    refine cO (c:=nU rv) (vs:=nU r') (k55.get0 x46) rfl fun h56 x56 hu56=>hR _ _ ⟨⟨t',r',?_,j55.updM hu56 fun y hy=>.inl (by have hy:y=h1.size:=hy;rw[hy];exact hPx),hu56.oth (k55.get0 t46) (by omega),x56⟩,?_⟩
    ·exact((i45.updM hu46 fun y hy=>.inl (by have hy:y=h.size:=hy;rw[hy];exact hPt)).upd0 k55).updM hu56 fun y hy=>.inl (by have hy:y=h1.size:=hy;rw[hy];exact hPx)
    ·exact((((hu.tr k35.wide).tr k45.wide).trans hu46 fun y hy=>.inl (.inl hy)).tr k55.wide).trans hu56 fun y hy=>.inl (.inr hy)
   ·have hh20:20≤i:=by omega
    rw[JD hh20,JD hh20]at hR;exact hR _ _ ⟨⟨tv,rv,it.upd0 k28,jr.upd0 k28,k28.get0 bt,k28.get0 bx⟩,hu.tr k28.wide⟩
  ·rintro _ h2' ⟨hex,hu2⟩
   rw[lE hlt hn];exact hI (i+1) _ _ ⟨rfl,hlt,hex,hu2⟩ (by omega)
 ·have hil:i=l.length:=by omega
  subst hil;rw[List.take_length]at it jr;have y1:=hu.get rL1 (by rintro(e|e)<;>omega)
  have y2:=hu.get rL2 (by rintro(e|e)<;>omega)
  refine LoopP.ghost (fun(_:Unit) (ti:Int) h2'=>ti=0∧h2'=h') (fun _=>0) () ⟨rfl,rfl⟩ ?_
  rintro I2 _ ti h2' ⟨rfl,e⟩ hI2;rw[e];refine az (fun hlt=>absurd hlt (by simp only;omega)) fun _=>?_
  refine⟨_,vc bt 0,_,vc bt 1,_,vc bt 2,_,vc bt 3,_,vc bt 4,_,vc bt 5,_,vc bx 0,_,vc bx 1,_,vc bx 2,_,vc bx 3,rv.2.2.2.2,vc bx 4,?_⟩;refine cO (c:=ly HL) (vs:=ly tv) y1 rfl fun h70 b70 hu70=>?_
  have x70:=hu70.oth bx (by omega);refine⟨⟨vc x70 0,vc x70 1,vc x70 2,vc x70 3,vc x70 4⟩,?_⟩;refine cO (c:=nU NR) (vs:=nU rv) (hu70.oth y2 (by omega)) rfl fun h71 b71 hu71=>?_
  have t71:=hu71.oth b70 (by omega);refine⟨_,vc t71 0,_,vc t71 1,_,vc t71 2,_,vc t71 3,_,vc t71 4,_,vc t71 5,_,vc b71 0,_,vc b71 1,_,vc b71 2,_,vc b71 3,rv.2.2.2.2,vc b71 4,?_⟩;refine hk h71 tv rv (((it.updM hu70 fun y hy=>.inl (by have hy:y=h2.size:=hy;rw[hy];exact hP1)).updM hu71 fun y hy=>.inl (by have hy:y=h3.size:=hy;rw[hy];exact hP2)).less Pro.sub) (((jr.updM hu70 fun y hy=>.inl (by have hy:y=h2.size:=hy;rw[hy];exact hP1)).updM hu71 fun y hy=>.inl (by have hy:y=h3.size:=hy;rw[hy];exact hP2)).less Pro.sub) ((hu0.own hu70 (by omega)).own hu71 (by omega))
end Go.Proofs
namespace Go.Proofs
open Go Go.Lift
theorem KO{h:ae}{t:Tr}{r:Rt}{k:ae→ae→Prop}(hk:∀h1 h',h.size<h1.size→h1.size<h'.size→h'[h.size]? =some (.cells (ly t).toArray bI (0,0))→h'[h1.size]? =some (.cells (nU r).toArray cG (0,0))→Upd No h h'→k h1 h'):
  At (hnew h (ly HL) bI) (fun h1=>At (hnew h1 (nU NR) cG) (fun h2=>r9 h2 (some (aE h)) 0 (ly t)∧At (gG h2 (aE h) 0 (ly t)) (fun h3=>r9 h3 (some (aE h1)) 0 (nU r)∧At (gG h3 (aE h1) 0 (nU r)) (k h1)))):=by
 refine aS fun h1 b1 k1=>aS fun h2 b2 k2=>?_
 have z1:=aZ b1;have z2:=aZ b2;refine cO (c:=ly HL) (vs:=ly t) (k2.get0 b1) rfl fun h3 b3 u3=>?_
 refine cO (c:=nU NR) (vs:=nU r) (u3.oth b2 (by omega)) rfl fun h4 b4 u4=>?_
 have s3:=u3.size;have s4:=u4.size;exact hk h1 h4 z1 (by omega) (u4.oth b3 (by omega)) b4 (((k1.tr k2).own u3 (aq _)).own u4 k1.size)
theorem YA{h:ae}{b j:Nat}{ty:TypeId}{a u:Tr}{ad:Addr}(hj:j<3)(hb:h[b]? =some (.cells (ly a++(ly a++ly a)).toArray ty (0,0))) (ha:ad=⟨b,j*6,none⟩) {k:ae→Prop}
  (hk:∀h',h'[b]? =some (.cells (ly (if j=0 then u else a)++(ly (if j=1 then u else a)++ly (if j=2 then u else a))).toArray ty (0,0))→Upd (· =b) h h'→k h'):r9 h (some ad) 0 (ly u)∧At (gG h ad 0 (ly u)) k:=by
 have hj:j=0∨j=1∨j=2:=by omega
 rcases hj with rfl|rfl|rfl
 ·exact CX (A:= []) (c:=ly a) (B:=ly a++ly a) (vs:=ly u) hb ha rfl hk
 ·exact CX (A:=ly a) (c:=ly a) (B:=ly a) (vs:=ly u) hb ha rfl hk
 ·exact CX (A:=ly a++ly a) (c:=ly a) (B:= []) (vs:=ly u) hb ha rfl hk
theorem YB{h:ae}{b j:Nat}{ty:TypeId}{a u:Rt}{ad:Addr}(hj:j<3)(hb:h[b]? =some (.cells (nU a++(nU a++nU a)).toArray ty (0,0))) (ha:ad=⟨b,j*5,none⟩) {k:ae→Prop}
  (hk:∀h',h'[b]? =some (.cells (nU (if j=0 then u else a)++(nU (if j=1 then u else a)++nU (if j=2 then u else a))).toArray ty (0,0))→Upd (· =b) h h'→k h'):r9 h (some ad) 0 (nU u)∧At (gG h ad 0 (nU u)) k:=by
 have hj:j=0∨j=1∨j=2:=by omega
 rcases hj with rfl|rfl|rfl
 ·exact CX (A:= []) (c:=nU a) (B:=nU a++nU a) (vs:=nU u) hb ha rfl hk
 ·exact CX (A:=nU a) (c:=nU a) (B:=nU a) (vs:=nU u) hb ha rfl hk
 ·exact CX (A:=nU a++nU a) (c:=nU a) (B:= []) (vs:=nU u) hb ha rfl hk
def PkE(L:List Pr)(h:ae)(t:Tr)(r:Rt):Prop:=∃kind x,TreeIs No h kind x t L∧RefIs No h kind x r L
theorem PkE.upd0{L:List Pr}{h h':ae}{t:Tr}{r:Rt}(k:Upd No h h')(i:PkE L h t r):PkE L h' t r:=
 let⟨kind,x,i,j⟩:=i;⟨kind,x,i.upd0 k,j.upd0 k⟩
theorem PkE.pick{L:List Pr}{h:ae}{a b:Tr}{r s:Rt}(p:PkE L h a r)(q:PkE L h b s)(c:Prop)[Decidable c]:PkE L h (if c then b else a) (if c then s else r):=by
 split
 ·exact q
 ·exact p
theorem HX{h:ae}{L:List Pr}{tb to tt:Tr}{rb ro rt:Rt}{p:Int}(fL:Few 200 L)(Pb:PkE L h tb rb)(Po:PkE L h to ro)(Pt:PkE L h tt rt){K:Tr×SliceV×Int→ae→Prop}
  (hk:∀h2 u s (e:Int) kind x,TreeIs No h2 kind x u L→Sl vM 7 No h2 s []→Upd No h h2→
   (∀h3 (K2:Rt×SliceV×Int→ae→Prop),Upd No h2 h3→(∀h4 r s',RefIs No h4 kind x r L→Sl vM 7 No h4 s' []→Upd No h3 h4→K2 (r,s',e) h4)→HC PG yf [NQ rb,NQ ro,NQ rt,.int .i64 p] [.agg [.int .i64,.int .u64,.int .u64,.int .u64,.slice],.c .slice,.c (.int .i64)] K2 h3)→K (u,s,e) h2):
  HC PG qF [A4 tb,A4 to,A4 tt,.int .i64 p] [.agg [.int .i64,.int .u64,.int .u64,.int .u64,.ptr,.ptr],.c .slice,.c (.int .i64)] K h:=by
 obtain⟨kb,xb,ib,jb⟩:=Pb;obtain⟨ko,xo,io,jo⟩:=Po;obtain⟨kt,xt,it,jt⟩:=Pt;by_cases hb:(p<0∨3<p)∨(jj tb to&&jj tb tt)=false
 ·refine HU hb fun h2 k2=>?_
  refine hk h2 to ⟨none,0,0⟩ _ ko xo (io.upd0 k2) (Sl.nil GK) k2 fun h3 K2 k3 hk2=>?_
  refine Mq (by rw[←QT ib io jb jo,←QT ib it jb jt];exact hb) fun h4 k4=>?_
  exact hk2 h4 ro _ (jo.upd0 ((k2.tr k3).tr k4)) (Sl.nil GK) k4
 ·have hp:0≤p∧p≤3:=by
   constructor<;>exact Int.not_lt.1 fun h=>hb (.inl (by omega))
  have hl:jj tb to=true∧jj tb tt=true:=by
   have:¬(jj tb to&&jj tb tt)=false:=fun h=>hb (.inr h)
   simpa using this
  have e1:=Jq ib io hl.1;have e2:=Jq ib it hl.2;have hkd:kb=0∨kb=1:=ib.imp (fun h=>h.1) fun h=>h.1
  have io:=io.turn e1;have it:=it.turn e2;have jo:=jo.turn hkd e1;have jt:=jt.turn hkd e2;have c0:iH L L= []:=yn L;have m0:sY L L L p=L:=by unfold sY pF;rw[c0];rfl
  have n0:tx L L L p= []:=by unfold tx Dv;rw[c0];rfl
  refine Ee ib io it (fun _ h=>h.elim) fL fL fL (by omega) (by omega) (by omega) hp.1 hp.2 (UI fL fL (by omega) (by omega) (by rw[c0];simp)) (fun c hc=>by rw[c0]at hc;cases hc) (fun _ hne=>absurd n0 hne) fun _ h2 u s i2 hs k2=>?_
  rw[m0]at i2;rw[n0]at hs;refine hk h2 u s 0 kb xb i2 (hs.sl fun _ _ _ h=>h) k2 fun h3 K2 k3 hk2=>?_
  refine T3 (jb.upd0 (k2.tr k3)) (jo.upd0 (k2.tr k3)) (jt.upd0 (k2.tr k3)) (fun _ h=>h.elim) fL fL fL (by omega) (by omega) (by omega) hp.1 hp.2 (fun _ hne=>absurd n0 hne) fun _ h4 r' s' j' hs' k4=>?_
  rw[m0]at j';rw[n0]at hs';exact hk2 h4 r' s' j' hs' k4
set_option maxHeartbeats 1000000 in
theorem HW{h:ae}{k k' at' p:Int}{x y:Hs}{s:SliceV}{l:List Pr}(tb:Tab h)(hs:Sl eg 2 No h s l)(hl:l.length≤9223372036854775807)(hk0:0≤k)(hk1:k≤255)(hk0':0≤k')(hk1':k'≤255)(ha0:0≤at')(ha1:at'≤255):
  HC PG vI [.int .u8 k,.int .u8 k',.agg #[.int .u64 x.k0,.int .u64 x.k1,.int .u64 x.mask],.agg #[.int .u64 y.k0,.int .u64 y.k1,.int .u64 y.mask],.slice s.a s.len s.cap,.int .u8 at',.int .i64 p] [.c .bool] (fun b h'=>b=true∧Upd No h h') h:=by
 refine DL k k' (x.k0,x.k1,x.mask) (y.k0,y.k1,y.mask) s at' p ?_;unfold wg cB aU zr af cM aH rX cx bR di ml nv zt vr xB HH pj CM sQ CR zl3 vl3 zl4 Yl Fz LS Qi KU Sn Wq;obtain⟨j,hj,ej⟩:∃j:Nat,j<3∧kM at' 3=(j:Int):=⟨(at'%3).toNat,by omega,by rw[Int.tmod_eq_emod_of_nonneg ha0];omega⟩
 refine aS fun h1 b1 k1=>aS fun h2 b2 k2=>Pp fun h4 k4=>aj.2 ?_
 have c1:=k4.get0 (k2.get0 b1);have c2:=k4.get0 b2;have k04:=(k1.tr k2).tr k4;refine⟨_,vc c1 0,_,vc c1 1,_,vc c1 2,?_⟩;refine GR (W:=No) (x:=x) hk0 hk1 (fun _ h=>h.elim) fun h9 t r i9 j9 k9=>KO (t:=t) (r:=r) fun h10 h13 z9 z10 b9 b10 k13=>?_
 have d2:=k13.get0 (k9.get0 c2);have i13:=i9.upd0 k13;have j13:=j9.upd0 k13;have k013:=(k04.tr k9).tr k13;refine⟨_,vc d2 0,_,vc d2 1,_,vc d2 2,?_⟩;refine GR (W:=No) (x:=y) hk0' hk1' (fun _ h=>h.elim) fun h18 u q i18 j18 k18=>KO (t:=u) (r:=q) fun h19 h22 z18 z19 b18 b19 k22=>?_
 have k1322:=k18.tr k22;have e9:=k1322.get0 b9;have e10:=k1322.get0 b10;have k022:=k013.tr k1322;refine⟨_,vc e9 0,_,vc e9 1,_,vc e9 2,_,vc e9 3,_,vc e9 4,_,vc e9 5,_,vc e10 0,_,vc e10 1,_,vc e10 2,_,vc e10 3,r.2.2.2.2,vc e10 4,?_⟩;refine Ei (W:=No) (i13.upd0 k1322) (j13.upd0 k1322) BK BK (by omega) (hs.upd k022 fun _ h=>h.elim) (fun _ h=>h.elim) hl fun h35 a ax ia ja k35=>KO (t:=a) (r:=ax) fun h36 h39 z35 z36 b35 b36 k39=>?_
 have k2239:=k35.tr k39;have f18:=k2239.get0 b18;have f19:=k2239.get0 b19;have k039:=k022.tr k2239;refine⟨_,vc f18 0,_,vc f18 1,_,vc f18 2,_,vc f18 3,_,vc f18 4,_,vc f18 5,_,vc f19 0,_,vc f19 1,_,vc f19 2,_,vc f19 3,q.2.2.2.2,vc f19 4,?_⟩;refine Ei (W:=No) ((i18.upd0 k22).upd0 k2239) ((j18.upd0 k22).upd0 k2239) BK BK (by omega) (hs.upd k039 fun _ h=>h.elim) (fun _ h=>h.elim) hl fun h52 b bx ib jb k52=>KO (t:=b) (r:=bx) fun h53 h56 z52 z53 b52 b53 k56=>?_
 have fL:Few 200 (mX [] l):=(Ap BK l).mono (by omega);have Pa:PkE (mX [] l) h56 a ax:=⟨_,_,((ia.upd0 k39).upd0 k52).upd0 k56,((ja.upd0 k39).upd0 k52).upd0 k56⟩;have Pb:PkE (mX [] l) h56 b bx:=⟨_,_,ib.upd0 k56,jb.upd0 k56⟩;have k3956:=k52.tr k56;have k056:=k039.tr k3956;have g35:=k3956.get0 b35;have g36:=k3956.get0 b36;clear ia ja ib jb i9 j9 i13 j13 i18 j18;refine⟨_,vc g35 0,_,vc g35 1,_,vc g35 2,_,vc g35 3,_,vc g35 4,_,vc g35 5,_,vc g35 0,_,vc g35 1,_,vc g35 2,_,vc g35 3,_,vc g35 4,_,vc g35 5,_,vc g35 0,_,vc g35 1,_,vc g35 2,_,vc g35 3,_,vc g35 4,_,vc g35 5,?_⟩
 refine aS fun h75 b75 k75=>?_
 refine cO (c:=ly HL++(ly HL++ly HL)) (vs:=ly a++(ly a++ly a)) b75 rfl fun h76 b76 u76=>?_
 have k76:=k75.own u76 (aq _);have m36:=k76.get0 g36;refine⟨_,vc m36 0,_,vc m36 1,_,vc m36 2,_,vc m36 3,ax.2.2.2.2,vc m36 4,_,vc m36 0,_,vc m36 1,_,vc m36 2,_,vc m36 3,ax.2.2.2.2,vc m36 4,_,vc m36 0,_,vc m36 1,_,vc m36 2,_,vc m36 3,ax.2.2.2.2,vc m36 4,?_⟩;refine aS fun h92 b92 k92=>?_
 refine cO (c:=nU NR++(nU NR++nU NR)) (vs:=nU ax++(nU ax++nU ax)) b92 rfl fun h93 b93 u93=>?_
 have k93:=k92.own u93 (aq _);have k5693:=k76.tr k93;have n52:=k5693.get0 b52;have n53:=k5693.get0 b53;have w93:=k93.get0 b76;have z93:=aZ b93;have s76:=k76.size;have z76:=aZ b76;rw[ej];refine⟨by decide,by decide,_,vc n52 0,_,vc n52 1,_,vc n52 2,_,vc n52 3,_,vc n52 4,_,vc n52 5,_,vc n53 0,_,vc n53 1,_,vc n53 2,_,vc n53 3,bx.2.2.2.2,vc n53 4,⟨by omega,by omega⟩,?_⟩
 refine YA (j:=j) (u:=b) hj w93 (by show adr ⟨h56.size,0,none⟩ (j*6)=_;rw[bX,aM]) fun h105 b105 u105=>?_
 have n53':=u105.oth n53 (by omega);refine⟨⟨vc n53' 0,vc n53' 1,vc n53' 2,vc n53' 3,vc n53' 4⟩,⟨by omega,by omega⟩,?_⟩
 refine YB (j:=j) (u:=bx) hj (u105.oth b93 (by omega)) (by show adr ⟨h76.size,0,none⟩ (j*5)=_;rw[bX,aM]) fun h106 b106 u106=>?_
 have b105':=u106.oth b105 (by omega);have k56106:Upd No h56 h106:=(k5693.own u105 (aq _)).own u106 (by omega);have k0106:=k056.tr k56106;have P0:=(Pa.upd0 k56106).pick (Pb.upd0 k56106) (j=0);have P1:=(Pa.upd0 k56106).pick (Pb.upd0 k56106) (j=1);have P2:=(Pa.upd0 k56106).pick (Pb.upd0 k56106) (j=2);generalize (if j=0 then b else a)=t0 at*
 generalize (if j=1 then b else a)=t1 at*
 generalize (if j=2 then b else a)=t2 at*
 generalize (if j=0 then bx else ax)=r0 at*
 generalize (if j=1 then bx else ax)=r1 at*
 generalize (if j=2 then bx else ax)=r2 at*
 refine⟨by decide,t0.1,js b105' 0 0,t0.2.1,js b105' 0 1,t0.2.2.1,js b105' 0 2,t0.2.2.2.1,js b105' 0 3,t0.2.2.2.2.1,js b105' 0 4,t0.2.2.2.2.2,js b105' 0 5,by decide,t1.1,js b105' 6 0,t1.2.1,js b105' 6 1,t1.2.2.1,js b105' 6 2,t1.2.2.2.1,js b105' 6 3,t1.2.2.2.2.1,js b105' 6 4,t1.2.2.2.2.2,js b105' 6 5,by decide,t2.1,js b105' 12 0,t2.2.1,js b105' 12 1,t2.2.2.1,js b105' 12 2,t2.2.2.2.1,js b105' 12 3,t2.2.2.2.2.1,js b105' 12 4,t2.2.2.2.2.2,js b105' 12 5,?_⟩
 refine HX fL P0 P1 P2 fun h126 v sc e kind z iL hsc k126 hr=>?_
 refine xP (t:=v) fun h128 b128 k128=>?_
 have w128:=(k126.tr k128).get0 b106;refine⟨by decide,r0.1,js w128 0 0,r0.2.1,js w128 0 1,r0.2.2.1,js w128 0 2,r0.2.2.2.1,js w128 0 3,r0.2.2.2.2,js w128 0 4,by decide,r1.1,js w128 5 0,r1.2.1,js w128 5 1,r1.2.2.1,js w128 5 2,r1.2.2.2.1,js w128 5 3,r1.2.2.2.2,js w128 5 4,by decide,r2.1,js w128 10 0,r2.2.1,js w128 10 1,r2.2.2.1,js w128 10 2,r2.2.2.2.1,js w128 10 3,r2.2.2.2.2,js w128 10 4,?_⟩
 refine hr h128 _ k128 fun h145 r sc' jL hsc' k145=>?_
 refine QM (r:=r) fun h147 b147 k147=>?_
 have k126147:=(k128.tr k145).tr k147;have k0147:=(k0106.tr k126).tr k126147;have v147:=(k145.tr k147).get0 b128;have lL:=fL.len;rw[show(e==e)=true by simp]
 refine ay.2 ⟨_,vc v147 0,_,vc v147 1,_,vc v147 2,_,vc v147 3,_,vc v147 4,_,vc v147 5,_,vc b147 0,_,vc b147 1,_,vc b147 2,_,vc b147 3,r.2.2.2.2,vc b147 4,?_⟩;refine Sk (tb.upd k0147 id) (iL.upd0 k126147) (jL.upd0 k147) fL.up fL.fits (by omega) fun h160 k160=>ay.2 ?_
 exact RJ (hsc.upd (k126147.tr k160) fun _ h=>h.elim) (hsc'.upd (k147.tr k160) fun _ h=>h.elim) (aW _) fun h162 k162=>⟨rfl,(k0147.tr k160).tr k162⟩
end Go.Proofs
