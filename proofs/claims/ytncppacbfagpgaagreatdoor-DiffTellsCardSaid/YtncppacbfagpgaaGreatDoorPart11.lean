/- A part of the proof that the named laws of this program answer true, whatever the input. -/
import Derived.Test.YtncppacbfagpgaaGreatDoorPart10
import Derived.Test.YtncppacbfagpgaaGreatDoorPart9
import Derived.Test.YtncppacbfagpgaaGreatDoorPart8
import Derived.Test.YtncppacbfagpgaaGreatDoorPart4
import Derived.Sort.AssemblyPlain
open Bool renaming and_eq_true→bH
open Int renaming tdiv→gj,tdiv_eq_ediv_of_nonneg→dB,natCast_mul→q9
open List renaming getElem?_eq_getElem→ae,getElem_mem→bw,any_eq_true→cA,take_succ_eq_append_getElem→aV,take_length→bT,pairwise_singleton→cy,length_take→aI,getElem_take→kq,pairwise_iff_getElem→ce,mem_cons_self→av,mem_cons_of_mem→aC,take_take→iK,foldl_append→tx
open Nat renaming zero_le→aS,le_refl→aj,min_eq_right→il,min_eq_left→bN,le_trans→bh,lt_of_lt_of_le→aD,le_of_eq→fS
namespace Go.Proofs
open Go Go.Lift
theorem Yi(k o n:ByteArray):pg (k,o,n,false,true)=decide (o=⟨#[]⟩):=by simp[pg]
theorem Yh(k o n:ByteArray):pg (k,o,n,true,false)=decide (n=⟨#[]⟩):=by simp[pg]
theorem Yg(k o n:ByteArray):pg (k,o,n,true,true)= !decide (o=n):=by simp[pg]
theorem TO{c:Ch}{h:ad}{K:Bool→ad→Prop}(a:∀h',Upd No h h'→K (pg c) h'):HC PG qk [.agg #[.string c.1,.string c.2.1,.string c.2.2.1,.bool c.2.2.2.1,.bool c.2.2.2.2]] [.c .bool] K h:=by
 refine Cg c ?_;unfold vH az jR Jt;refine aW fun b b1 k1=>?_
 obtain⟨k,o,n,w,i⟩:=c;have a:=a b k1;refine Join.plain ?_;cases w<;>cases i
 ·exact⟨false,vc b1 3,au.2 ⟨false,vc b1 4,au.2 (au.2 a)⟩⟩
 ·rw[Yi]at a
  refine⟨false,vc b1 3,au.2 ⟨true,vc b1 4,ag.2 ⟨false,vc b1 3,ag.2 (ag.2 ⟨false,vc b1 3,ag.2 ⟨o,vc b1 1,?_⟩⟩)⟩⟩⟩;rw[fg];cases e:decide (o=⟨#[]⟩)with
  |true=>rw[e]at a;exact au.2 ⟨true,vc b1 4,au.2 a⟩
  |false=>rw[e]at a;exact ag.2 a
 ·rw[Yh]at a
  refine⟨true,vc b1 3,ag.2 ⟨true,vc b1 3,au.2 ⟨false,vc b1 4,ag.2 (ag.2 ⟨true,vc b1 3,au.2 ⟨false,vc b1 4,ag.2 ⟨n,vc b1 2,?_⟩⟩⟩)⟩⟩⟩;rw[fg];exact a
 ·rw[Yg]at a
  refine⟨true,vc b1 3,ag.2 ⟨true,vc b1 3,au.2 ⟨true,vc b1 4,au.2 ⟨o,vc b1 1,n,vc b1 2,?_⟩⟩⟩⟩;rw[fg];cases e:decide (o=n)with
  |true=>rw[e]at a;exact au.2 a
  |false=>rw[e]at a;exact ag.2 ⟨true,vc b1 3,au.2 ⟨true,vc b1 4,au.2 a⟩⟩
theorem EM{W:Nat→Prop}{h:ad}{s:SliceV}{l:List Ch}{f:Value}{p:Ch→Bool}(o:Sl tI 5 W h s l)(y:l.length≤1000000)
  (hv:∀c∈l,∀h',Upd No h h'→∀{K':Bool→ad→Prop},(∀h'',Upd No h' h''→K' (p c) h'')→HV PG f [.agg #[.string c.1,.string c.2.1,.string c.2.2.1,.bool c.2.2.2.1,.bool c.2.2.2.2]] [.c .bool] K' h')
  {K:Bool→ad→Prop}(q:∀h',Upd No h h'→K (l.any p) h'):HC PG dg [.slice s.a s.len s.cap,f] [.c .bool] K h:=by
 refine md s f ?_;unfold gO;refine mQ s f ?_;unfold ig bX ay bK mo;have x:=o.len;refine LoopP.ghost (fun(i:Nat) (t:Int) h'=>t=(i:Int)∧i≤l.length∧(l.take i).any p=false∧Upd No h h') (fun i=>l.length-i) 0 ⟨rfl,aS _,rfl,Upd.refl _ _⟩ ?_
 rintro I i t h' ⟨rfl,hi,g,e⟩ w;refine ax (fun b=>?_) fun v=>?_
 ·have b:i<l.length:=by omega
  obtain⟨a,k,_,d⟩:=(o.upd e fun _ h=>h.elim).at (ae b)
  refine⟨⟨by omega,by omega⟩,a,k,_,d 0 _ rfl,_,d 1 _ rfl,_,d 2 _ rfl,_,d 3 _ rfl,_,d 4 _ rfl,?_⟩
  refine hv l[i] (bw b) h' e fun h2 n=>?_
  refine CondP.intro (fun m=>?_) fun m=>?_
  ·have u:l.any p=true:=cA.2 ⟨_,bw b,m⟩
   have:=q h2 (e.tr n);rw[u]at this;show K (decide ((i:Int)≥0)) h2
   rw[show decide ((i:Int)≥0)=true from decide_eq_true (by omega)]
   exact this
  ·rw[ga b (by omega)]
   refine w (i+1) _ _ ⟨rfl,b,?_,e.tr n⟩ (by omega);rw[aV b,List.any_append,g,Bool.false_or];simpa using m
 ·have j:i=l.length:=by omega
  rw[j,bT]at g;have:=q h' e;rw[g]at this;exact this
theorem QD{h:ad}(c:Ch){K:Bool→ad→Prop}(a:∀h',Upd No h h'→K (!pg c) h'):HV PG (.func (.func wB) #[] #[]) [.agg #[.string c.1,.string c.2.1,.string c.2.2.1,.bool c.2.2.2.1,.bool c.2.2.2.2]] [.c .bool] K h:=by
 refine⟨.inl ⟨_,#[],#[],rfl,?_⟩⟩;refine KB c ?_;unfold Bs az jR Jt mo;refine aW fun d b1 k1=>⟨_,vc b1 0,_,vc b1 1,_,vc b1 2,_,vc b1 3,_,vc b1 4,?_⟩
 exact TO fun h2 b=>a h2 (k1.tr b)
def rk(l:List Ch):Int:=if oo l then(if l.any (fun c=> !pg c)then 1 else 0)else 13
def Ky(l:List Ch):Prop:=∀c∈l,c.1.size≤256∧c.2.1.size≤4096∧c.2.2.1.size≤4096
theorem SL{l:List Ch}{g:Nat}(n:0<g)(m:g<l.length)(d:oo (l.take g))(c:kl (l[g-1]'(by omega)).1 l[g].1):oo (l.take (g+1)):=by
 rw[aV m];refine List.pairwise_append.2 ⟨d,cy ..,fun a i b k=>?_⟩
 rw[List.mem_singleton.1 k];obtain⟨j,f,rfl⟩:=List.getElem_of_mem i;rw[aI]at f;rw[kq];by_cases e:j=g-1
 ·subst e;exact c
 ·have:=ce.1 d j (g-1) (by rw[aI];omega) (by rw[aI];omega) (by omega)
  rw[kq,kq]at this;exact fR this c
theorem Qd{l:List Ch}{g:Nat}(b:g≤1):oo (l.take g):=by
 match l,g,b with
 | [],_,_=>rw[List.take_nil];exact .nil
 |a::l,0,_=>exact .nil
 |a::l,1,_=>exact cy ..
theorem WG{l:List Ch}{i j:Nat}(a:i<j)(b:j<l.length)(h:¬kl (l[i]'(by omega)).1 l[j].1):¬oo l:=fun c=>h (ce.1 c i j (by omega) b a)
def IZ(c:Ch):Int:=if Sg (c.1,c.2.1)≠0 then Sg (c.1,c.2.1)else Sg (c.1,c.2.2.1)
theorem aad{c:Ch}(h:Sg (c.1,c.2.1)≠0):IZ c=Sg (c.1,c.2.1):=if_pos h
theorem N6{c:Ch}(h:Sg (c.1,c.2.1)=0):IZ c=Sg (c.1,c.2.2.1):=if_neg fun e=>e h
def zj:List Ch→Int
 | []=>0
 |c::l=>if IZ c≠0 then IZ c else zj l
def Jn(l:List Ch):Int:=if rk l≠0 then rk l else zj l
theorem P6{l:List Ch}{i:Nat}(hi:i<l.length):zj (l.drop i)=if IZ l[i]≠0 then IZ l[i]else zj (l.drop (i+1)):=by
 rw[List.drop_eq_getElem_cons hi];rfl
theorem Ee:∀{l:List Ch},Ky l→zj l=0
 | [],_=>rfl
 |c::l,h=>by
  obtain⟨d,h2,b⟩:=h c (av ..);have e:IZ c=0:=by
   have a:∀{v:ByteArray},v.size≤4096→Sg (c.1,v)=0:=fun h=>by
    unfold Sg;rw[if_neg (by simp only;omega),if_neg (by simp only;omega)]
   rw[N6 (a h2),a b]
  unfold zj;rw[e,if_neg (by decide)];exact Ee fun c hc=>h c (aC _ hc)
theorem Oa{l:List Ch}(h:Ky l):Jn l=rk l:=by
 unfold Jn;rw[Ee h];by_cases e:rk l=0
 ·rw[if_neg (fun h=>h e),e]
 ·rw[if_pos e]
theorem LF{W:Nat→Prop}{h:ad}{s:SliceV}{l:List Ch}(n:Sl tI 5 W h s l)(M:l.length≤1000000){K:Int→ad→Prop}(f:∀h',Upd No h h'→K (Jn l) h'):HC PG sF [.slice s.a s.len s.cap] [.c (.int .i64)] K h:=by
 refine Pj s ?_;unfold Fz bE bX nv ay az is bK B4 jt;have O:=n.len;refine LoopP.ghost (fun(i:Nat) (t:Int) h'=>t=(i:Int)∧1≤i∧i≤max 1 l.length∧oo (l.take i)∧h'=h) (fun i=>l.length-i) 1 ⟨rfl,aj _,by omega,Qd (aj _),rfl⟩ ?_
 rintro I i t h' ⟨rfl,y,hi,x,rfl⟩ G;refine ax (fun b=>?_) fun B=>?_
 ·have b:i<l.length:=by omega
  have H:IntKind.wrap .i64 ((i:Int)-1)=((i-1:Nat):Int):=by rw[dI (by omega)];omega
  rw[H];obtain⟨a,z,_,hv⟩:=n.at (i:=i-1) (ae (by omega));obtain⟨a',A,_,C⟩:=n.at (i:=i) (ae b);refine⟨⟨by omega,by omega⟩,a,z,_,hv 0 _ rfl,⟨by omega,by omega⟩,a',A,_,C 0 _ rfl,?_⟩
  refine CondP.intro (fun q=>?_) fun q=>?_
  ·have:¬oo l:=WG (i:=i-1) (j:=i) (by omega) b fun h=>by unfold kl at h;rw[h]at q;cases q
   have f:=f h' (Upd.refl _ _);unfold Jn rk at f;rw[if_neg this]at f;exact f
  ·rw[ga b (by omega)]
   exact G (i+1) _ _ ⟨rfl,by omega,by omega,SL y b x (by unfold kl;simpa using q),rfl⟩ (by omega)
 ·have D:l.take i=l:=List.take_of_length_le (by omega)
  rw[D]at x;unfold Jn rk at f;rw[if_pos x]at f;refine EM n M (fun c _ m _ N v=>QD c v) fun m k1=>?_
  have f:=fun h2 (F:Upd No m h2)=>f h2 (k1.tr F)
  cases ea:l.any (fun c=> !pg c)with
  |true=>rw[ea]at f;exact au.2 (f m (Upd.refl _ _))
  |false=>
   rw[ea]at f;refine ag.2 ?_;have f:∀h2,Upd No m h2→K (zj l) h2:=f;refine LoopP.ghost (fun(i:Nat) (t:Int) h'=>t=(i:Int)∧i≤l.length∧zj (l.drop i)=zj l∧Upd No m h') (fun i=>l.length-i) 0 ⟨rfl,aS _,rfl,Upd.refl _ _⟩ ?_
   rintro P j t J ⟨rfl,Q,d,o⟩ w;refine ax (fun b=>?_) fun B=>by
    have e:j=l.length:=by omega
    rw[e,List.drop_length]at d;have:=f J o;rw[←d]at this;exact this
   have b:j<l.length:=by omega
   obtain⟨a,z,_,hv⟩:=(n.upd (k1.tr o) fun _ h=>h.elim).at (ae b)
   refine⟨⟨by omega,by omega⟩,a,z,_,hv 0 _ rfl,_,hv 1 _ rfl,_,hv 2 _ rfl,_,hv 3 _ rfl,_,hv 4 _ rfl,?_⟩
   refine Vi (c:=l[j]) fun L u E=>?_
   rw[P6 b]at d;have g:=f L (o.tr E);refine⟨_,vc u 0,_,vc u 1,Ve (p:=(l[j].1,l[j].2.1)) (CondP.intro (fun e=>?_) fun e=>⟨_,vc u 0,_,vc u 2,Ve (p:=(l[j].1,l[j].2.2.1)) (CondP.intro (fun k=>?_) fun k=>?_)⟩)⟩
   ·have e:Sg (l[j].1,l[j].2.1)≠0:=by simpa using e
    rw[aad e,if_pos e]at d;rw[←d]at g;exact g
   ·have e:Sg (l[j].1,l[j].2.1)=0:=by simpa using e
    have k:Sg (l[j].1,l[j].2.2.1)≠0:=by simpa using k
    rw[N6 e,if_pos k]at d;rw[←d]at g;exact g
   ·have e:Sg (l[j].1,l[j].2.1)=0:=by simpa using e
    have k:Sg (l[j].1,l[j].2.2.1)=0:=by simpa using k
    rw[N6 e,k,if_neg (by decide)]at d;rw[ga b (by omega)];exact w (j+1) _ _ ⟨rfl,b,d,o.tr E⟩ (by omega)
theorem EK{W:Nat→Prop}{h:ad}{s:SliceV}{l:List Ch}(c:Sl tI 5 W h s l)(d:l.length≤1000000)(b:Ky l){K:Int→ad→Prop}(a:∀h',Upd No h h'→K (rk l) h'):HC PG sF [.slice s.a s.len s.cap] [.c (.int .i64)] K h:=
 LF c d fun h' k=>by rw[Oa b];exact a h' k
end Go.Proofs
namespace Go.Proofs
open Go Go.Lift
abbrev ac8(s:ByteArray):List Value:= [.string s]
def vz(L:List Pr)(g:List ByteArray):List Pr:=(g.take 15).foldl (fun acc s=>oU (yK s) acc) L
theorem QW{L:List Pr}{g:List ByteArray}{i:Nat}(hi:i<g.length)(a:i<15):vz L (g.take (i+1))=oU (yK g[i]) (vz L (g.take i)):=by
 unfold vz;rw[iK,iK,il (by omega),il (by omega),aV hi,tx];rfl
theorem QX{L:List Pr}{g:List ByteArray}{i:Nat}(a:15≤i):vz L (g.take (i+1))=vz L (g.take i):=by
 unfold vz;rw[iK,iK,bN (by omega),bN (by omega)]
theorem Few.del{n:Nat}{L:List Pr}(f:Few n L)(k:ByteArray):Few n (oU k L):=⟨MJ f.up,bh TL f.len,fun p a=>f.fit p (Ik.1 a).1⟩
theorem EC{n:Nat}{L:List Pr}(f:Few n L)(g:List ByteArray):Few n (vz L g):=by
 unfold vz;generalize g.take 15=m;induction m generalizing L with
 |nil=>exact f
 |cons s m ih=>rw[List.foldl_cons];exact ih (f.del _)
theorem Ql{W:Nat→Prop}{x:Hs}{h:ad}{a:Int}{r:Rt}{l:List Pr}(i:RefIs W h a x r l)(J:∀y,W y→y<h.size)(I:bS l)(H:Fit l)(F:l.length≤1000000)(k:ByteArray)(G:k.size≤256){K:Rt×Int→ad→Prop}
  (D:∀h' r' e,RefIs W h' a x r' (oU k l)→Upd No h h'→K (r',e) h'):HC PG ye [aai r,.string k] [.agg [.int .i64,.int .u64,.int .u64,.int .u64,.slice],.c (.int .i64)] K h:=by
 refine LY r k ?_;unfold CL aZ af dy eW Sa HR dG XN D2;refine aW fun B b1 k1=>aW fun h2 b2 z=>?_
 have N:=bC b1;have O:=bC b2;have E:h.size≤B.size:=k1.size;have f:=k1.tr z;have g:=z.get0 b1;obtain⟨s,rfl,t,hc⟩:=i;refine ax (fun h=>absurd h (by omega)) fun _=>?_
 refine⟨s,vc g 4,U8 (t.upd f fun _ h=>h.elim) I H F k fun v _ _=>?_⟩
 refine CondP.intro (fun A=>?_) fun A=>?_
 ·have q:cG l k=false:=by simpa using A
  refine⟨_,vc g 0,_,vc g 1,_,vc g 2,_,vc g 3,s,vc g 4,?_⟩;refine dH (c:=zm Ye) (vs:=zm (a,hx a x.k0,hx a x.k1,hx a x.mask,s)) b2 rfl fun u b d=>?_
  refine⟨_,vc b 0,_,vc b 1,_,vc b 2,_,vc b 3,s,vc b 4,?_⟩;refine D u (a,hx a x.k0,hx a x.k1,hx a x.mask,s) 4 ⟨s,rfl,?_,hc⟩ (f.own d E);rw[Bg (D9 q)];exact t.upd (f.own d E) fun _ h=>h.elim
 ·refine⟨s,vc g 4,Qr (t.upd f fun _ h=>h.elim) F k fun n P w m=>?_⟩
  refine vI (i:=4) (c':=(zm (a,hx a x.k0,hx a x.k1,hx a x.mask,n)).toArray) (m.get0 g) (show 4<5 by decide) rfl fun M p j=>?_
  refine⟨_,vc p 0,_,vc p 1,_,vc p 2,_,vc p 3,n,vc p 4,?_⟩;refine dH (c:=zm Ye) (vs:=zm (a,hx a x.k0,hx a x.k1,hx a x.mask,n)) (j.oth (m.get0 b2) (by omega)) rfl fun u b d=>?_
  refine⟨_,vc b 0,_,vc b 1,_,vc b 2,_,vc b 3,n,vc b 4,?_⟩;have o:=(w.upd j fun y C e=>by have e:y=h.size:=e;omega).upd d fun y C e=>by have e:y=B.size:=e;omega
  refine D u (a,hx a x.k0,hx a x.k1,hx a x.mask,n) 0 ⟨n,rfl,o.sl fun y C _ L=>by have:=J y L;omega,o.cap⟩ (((f.tr m).own j (aj _)).own d (by omega))
set_option maxHeartbeats 1000000 in
theorem JS{W:Nat→Prop}{x:Hs}{h:ad}{s sg:SliceV}{l L0 R0:List Pr}{g:List ByteArray}{d:Int}{t:Tr}{r:Rt}{n:Nat}(M:TreeIs W h d x t L0)(L:RefIs W h d x r R0)(fw0:Few n L0)(fr0:Few n R0)(hn0:n≤1000)(hs:Sl eu 2 W h s l)(hg:Sl ac8 1 W h sg g)(hW:∀y,W y→y<h.size)(hn:l.length≤9223372036854775807)(hgn:g.length≤9223372036854775807){K:Tr×Rt→ad→Prop}
  (hk:∀h' t' Z,TreeIs W h' d x t' (vz (lO L0 l) g)→RefIs W h' d x Z (vz (lO R0 l) g)→Upd No h h'→K (t',Z) h'):
  HC PG uR [Ia t,aai r,.slice s.a s.len s.cap,.slice sg.a sg.len sg.cap] [.agg [.int .i64,.int .u64,.int .u64,.int .u64,.ptr,.ptr],.agg [.int .i64,.int .u64,.int .u64,.int .u64,.slice]] K h:=by
 refine RF t r s sg ?_;unfold HH bE bX aZ af aH dy eW nv Ay Sa rT HR ut Sc ay az lN is Lo dG rV XN;refine aW fun B b1 k1=>aW fun h2 b2 k2=>aW fun h3 b3 k3=>aW fun w b4 k4=>?_
 have z1:=bC b1;have z2:=bC b2;have z3:=bC b3;have z4:=bC b4;have s1:h.size≤B.size:=k1.size;have s2:B.size≤h2.size:=k2.size;have s3:h2.size≤h3.size:=k3.size;have s4:=k4.size;have kL:Upd No h w:=((k1.tr k2).tr k3).tr k4;have t0:=k4.get0 (k3.get0 (k2.get0 b1));have x0:=k4.get0 (k3.get0 b2);have rL1:=k4.get0 b3;have rL2:=b4;have iL:=M.pro kL;have jL:RefIs (Pro W h w) w d x r R0:=(L.less (W':=Pro W h w) Pro.hm).upd0 kL
 have U:=Pro.lt hW kL;have V:Pro W h w h.size:=.inr (by omega);have Y:Pro W h w B.size:=.inr (by omega);have hP1:Pro W h w h2.size:=.inr (by omega);have hP2:Pro W h w h3.size:=.inr (by omega);have hlen:=hs.len;refine LoopP.ghost (fun(i:Nat) (ti:Int) h'=>ti=(i:Int)∧i≤l.length∧(∃v q,TreeIs (Pro W h w) h' d x v (lO L0 (l.take i))∧RefIs (Pro W h w) h' d x q (lO R0 (l.take i))∧h'[h.size]? =some (.cells (oF v).toArray bD (0,0))∧h'[B.size]? =some (.cells (zm q).toArray dh (0,0)))∧Upd (fun y=>y=h.size∨y=B.size) w h') (fun i=>l.length-i) 0 ⟨rfl,aS _,⟨t,r,iL,jL,t0,x0⟩,Upd.refl _ _⟩ ?_
 rintro I i ti h' ⟨rfl,hi,⟨v,q,M,L,bt,N⟩,F⟩ hI;have hus:=F.size;have T:Upd No h h':=kL.trans F fun y b=>.inr (by rcases b with rfl|rfl<;>omega)
 refine ax (fun m=>?_) fun hge=>?_
 ·have m:i<l.length:=by omega
  obtain⟨a,ha,_,hv⟩:=(hs.upd T fun _ h=>h.elim).at (ae m)
  refine Join.intro (fun _ f=>(∃v q,TreeIs (Pro W h w) f d x v (lO L0 (l.take (i+1)))∧RefIs (Pro W h w) f d x q (lO R0 (l.take (i+1)))∧f[h.size]? =some (.cells (oF v).toArray bD (0,0))∧f[B.size]? =some (.cells (zm q).toArray dh (0,0)))∧Upd (fun y=>y=h.size∨y=B.size) w f) (fun R X=>⟨⟨by omega,by omega⟩,a,ha,l[i].1,hv 0 _ rfl,l[i].2,hv 1 _ rfl,?_⟩) ?_
  ·refine tG (p:=l[i]) fun h28 J P=>?_
   have z28:=bC J;have nt:h'.size≠h.size:=by omega
   have nx:h'.size≠B.size:=by omega
   refine ax (fun C=>?_) fun C=>?_
   ·have C:i<25:=by omega
    rw[Nh m C,Nh m C]at X;obtain⟨q1,e1⟩:=ab5 l[i].1;obtain⟨q2,e2⟩:=ab5 l[i].2;refine⟨_,vc J 0,_,vc J 0,q1,?_⟩;simp only[Bd];refine⟨_,vc J 1,_,vc J 1,q2,?_⟩;rw[e1,e2];refine vI (c':= #[.string (yK l[i].1),.string l[i].2]) J (by simp) rfl fun h29 b29 hu29=>?_
    refine vI (c':= #[.string (yK l[i].1),.string (yK l[i].2)]) b29 (by simp) rfl fun h35 b35 hu35=>?_
    have O:Upd No h' h35:=(P.own hu29 (aj _)).own hu35 (aj _);have E:=O.get0 bt;have x35:=O.get0 N;have s35:=O.size;have fw:=tV fw0 (l.take i);have fl:=fw.len;have gw:=tV fr0 (l.take i);have gl:=gw.len;have p1:=wI l[i].1;have p2:=wI l[i].2;refine⟨_,vc E 0,_,vc E 1,_,vc E 2,_,vc E 3,_,vc E 4,_,vc E 5,_,vc b35 0,_,vc b35 1,?_⟩;refine PY (M.upd0 O) (fun y b=>aD (U y b) (by omega)) fw.up (by omega) (LG l[i]) (by unfold LG;simp only;omega) (by unfold LG;simp only;omega) fun h45 t' i45 _ u=>?_
    refine dH (c:=oF v) (vs:=oF t') (u.get0 E) rfl fun h46 t46 j=>?_
    have o:=j.oth (u.get0 x35) (by omega);have p46:=j.oth (u.get0 b35) nt;have j46:=((L.upd0 O).upd0 u).updM j fun y b=>.inl (by have b:y=h.size:=b;rw[b];exact V)
    have s45:=u.size;have s46:=j.size;refine⟨_,vc o 0,_,vc o 1,_,vc o 2,_,vc o 3,q.2.2.2.2,vc o 4,_,vc p46 0,_,vc p46 1,?_⟩;refine Yn j46 (fun y b=>aD (U y b) (by omega)) gw.up (by omega) (LG l[i]) (by unfold LG;simp only;omega) (by unfold LG;simp only;omega) fun h55 Z j55 z=>?_
    refine dH (c:=zm q) (vs:=zm Z) (z.get0 o) rfl fun h56 x56 k=>X _ _ ⟨⟨t',Z,?_,j55.updM k fun y b=>.inl (by have b:y=B.size:=b;rw[b];exact Y),k.oth (z.get0 t46) (by omega),x56⟩,?_⟩
    ·exact((i45.updM j fun y b=>.inl (by have b:y=h.size:=b;rw[b];exact V)).upd0 z).updM k fun y b=>.inl (by have b:y=B.size:=b;rw[b];exact Y)
    ·exact((((F.tr O.wide).tr u.wide).trans j fun y b=>.inl (.inl b)).tr z.wide).trans k fun y b=>.inl (.inr b)
   ·have C:25≤i:=by omega
    rw[Ni C,Ni C]at X;exact X _ _ ⟨⟨v,q,M.upd0 P,L.upd0 P,P.get0 bt,P.get0 N⟩,F.tr P.wide⟩
  ·rintro _ f ⟨hex,hu2⟩
   rw[ga m hn];exact hI (i+1) _ _ ⟨rfl,m,hex,hu2⟩ (by omega)
 ·have hil:i=l.length:=by omega
  subst hil;rw[bT]at M L;have y1:=F.get rL1 (by rintro(e|e)<;>omega)
  have y2:=F.get rL2 (by rintro(e|e)<;>omega)
  have hgl:=hg.len;have fw1:=tV fw0 l;have fr1:=tV fr0 l;generalize lO L0 l=L1 at M hk fw1;generalize lO R0 l=R1 at L hk fr1;refine LoopP.ghost (fun(i:Nat) (ti:Int) f=>ti=(i:Int)∧i≤g.length∧(∃v q,TreeIs (Pro W h w) f d x v (vz L1 (g.take i))∧RefIs (Pro W h w) f d x q (vz R1 (g.take i))∧f[h.size]? =some (.cells (oF v).toArray bD (0,0))∧f[B.size]? =some (.cells (zm q).toArray dh (0,0)))∧Upd (fun y=>y=h.size∨y=B.size) w f) (fun i=>g.length-i) 0 ⟨rfl,aS _,⟨v,q,M,L,bt,N⟩,F⟩ ?_
  clear hI M L bt N y1 y2 F hus T v q;rintro I2 i ti h' ⟨rfl,hi,⟨v,q,M,L,bt,N⟩,F⟩ hI2;have hus:=F.size;have T:Upd No h h':=kL.trans F fun y b=>.inr (by rcases b with rfl|rfl<;>omega)
  refine ax (fun m=>?_) fun hge=>?_
  ·have m:i<g.length:=by omega
   obtain⟨a,ha,_,hv⟩:=(hg.upd T fun _ h=>h.elim).at0 (ae m)
   refine Join.intro (fun _ f=>(∃v q,TreeIs (Pro W h w) f d x v (vz L1 (g.take (i+1)))∧RefIs (Pro W h w) f d x q (vz R1 (g.take (i+1)))∧f[h.size]? =some (.cells (oF v).toArray bD (0,0))∧f[B.size]? =some (.cells (zm q).toArray dh (0,0)))∧Upd (fun y=>y=h.size∨y=B.size) w f) (fun R X=>⟨⟨by omega,by omega⟩,a,ha,g[i],hv,?_⟩) ?_
   ·refine ax (fun D=>?_) fun D=>?_
    ·have D:i<15:=by omega
     rw[QW m D,QW m D]at X;obtain⟨q1,e1⟩:=ab5 g[i];refine⟨q1,?_⟩;simp only[Bd];rw[e1];refine⟨_,vc bt 0,_,vc bt 1,_,vc bt 2,_,vc bt 3,_,vc bt 4,_,vc bt 5,?_⟩;have fw:=EC fw1 (g.take i);have fl:=fw.len;have gw:=EC fr1 (g.take i);have gl:=gw.len;have p1:=wI g[i];refine GT M (fun y b=>aD (U y b) (by omega)) fw.up fw.fits (by omega) (yK g[i]) (by omega) fun h45 t' i45 _ u=>?_
     refine dH (c:=oF v) (vs:=oF t') (u.get0 bt) rfl fun h46 t46 j=>?_
     have o:=j.oth (u.get0 N) (by omega);have j46:=(L.upd0 u).updM j fun y b=>.inl (by have b:y=h.size:=b;rw[b];exact V)
     have s45:=u.size;have s46:=j.size;refine⟨_,vc o 0,_,vc o 1,_,vc o 2,_,vc o 3,q.2.2.2.2,vc o 4,?_⟩;refine Ql j46 (fun y b=>aD (U y b) (by omega)) gw.up gw.fits (by omega) (yK g[i]) (by omega) fun h55 Z _ j55 z=>?_
     refine dH (c:=zm q) (vs:=zm Z) (z.get0 o) rfl fun h56 x56 k=>X _ _ ⟨⟨t',Z,?_,j55.updM k fun y b=>.inl (by have b:y=B.size:=b;rw[b];exact Y),k.oth (z.get0 t46) (by omega),x56⟩,?_⟩
     ·exact((i45.updM j fun y b=>.inl (by have b:y=h.size:=b;rw[b];exact V)).upd0 z).updM k fun y b=>.inl (by have b:y=B.size:=b;rw[b];exact Y)
     ·exact(((F.tr u.wide).trans j fun y b=>.inl (.inl b)).tr z.wide).trans k fun y b=>.inl (.inr b)
    ·have D:15≤i:=by omega
     rw[QX D,QX D]at X;exact X _ _ ⟨⟨v,q,M,L,bt,N⟩,F⟩
   ·rintro _ f ⟨hex,hu2⟩
    rw[ga m hgn];exact hI2 (i+1) _ _ ⟨rfl,m,hex,hu2⟩ (by omega)
  have hil:i=g.length:=by omega
  subst hil;rw[bT]at M L;have y1:=F.get rL1 (by rintro(e|e)<;>omega)
  have y2:=F.get rL2 (by rintro(e|e)<;>omega)
  refine⟨_,vc bt 0,_,vc bt 1,_,vc bt 2,_,vc bt 3,_,vc bt 4,_,vc bt 5,_,vc N 0,_,vc N 1,_,vc N 2,_,vc N 3,q.2.2.2.2,vc N 4,?_⟩;refine dH (c:=oF IM) (vs:=oF v) y1 rfl fun h70 b70 A=>?_
  have S:=A.oth N (by omega);refine⟨⟨vc S 0,vc S 1,vc S 2,vc S 3,vc S 4⟩,?_⟩;refine dH (c:=zm Ye) (vs:=zm q) (A.oth y2 (by omega)) rfl fun h71 Q G=>?_
  have H:=G.oth b70 (by omega);refine⟨_,vc H 0,_,vc H 1,_,vc H 2,_,vc H 3,_,vc H 4,_,vc H 5,_,vc Q 0,_,vc Q 1,_,vc Q 2,_,vc Q 3,q.2.2.2.2,vc Q 4,?_⟩;refine hk h71 v q (((M.updM A fun y b=>.inl (by have b:y=h2.size:=b;rw[b];exact hP1)).updM G fun y b=>.inl (by have b:y=h3.size:=b;rw[b];exact hP2)).less Pro.sub) (((L.updM A fun y b=>.inl (by have b:y=h2.size:=b;rw[b];exact hP1)).updM G fun y b=>.inl (by have b:y=h3.size:=b;rw[b];exact hP2)).less Pro.sub) ((T.own A (by omega)).own G (by omega))
end Go.Proofs
namespace Go.Proofs
open Go Go.Lift
end Go.Proofs
namespace Go.Proofs
open Go Go.Lift
end Go.Proofs
namespace Go.Proofs
open Go Go.Lift
end Go.Proofs
namespace Go.Proofs
open Go Go.Lift
theorem Zb{A B:List Pr}(a:bS A)(b:bS B){c:Ch}(h:c∈jX A B):c=(c.1,(look A c.1).getD ⟨#[]⟩,(look B c.1).getD ⟨#[]⟩,(look A c.1).isSome,(look B c.1).isSome)∧look A c.1≠look B c.1:=by
 have:=OI a b c.1;rw[TC (ri a b) h]at this;exact BT this.symm
theorem Wf{l:List Ch}(a:oo l)(h:∀c∈l,pg c=true):rk l=0:=by
 unfold rk;rw[if_pos a,if_neg];intro e;obtain⟨c,hc,e⟩:=cA.1 e;rw[h c hc]at e;cases e
theorem Jo{A B:List Pr}(a:bS A)(b:bS B):rk (jX A B)=0:=Wf (ri a b) fun _ h=>We a b h
theorem JC{n:Nat}{A:List Pr}(f:Few n A)(k:ByteArray):((look A k).getD ⟨#[]⟩).size≤30:=by
 cases e:look A k with
 |none=>exact aS _
 |some v=>exact(f.fit _ (wy e)).2
theorem P5{n m:Nat}{A B:List Pr}(b:Few n A)(a:Few m B):∀c∈jX A B,c.1.size≤30∧c.2.1.size≤30∧c.2.2.1.size≤30:=fun c hc=>by
 obtain⟨e,ne⟩:=Zb b.up a.up hc;refine⟨?_,?_,?_⟩
 ·cases ea:look A c.1 with
  |some v=>exact(b.fit _ (wy ea)).1
  |none=>
   cases eb:look B c.1 with
   |some v=>exact(a.fit _ (wy eb)).1
   |none=>rw[ea,eb]at ne;exact absurd rfl ne
 ·rw[e];exact JC b _
 ·rw[e];exact JC a _
theorem IX{n m:Nat}{A B:List Pr}(b:Few n A)(a:Few m B):Ky (jX A B):=fun c hc=>by
 have:=P5 b a c hc;omega
end Go.Proofs
namespace Go.Proofs
open Go Go.Lift
def xf(L:List Pr)(c:Ch):List Pr:=if c.2.2.2.2 then hJ (c.1,c.2.2.1) L else oU c.1 L
def rB(L:List Pr)(l:List Ch):List Pr:=l.foldl xf L
theorem Qe{L:List Pr}(h:bS L)(c:Ch):bS (xf L c):=by
 unfold xf;split
 ·exact yw _ h
 ·exact MJ h
theorem AI:∀{l:List Ch} {L:List Pr},bS L→bS (rB L l)
 | [],_,h=>h
 |c::l,_,h=>AI (l:=l) (Qe h c)
theorem WU{L:List Pr}{c:Ch}(h:Fit L)(hc:c.1.size≤10000∧c.2.2.1.size≤10000):Fit (xf L c):=fun p a=>by
 unfold xf at a;split at a
 ·rcases AM a with e|a
  ·rw[e];exact hc
  ·exact h p a
 ·exact h p (Ik.1 a).1
theorem Nq:∀{l:List Ch} {L:List Pr},Fit L→(∀c∈l,c.1.size≤10000∧c.2.2.1.size≤10000)→Fit (rB L l)
 | [],_,h,_=>h
 |c::l,_,h,hl=>Nq (l:=l) (WU h (hl c (av ..))) fun d hd=>hl d (aC _ hd)
theorem WL(L:List Pr)(c:Ch):(xf L c).length≤L.length+1:=by
 unfold xf;split
 ·exact yC _
 ·exact bh TL (Nat.le_succ _)
theorem M6:∀(l:List Ch) (L:List Pr),(rB L l).length≤L.length+l.length
 | [],_=>aj _
 |c::l,L=>by
  have a:=M6 l (xf L c);have h2:=WL L c;rw[List.length_cons];show(rB (xf L c) l).length≤_
  omega
theorem TV{L:List Pr}{l:List Ch}{i:Nat}(hi:i<l.length):rB L (l.take (i+1))=xf (rB L (l.take i)) l[i]:=by
 unfold rB;rw[aV hi,tx];rfl
theorem Td(L:List Pr)(c:Ch)(k:ByteArray):look (xf L c) k=if c.1=k then(if c.2.2.2.2 then some c.2.2.1 else none)else look L k:=by
 unfold xf;split
 ·rw[JD]
 ·rw[JE]
theorem JF{k:ByteArray}:∀{l:List Ch} {L:List Pr},oo l→look (rB L l) k=match fd l k with|none=>look L k|some c=>if c.2.2.2.2 then some c.2.2.1 else none
 | [],_,_=>rfl
 |c::l,L,h=>by
  have hc:=List.pairwise_cons.1 h;show look (rB (xf L c) l) k=_
  rw[JF hc.2,kP,Td];by_cases e:c.1=k
  ·subst e
   rw[Gh hc.1,if_pos rfl,if_pos rfl]
  ·rw[if_neg e,if_neg e]
theorem NF{A B:List Pr}(a:bS A)(b:bS B):rB A (jX A B)=B:=by
 refine YJ (AI a) b fun k=>?_
 rw[JF (ri a b),OI a b];unfold PM;by_cases e:look A k=look B k
 ·rw[if_pos e];exact e
 ·rw[if_neg e]
  simp only;cases h:look B k<;>rfl
def Hj(L:List Pr)(c:Ch):Bool:=((look L c.1).isSome==c.2.2.2.1)&&decide ((look L c.1).getD ⟨#[]⟩=c.2.1)
theorem YX{A B:List Pr}(a:bS A)(b:bS B){c:Ch}(h:c∈jX A B):Hj A c=true:=by
 have e:=(Zb a b h).1;unfold Hj;rw[congrArg (·.2.2.2.1) e,congrArg (·.2.1) e]
 simp
def wL(L:List Pr)(l:List Ch):Int:=if rk l≠0 then rk l else if l.any (fun c=> !Hj L c)then 8 else 0
theorem Xg{L:List Pr}{l:List Ch}(h:rk l=0)(a:∀c∈l,Hj L c=true):wL L l=0:=by
 unfold wL;rw[if_neg (fun e=>e h),if_neg]
 intro e;obtain⟨c,hc,e⟩:=cA.1 e;rw[a c hc]at e;cases e
end Go.Proofs
namespace Go.Proofs
open Go Go.Lift
def acx(b o t:Option ByteArray)(p:Int):Option ByteArray×Bool:=if o=t∨t=b then(o,true)else if o=b then(t,true)else if p=1 then(o,false)else if p=2 then(t,false)else(b,false)
def tk(B O T:List Pr)(p:Int)(k:ByteArray):Option ByteArray×Bool:=acx (look B k) (look O k) (look T k) p
end Go.Proofs
namespace Go.Proofs
open Go Go.Lift Go.Sort
abbrev ud:Value:=.func (.func pu) #[] #[]
def mM(dec:Int→Ch)(i j:Int):Bool:=aaC (dec i) (dec j)
structure SA(dec:Int→Ch)(M:Nat→Prop)(s:SliceV)(h:ad)(d:Array Int):Prop where
 own:OwnS tI 5 bO M h s (d.toList.map dec)
 small:d.size≤1000000000
 lt:∀b,M b→b<h.size
variable {dec:Int→Ch} {M:Nat→Prop} {s:SliceV} {h:ad} {d:Array Int}
theorem SA.len(a:SA dec M s h d):s.len=d.size:=by have:=a.own.len;simpa using this
theorem SA.updC{c:Nat}{h':ad}(f:SA dec M s h d)(k:Upd (· =c) h h')(hc:¬M c):SA dec M s h' d:=⟨f.own.upd k fun b a e=>hc (by have e:b=c:=e;rw[←e];exact a),f.small,fun b a=>aD (f.lt b a) k.size⟩
theorem SA.upd0{h':ad}(a:SA dec M s h d)(k:Upd No h h'):SA dec M s h' d:=⟨a.own.upd k fun _ _ h=>h,a.small,fun b c=>aD (a.lt b c) k.size⟩
theorem SA.at(b:SA dec M s h d){i:Nat}(hi:i<d.size):∃a,s.a=some a∧∀j v,(tI (dec d[i]!))[j]? =some v→aO h (adr (adr a (((i:Int)).toNat*5)) j)=some v:=by
 have hx:(d.toList.map dec)[i]? =some (dec d[i]!):=by
  rw[List.getElem?_map,Array.getElem?_toList,Array.getElem?_eq_getElem hi,getElem!_pos d i hi];rfl
 obtain⟨a,c,_,hv⟩:=(b.own.sl (W:=No) fun _ _ _ h=>h).at hx
 exact⟨a,c,by simpa using hv⟩
theorem SA.rd(b:SA dec M s h d){t:Int}{i:Nat}(c:t=(i:Int))(hi:i<d.size){R:ByteArray→ByteArray→ByteArray→Bool→Bool→Prop}(f:R (dec d[i]!).1 (dec d[i]!).2.1 (dec d[i]!).2.2.1 (dec d[i]!).2.2.2.1 (dec d[i]!).2.2.2.2):
  ((0:Int)≤t∧t<((s.len:Nat):Int))∧∃a:Addr,s.a=some a∧∃v1:ByteArray,aO h (adr (adr a (t.toNat*5)) 0)=some (.string v1)∧∃v2:ByteArray,aO h (adr (adr a (t.toNat*5)) 1)=some (.string v2)∧∃v3:ByteArray,aO h (adr (adr a (t.toNat*5)) 2)=some (.string v3)∧∃v4:Bool,aO h (adr (adr a (t.toNat*5)) 3)=some (.bool v4)∧∃v5:Bool,aO h (adr (adr a (t.toNat*5)) 4)=some (.bool v5)∧R v1 v2 v3 v4 v5:=by
 subst c;obtain⟨a,e,hv⟩:=b.at hi;exact⟨by rw[b.len];omega,a,e,_,hv 0 _ rfl,_,hv 1 _ rfl,_,hv 2 _ rfl,_,hv 3 _ rfl,_,hv 4 _ rfl,f⟩
theorem SA.st(e:SA dec M s h d){t:Int}{i:Nat}{x:Int}(j:t=(i:Int))(hi:i<d.size){R:ad→Prop}(m:∀h',SA dec M s h' (d.setIfInBounds i x)→Upd M h h'→R h'):
  ((0:Int)≤t∧t<((s.len:Nat):Int))∧∃a:Addr,s.a=some a∧(wn h (some (adr a (t.toNat*5))) 0 [.string (dec x).1,.string (dec x).2.1,.string (dec x).2.2.1,.bool (dec x).2.2.2.1,.bool (dec x).2.2.2.2]∧At (jj h (adr a (t.toNat*5)) 0 [.string (dec x).1,.string (dec x).2.1,.string (dec x).2.2.1,.bool (dec x).2.2.2.1,.bool (dec x).2.2.2.2]) R):=by
 subst j;obtain⟨a,o,hM,n,p,g⟩:=OwnS.setAt e.own (k:=i) (by simpa using hi) (dec x);refine⟨by rw[e.len];omega,a,o,?_⟩;rw[Int.toNat_natCast];have f:Upd M h _:=g.mono fun b c=>.inl (by have c:b=a.block:=c;rw[c];exact hM)
 refine⟨n,bM (m _ ⟨?_,by simpa using e.small,fun b c=>aD (e.lt b c) g.size⟩ f)⟩
 rw[show(d.setIfInBounds i x).toList.map dec=(d.toList.map dec).take i++dec x::(d.toList.map dec).drop (i+1) by
  rw[Array.toList_setIfInBounds,List.map_set,List.set_eq_take_append_cons_drop,if_pos (by simpa using hi)]]
 exact p
@[simp] theorem acA(d:Array Int)(i j:Nat):(swp d i j).size=d.size:=by simp[swp]
theorem SA.swap(g:SA dec M s h d){c b:Int}{i j:Nat}(m:c=(i:Int))(o:b=(j:Int))(hi:i<d.size)(n:j<d.size){R:ad→Prop}(q:∀h',SA dec M s h' (swp d i j)→Upd M h h'→R h'):
  ((0:Int)≤b∧b<((s.len:Nat):Int))∧∃a:Addr,s.a=some a∧∃v1:ByteArray,aO h (adr (adr a (b.toNat*5)) 0)=some (.string v1)∧∃v2:ByteArray,aO h (adr (adr a (b.toNat*5)) 1)=some (.string v2)∧∃v3:ByteArray,aO h (adr (adr a (b.toNat*5)) 2)=some (.string v3)∧∃v4:Bool,aO h (adr (adr a (b.toNat*5)) 3)=some (.bool v4)∧∃v5:Bool,aO h (adr (adr a (b.toNat*5)) 4)=some (.bool v5)∧
   (((0:Int)≤c∧c<((s.len:Nat):Int))∧∃a:Addr,s.a=some a∧∃w1:ByteArray,aO h (adr (adr a (c.toNat*5)) 0)=some (.string w1)∧∃w2:ByteArray,aO h (adr (adr a (c.toNat*5)) 1)=some (.string w2)∧∃w3:ByteArray,aO h (adr (adr a (c.toNat*5)) 2)=some (.string w3)∧∃w4:Bool,aO h (adr (adr a (c.toNat*5)) 3)=some (.bool w4)∧∃w5:Bool,aO h (adr (adr a (c.toNat*5)) 4)=some (.bool w5)∧
    (((0:Int)≤c∧c<((s.len:Nat):Int))∧∃a:Addr,s.a=some a∧(wn h (some (adr a (c.toNat*5))) 0 [.string v1,.string v2,.string v3,.bool v4,.bool v5]∧At (jj h (adr a (c.toNat*5)) 0 [.string v1,.string v2,.string v3,.bool v4,.bool v5]) (fun e=>
     (((0:Int)≤b∧b<((s.len:Nat):Int))∧∃a:Addr,s.a=some a∧(wn e (some (adr a (b.toNat*5))) 0 [.string w1,.string w2,.string w3,.bool w4,.bool w5]∧At (jj e (adr a (b.toNat*5)) 0 [.string w1,.string w2,.string w3,.bool w4,.bool w5]) R)))))):=by
 refine g.rd o n (g.rd m hi (g.st (x:=d[j]!) m hi fun e k k1=>k.st (x:=d[i]!) o (by simpa using n) fun h2 f p=>q h2 f (k1.tr p)))
theorem SA.less(f:SA dec M s h d){c b:Int}{i j:Nat}(m:c=(i:Int))(o:b=(j:Int))(hi:i<d.size)(n:j<d.size){R:Int→ad→Prop}(p:∀h' e,SA dec M s h' d→Upd No h h'→decide (e<0)=mM dec d[i]! d[j]!→R e h'):
  ((0:Int)≤c∧c<((s.len:Nat):Int))∧∃a:Addr,s.a=some a∧∃v1:ByteArray,aO h (adr (adr a (c.toNat*5)) 0)=some (.string v1)∧∃v2:ByteArray,aO h (adr (adr a (c.toNat*5)) 1)=some (.string v2)∧∃v3:ByteArray,aO h (adr (adr a (c.toNat*5)) 2)=some (.string v3)∧∃v4:Bool,aO h (adr (adr a (c.toNat*5)) 3)=some (.bool v4)∧∃v5:Bool,aO h (adr (adr a (c.toNat*5)) 4)=some (.bool v5)∧
   (((0:Int)≤b∧b<((s.len:Nat):Int))∧∃a:Addr,s.a=some a∧∃w1:ByteArray,aO h (adr (adr a (b.toNat*5)) 0)=some (.string w1)∧∃w2:ByteArray,aO h (adr (adr a (b.toNat*5)) 1)=some (.string w2)∧∃w3:ByteArray,aO h (adr (adr a (b.toNat*5)) 2)=some (.string w3)∧∃w4:Bool,aO h (adr (adr a (b.toNat*5)) 3)=some (.bool w4)∧∃w5:Bool,aO h (adr (adr a (b.toNat*5)) 4)=some (.bool w5)∧
    HV PG ud [.agg #[.string v1,.string v2,.string v3,.bool v4,.bool v5],.agg #[.string w1,.string w2,.string w3,.bool w4,.bool w5]] [.c (.int .i64)] R h):=
 f.rd m hi (f.rd o n ((abn M).call (dec d[i]!) (dec d[j]!) trivial fun h' e k g=>p h' e (f.upd0 k) k g))
theorem Tv(S:SA dec M s h d){a e:Nat}(ha:a≤e)(he:e≤d.size){K:Unit→ad→Prop}(Z:∀h',SA dec M s h' (insertionSort (mM dec) d a e)→Upd M h h'→K () h'):
  HC PG d8 [.slice s.a s.len s.cap,.int .i64 a,.int .i64 e,ud] [] K h:=by
 refine iX s a e ud ?_;unfold fI bE bX ji ay bK jt mo gD;have T:=S.small;refine LoopP.ghost (fun(g:Nat×Array Int) (t:Int) h'=>t=(g.1:Int)∧SA dec M s h' g.2∧g.2.size=d.size∧insOuter (mM dec) a e g.1 g.2=insertionSort (mM dec) d a e∧Upd M h h'∧a<g.1) (fun g=>e-g.1) (a+1,d)
  ⟨by rw[dI (by omega)];rfl,S,rfl,rfl,Upd.refl _ _,by simp⟩ ?_
 rintro I ⟨i,N⟩ t h1 ⟨y,p,q,n,u,J⟩ V;simp only at y p q n J;subst y;refine ax (fun v=>?_) fun X=>?_
 ·have v:i<e:=by omega
  refine LoopP.ghost (fun(g:Nat×Array Int) (t:Int) h'=>t=(g.1:Int)∧SA dec M s h' g.2∧g.2.size=d.size∧insInner (mM dec) a g.1 g.2=insInner (mM dec) a i N∧Upd M h h'∧g.1≤i) (fun g=>g.1) (i,N)
   ⟨rfl,p,q,rfl,u,aj _⟩ ?_
  rintro I2 ⟨j,c⟩ t h2 ⟨y,o,k,m,F,D⟩ C;simp only at y o k m D;subst y;refine Join.intro (fun t h'=>SA dec M s h' c∧Upd No h2 h'∧(t=true↔a<j∧(mM dec) c[j]! c[j-1]! =true)) (fun R P=>?_) ?_
  ·refine ax (fun A=>?_) fun U=>P _ _ ⟨o,Upd.refl _ _,by simp;omega⟩
   have A:a<j:=by omega
   exact o.less rfl (j:=j-1) (by rw[dI (by omega)];omega) (by omega) (by omega) fun w e3 b B L=>P _ _ ⟨b,B,by rw[L];simp[A]⟩
  ·rintro t h' ⟨b,B,x⟩
   have z:=F.tr B.wide;refine CondP.intro (fun w=>?_) fun w=>?_
   ·obtain⟨Y,O⟩:=x.1 w
    refine b.swap (i:=j) (j:=j-1) rfl (by rw[dI (by omega)];omega) (by omega) (by omega) fun h6 G H=>?_
    refine C (j-1,swp c j (j-1)) _ _ ⟨by rw[dI (by omega)];simp only;omega,G,by simp[k],?_,z.tr H,by simp only;omega⟩ (by simp only;omega)
    rw[←m];obtain⟨Q,rfl⟩:∃Q,j=Q+1:=⟨j-1,by omega⟩
    simp only[Nat.add_sub_cancel]at O⊢;rw[insInner,if_pos (by simp[O,Y])]
   ·have f:¬(a<j∧(mM dec) c[j]! c[j-1]! =true):=fun W=>by rw[x.2 W]at w;cases w
    have E:insInner (mM dec) a j c=c:=by
     cases j with
     |zero=>rw[insInner]
     |succ j=>
      simp only[Nat.add_sub_cancel]at f;rw[insInner,if_neg (by simpa using f)]
    refine V (i+1,c) _ _ ⟨by rw[dI (by omega)];rfl,b,k,?_,z,by simp only;omega⟩ (by simp only;omega)
    rw[←n];conv=>rhs;rw[insOuter]
    rw[if_pos v,←m,E]
 ·refine Z _ ?_ u
  rw[←n,insOuter,if_neg (by omega)];exact p
end Go.Proofs
namespace Go.Proofs
open Go Go.Lift Go.Sort
variable {dec:Int→Ch} {M:Nat→Prop} {s:SliceV} {h:ad} {d:Array Int}
@[simp] theorem ZO(lt:Int→Int→Bool)(hi first root:Nat)(d:Array Int):(siftDown lt hi first root d).size=d.size:=by
 fun_induction siftDown lt hi first root d<;>simp_all
@[simp] theorem JP(lt:Int→Int→Bool)(hi first:Nat):∀(k:Nat) (d:Array Int),(heapBuild lt hi first k d).size=d.size
 |0,d=>rfl
 |k+1,d=>by rw[heapBuild,JP lt hi first k];simp
theorem GZ{root hi first:Nat}(J:SA dec M s h d)(X:first+hi≤d.size){K:Unit→ad→Prop}(N:∀h',SA dec M s h' (siftDown (mM dec) hi first root d)→Upd M h h'→K () h')(P:root≤1000000000):
  HC PG eY [.slice s.a s.len s.cap,.int .i64 root,.int .i64 hi,.int .i64 first,ud] [] K h:=by
 refine ql s root hi first ud ?_
 unfold kJ bE bX ji ay bK jt mo gD;have O:=J.small;refine LoopP.ghost (fun(g:Nat×Array Int) (t:Int) h'=>t=(g.1:Int)∧SA dec M s h' g.2∧g.2.size=d.size∧siftDown (mM dec) hi first g.1 g.2=siftDown (mM dec) hi first root d∧Upd M h h'∧g.1≤1000000000) (fun g=>hi-g.1) (root,d)
  ⟨rfl,J,rfl,rfl,Upd.refl _ _,P⟩ ?_
 rintro I ⟨i,a⟩ t H ⟨L,m,p,k,v,A⟩ Q;simp only at L m p k A;subst L;have U:IntKind.wrap .i64 (IntKind.wrap .i64 (2*(i:Int))+1)=((2*i+1:Nat):Int):=by rw[dI (x:=2*(i:Int)) (by omega),dI (by omega)];omega
 have F:IntKind.wrap .i64 (((2*i+1:Nat):Int)+1)=((2*i+2:Nat):Int):=by rw[dI (by omega)];omega
 rw[U];refine ax (fun W=>?_) fun C=>?_
 ·refine N _ ?_ v
  rw[←k,siftDown,dif_pos (by omega)];exact m
 ·have C:2*i+1<hi:=by omega
  refine Join.intro (fun t h'=>SA dec M s h' a∧Upd No H h'∧∃c:Nat,t=(c:Int)∧c=if 2*i+2<hi∧(mM dec) a[first+(2*i+1)]! a[first+(2*i+1)+1]! =true then 2*i+2 else 2*i+1) (fun R G=>?_) ?_
  ·refine Join.intro (fun t h'=>SA dec M s h' a∧Upd No H h'∧(t=true↔2*i+2<hi∧(mM dec) a[first+(2*i+1)]! a[first+(2*i+1)+1]! =true)) (fun R2 y=>?_) ?_
   ·show CondP (decide (IntKind.wrap .i64 (((2*i+1:Nat):Int)+1)<(hi:Int))) _ _
    rw[F];refine ax (fun f=>?_) fun f=>y _ _ ⟨m,Upd.refl _ _,by simp;omega⟩
    show(((0:Int)≤IntKind.wrap .i64 ((first:Int)+((2*i+1:Nat):Int))∧_)∧_)
    refine m.less (i:=first+(2*i+1)) (j:=first+(2*i+1)+1) (by rw[dI (by omega)];omega) (by rw[dI (x:=(first:Int)+_) (by omega),dI (by omega)];omega) (by omega) (by omega) fun h4 e4 b n z=>y _ _ ⟨b,n,?_⟩
    rw[z];simp;omega
   ·rintro t h' ⟨b,n,w⟩
    refine CondP.intro (fun f=>?_) fun f=>?_
    ·show R (IntKind.wrap .i64 (((2*i+1:Nat):Int)+1)) _
     rw[F];exact G _ _ ⟨b,n,_,rfl,by rw[if_pos (w.1 f)]⟩
    ·exact G _ _ ⟨b,n,_,rfl,by rw[if_neg fun T=>by rw[w.2 T]at f;cases f]⟩
  ·rintro t h' ⟨b,n,c,rfl,hc⟩
   have S:c<hi∧i<c:=by rw[hc];split<;>omega
   refine b.less (i:=first+i) (j:=first+c) (by rw[dI (by omega)];omega) (by rw[dI (by omega)];omega) (by omega) (by omega) fun Y e5 u V E=>?_
   have q:=v.tr (n.tr V).wide;rw[E];have e:siftDown (mM dec) hi first i a=if !(mM dec) a[first+i]! a[first+c]! then a else siftDown (mM dec) hi first c (swp a (first+i) (first+c)):=by
    rw[siftDown,dif_neg (by omega)];by_cases o:2*i+2<hi∧(mM dec) a[first+(2*i+1)]! a[first+(2*i+1)+1]! =true
    ·rw[if_pos (by simp only[bH,decide_eq_true_iff];exact o),dif_pos o.1]
     rw[if_pos o]at hc;rw[hc]
    ·rw[if_neg (by simp only[bH,decide_eq_true_iff];exact o)]
     rw[if_neg o]at hc;rw[hc]
   refine CondP.intro (fun f=>?_) fun f=>?_
   ·refine N _ ?_ q
    rw[←k,e,if_pos f];exact u
   ·refine u.swap (i:=first+i) (j:=first+c) (by rw[dI (by omega)];omega) (by rw[dI (by omega)];omega) (by omega) (by omega) fun Z B D=>?_
    refine Q (c,swp a (first+i) (first+c)) _ _ ⟨rfl,B,by simp[p],?_,q.tr D,by simp only;omega⟩ (by simp only;omega)
    rw[←k,e,if_neg (by rw[f];simp)]
theorem QS{a e:Nat}(G:SA dec M s h d)(U:a≤e)(Y:e≤d.size){K:Unit→ad→Prop}(R:∀h',SA dec M s h' (heapSort (mM dec) d a e)→Upd M h h'→K () h'):
  HC PG gI [.slice s.a s.len s.cap,.int .i64 a,.int .i64 e,ud] [] K h:=by
 refine qm s a e ud ?_;unfold kK bE bX ay bK jt gD;have J:=G.small;have P:IntKind.wrap .i64 ((e:Int)-(a:Int))=((e-a:Nat):Int):=by rw[dI (by omega)];omega
 rw[P];refine⟨by decide,?_⟩;have F:IntKind.wrap .i64 (gj (IntKind.wrap .i64 (((e-a:Nat):Int)-1)) 2)=(((e-a-1)/2+1:Nat):Int)-1:=by
  rw[dI (x:=((e-a:Nat):Int)-1) (by omega)];by_cases Q:e-a=0
  ·rw[Q];decide
  ·rw[dB (by omega),dI (by omega)];omega
 show LoopP _ (IntKind.wrap .i64 (gj (IntKind.wrap .i64 (((e-a:Nat):Int)-1)) 2)) h
 rw[F];refine LoopP.ghost (fun(g:Nat×Array Int) (t:Int) h'=>t=(g.1:Int)-1∧SA dec M s h' g.2∧g.2.size=d.size∧heapBuild (mM dec) (e-a) a g.1 g.2=heapBuild (mM dec) (e-a) a ((e-a-1)/2+1) d∧Upd M h h'∧g.1≤1000000000) (fun g=>g.1) ((e-a-1)/2+1,d)
  ⟨rfl,G,rfl,rfl,Upd.refl _ _,by simp only;omega⟩ ?_
 rintro I ⟨k,N⟩ t T ⟨u,o,f,n,q,y⟩ L;simp only at u o f n y;subst u;refine ax (fun C=>?_) fun O=>?_
 ·obtain⟨k,rfl⟩:∃k',k=k'+1:=⟨k-1,by omega⟩
  have B:((k+1:Nat):Int)-1=(k:Int):=by omega
  rw[B];refine GZ o (by omega) (fun h2 b c=>L (k,_) _ _ ⟨by rw[dI (by omega)],b,by simp[f],?_,q.tr c,by simp only;omega⟩ (by simp)) (by omega)
  rw[←n];rfl
 ·have:k=0:=by omega
  subst this;rw[dI (x:=((e-a:Nat):Int)-1) (by omega)];refine LoopP.ghost (fun(g:Nat×Array Int) (t:Int) h'=>t=(g.1:Int)-1∧SA dec M s h' g.2∧g.2.size=d.size∧heapPop (mM dec) a g.1 g.2=heapSort (mM dec) d a e∧Upd M h h'∧g.1≤e-a) (fun g=>g.1) (e-a,N)
   ⟨rfl,o,f,by rw[heapSort,←n];rfl,q,aj _⟩ ?_
  rintro S ⟨k,V⟩ t h2 ⟨u,b,p,m,c,E⟩ w;simp only at u b p m E;subst u;refine ax (fun C=>?_) fun H=>?_
  ·obtain⟨k,rfl⟩:∃k',k=k'+1:=⟨k-1,by omega⟩
   have B:((k+1:Nat):Int)-1=(k:Int):=by omega
   rw[B];refine b.swap (i:=a) (j:=a+k) rfl (by rw[dI (by omega)];omega) (by omega) (by omega) fun W A z=>?_
   refine GZ (root:=0) A (by simp;omega) (fun X v D=>w (k,_) _ _ ⟨by rw[dI (by omega)],v,by simp[p],?_,(c.tr z).tr D,by simp only;omega⟩ (by simp)) (by omega)
   rw[←m];rfl
  ·have:k=0:=by omega
   subst this;refine R _ ?_ c;rw[←m];exact b
theorem Qf{a e:Nat}(v:SA dec M s h d)(D:a<e)(E:e≤d.size){K:Unit→ad→Prop}(A:∀h',SA dec M s h' (reverseRange d a e)→Upd M h h'→K () h'):
  HC PG fM [.slice s.a s.len s.cap,.int .i64 a,.int .i64 e,ud] [] K h:=by
 refine oq s a e ud ?_;unfold jm bX ay bK jt gD;have w:=v.small;refine LoopP.ghost (fun(g:Nat×Nat×Array Int) (t:Int×Int) h'=>t.1=(g.1:Int)∧t.2=(g.2.1:Int)∧SA dec M s h' g.2.2∧g.2.2.size=d.size∧reverseLoop g.1 g.2.1 g.2.2=reverseRange d a e∧Upd M h h'∧g.2.1<e) (fun g=>g.2.1-g.1) (a,e-1,d)
  ⟨rfl,by simp only;rw[dI (by omega)];omega,v,rfl,rfl,Upd.refl _ _,by simp only;omega⟩ ?_
 rintro I ⟨i,j,y⟩ ⟨B,F⟩ C ⟨k,n,c,m,b,o,z⟩ x;simp only at k n c m b z;subst k n;refine ax (fun f=>?_) fun p=>?_
 ·have f:i<j:=by have:(i:Int)<(j:Int):=f;omega
  refine c.swap (i:=i) (j:=j) rfl rfl (by omega) (by omega) fun h2 q u=>?_
  refine x (i+1,j-1,swp y i j) _ _ ⟨by simp only;rw[dI (by omega)];rfl,by simp only;rw[dI (by omega)];omega,q,by simp[m],?_,o.tr u,by simp only;omega⟩ (by simp only;omega)
  rw[←b];conv=>rhs;rw[reverseLoop]
  rw[if_pos f]
 ·refine A _ ?_ o
  rw[←b,reverseLoop,if_neg (by have p:¬(i:Int)<(j:Int):=p;omega)];exact c
end Go.Proofs
namespace Go.Proofs
open Go Go.Lift Go.Sort
variable {dec:Int→Ch} {M:Nat→Prop} {s:SliceV} {h:ad} {d:Array Int}
theorem FU{T:Int→(Bool→ad→Prop)→ad→Prop}{REST:Int→ad→Prop}{p:Int→Bool}{q u:Int}{j i0:Nat}(B:u=(i0:Int))(D:q=(j:Int))(E:j≤1000000000)(w:i0≤1000000000)
  (A:SA dec M s h d)(z:∀(i:Nat) (R:Bool→ad→Prop) (b:ad),SA dec M s b d→i0≤i→i≤j→(∀h2,SA dec M s h2 d→Upd No b h2→R (p d[i]!) h2)→T (i:Int) R b) (g:∀b,SA dec M s b d→Upd No h b→REST ((scanUp p d j i0:Nat):Int) b):
  LoopP (fun(I:Int→ad→Prop) (t:Int) h'=>Join (fun(c:Bool) a=>CondP c (I (IntKind.wrap .i64 (t+1)) a) (REST t a)) (fun J=>CondP (decide (t≤q)) (T t J h') (J false h'))) u h:=by
 subst B D;refine LoopP.ghost (fun(i:Nat) (t:Int) h'=>t=(i:Int)∧SA dec M s h' d∧Upd No h h'∧i0≤i∧i≤1000000001∧scanUp p d j i=scanUp p d j i0) (fun i=>j+1-i) i0 ⟨rfl,A,Upd.refl _ _,aj _,by omega,rfl⟩ ?_
 rintro I i t h' ⟨rfl,f,k,hi,v,m⟩ y;refine Join.intro (fun c a=>SA dec M s a d∧Upd No h' a∧(c=true↔i≤j∧p d[i]! =true)) (fun R g=>?_) ?_
 ·refine ax (fun x=>?_) fun C=>g _ _ ⟨f,Upd.refl _ _,by simp;omega⟩
  exact z i _ h' f hi (by omega) fun h2 e n=>g _ _ ⟨e,n,by simp;omega⟩
 ·rintro c a ⟨e,n,hc⟩
  refine CondP.intro (fun b=>?_) fun b=>?_
  ·have o:=hc.1 b
   refine y (i+1) _ _ ⟨by rw[dI (by omega)];rfl,e,k.tr n,by omega,by omega,?_⟩ (by omega)
   rw[←m];conv=>rhs;rw[scanUp]
   rw[if_pos (by simp[o])]
  ·have:scanUp p d j i=i:=by
    rw[scanUp,if_neg];intro o;simp only[bH,decide_eq_true_iff]at o;rw[hc.2 o]at b;cases b
   rw[←m,this]at g;exact g _ e (k.tr n)
theorem AE{T:Int→(Bool→ad→Prop)→ad→Prop}{REST:Int→ad→Prop}{p:Int→Bool}{w v:Int}{j0 i:Nat}(D:v=(j0:Int))(A:w=(i:Int))(F:j0≤1000000000)(x:1≤i)
  (C:SA dec M s h d)(B:∀(j:Nat) (R:Bool→ad→Prop) (b:ad),SA dec M s b d→i≤j→j≤j0→(∀h2,SA dec M s h2 d→Upd No b h2→R (p d[j]!) h2)→T (j:Int) R b) (g:∀b,SA dec M s b d→Upd No h b→REST ((scanDown p d i j0:Nat):Int) b):
  LoopP (fun(I:Int→ad→Prop) (t:Int) h'=>Join (fun(c:Bool) a=>CondP c (I (IntKind.wrap .i64 (t-1)) a) (REST t a)) (fun J=>CondP (decide (w≤t)) (T t J h') (J false h'))) v h:=by
 subst D A;refine LoopP.ghost (fun(j:Nat) (t:Int) h'=>t=(j:Int)∧SA dec M s h' d∧Upd No h h'∧j≤j0∧scanDown p d i j=scanDown p d i j0) (fun j=>j) j0 ⟨rfl,C,Upd.refl _ _,aj _,rfl⟩ ?_
 rintro I j t h' ⟨rfl,f,m,u,n⟩ z;refine Join.intro (fun c a=>SA dec M s a d∧Upd No h' a∧(c=true↔i≤j∧p d[j]! =true)) (fun R g=>?_) ?_
 ·refine ax (fun y=>?_) fun E=>g _ _ ⟨f,Upd.refl _ _,by simp;omega⟩
  exact B j _ h' f (by omega) u fun h2 e o=>g _ _ ⟨e,o,by simp;omega⟩
 ·rintro c a ⟨e,o,hc⟩
  refine CondP.intro (fun b=>?_) fun b=>?_
  ·have q:=hc.1 b
   obtain⟨j,rfl⟩:∃k,j=k+1:=⟨j-1,by omega⟩
   refine z j _ _ ⟨by rw[dI (by omega)];omega,e,m.tr o,by omega,?_⟩ (by omega)
   rw[←n];conv=>rhs;rw[scanDown]
   rw[if_pos (by simp[q])]
  ·have:scanDown p d i j=j:=by
    cases j with
    |zero=>rw[scanDown]
    |succ j=>
     rw[scanDown,if_neg];intro q;simp only[bH,decide_eq_true_iff]at q;rw[hc.2 q]at b;cases b
   rw[←n,this]at g;exact g _ e (m.tr o)
theorem WD{a e m:Nat}(P:SA dec M s h d)(ha:a≤m)(hp:m<e)(he:e≤d.size){K:Int→ad→Prop}(Q:∀h',SA dec M s h' (partitionEqual (mM dec) d a e m).2→Upd M h h'→K ((partitionEqual (mM dec) d a e m).1:Nat) h'):
  HC PG fz [.slice s.a s.len s.cap,.int .i64 a,.int .i64 e,.int .i64 m,ud] [.c (.int .i64)] K h:=by
 refine ns s a e m ud ?_;unfold iC bX ji ay bK jt mo gD;have S:=P.small;refine P.swap (i:=a) (j:=m) rfl rfl (by omega) (by omega) fun h0 E L=>?_
 refine LoopP.ghost (fun(g:Nat×Nat×Array Int) (t:Int×Int) h'=>t.1=(g.1:Int)∧t.2=(g.2.1:Int)∧SA dec M s h' g.2.2∧g.2.2.size=d.size∧partEqLoop (mM dec) a g.1 g.2.1 g.2.2=partitionEqual (mM dec) d a e m∧Upd M h h'∧g.2.1<e∧a<g.1∧g.1≤1000000000) (fun g=>g.2.1+1-g.1) (a+1,e-1,swp d a m)
  ⟨by simp only;rw[dI (by omega)];rfl,by simp only;rw[dI (by omega)];omega,E,by simp,rfl,L,by simp only;omega,by simp,by simp only;omega⟩ ?_
 rintro I ⟨i,j,c⟩ ⟨t1,t2⟩ h1 ⟨q,w,y,v,b,A,X,H,z⟩ U;simp only at q w y v b X H z;subst q w;have W:=scanUp_ge (fun x=> !(mM dec) c[a]! x) c j i
 rw[partEqLoop_eq]at b;refine FU (d:=c) (p:=fun x=> !(mM dec) c[a]! x) (i0:=i) rfl rfl (by omega) z y (fun k R h' n C J G=>n.less (i:=a) (j:=k) rfl rfl (by omega) (by omega) fun h2 Y f B o=>by rw[o];exact G _ f B) fun hA D N=>?_
 generalize scanUp (fun x=> !(mM dec) c[a]! x) c j i=i2 at W b
 have V:=scanDown_le (fun x=>(mM dec) c[a]! x) c i2 j
 refine AE (d:=c) (p:=fun x=>(mM dec) c[a]! x) (j0:=j) (i:=i2) rfl rfl (by omega) (by omega) D (fun k R h' n C J G=>n.less (i:=a) (j:=k) rfl rfl (by omega) (by omega) fun h2 Y f B o=>by rw[o];exact G _ f B) fun hB u O=>?_
 generalize scanDown (fun x=>(mM dec) c[a]! x) c i2 j=j2 at V b
 refine ax (fun Z=>?_) fun T=>?_
 ·rw[if_pos (by omega)]at b
  rw[←b]at Q;exact Q _ u (A.tr (N.tr O).wide)
 ·rw[if_neg (by omega)]at b
  refine u.swap (i:=i2) (j:=j2) rfl rfl (by omega) (by omega) fun h2 f F=>?_
  exact U (i2+1,j2-1,swp c i2 j2) _ _ ⟨by simp only;rw[dI (by omega)];rfl,by simp only;rw[dI (by omega)];omega,f,by simp[v],b,(A.tr (N.tr O).wide).tr F,by simp only;omega,by simp only;omega,by simp only;omega⟩ (by simp only;omega)
theorem aau{a e o:Nat}(hs:SA dec M s h d)(ha:a≤o)(hp:o<e)(he:e≤d.size){K:Int×Bool→ad→Prop}
  (Q:∀h',SA dec M s h' (partition (mM dec) d a e o).2.2→Upd M h h'→K (((partition (mM dec) d a e o).1:Nat),(partition (mM dec) d a e o).2.1) h'):
  HC PG gv [.slice s.a s.len s.cap,.int .i64 a,.int .i64 e,.int .i64 o,ud] [.c (.int .i64),.c .bool] K h:=by
 refine pW s a e o ud ?_;unfold j9 bX ji ay bK jt mo gD;have hsm:=hs.small;refine hs.swap (i:=a) (j:=o) rfl rfl (by omega) (by omega) fun h0 H P=>?_
 have G:(swp d a o).size=d.size:=by simp
 have q:partition (mM dec) d a e o=(let d:=swp d a o
  let i:=scanUp (fun x=>(mM dec) x d[a]!) d (e-1) (a+1)
  let j:=scanDown (fun x=> !(mM dec) x d[a]!) d i (e-1)
  if i>j then(j,true,swp d j a)else
  let r:=partLoop (mM dec) a (i+1) (j-1) (swp d i j)
  (r.1,false,swp r.2 r.1 a)):=rfl
 simp only at q;generalize swp d a o=d0 at H G q;have we:IntKind.wrap .i64 ((e:Int)-1)=((e-1:Nat):Int):=by rw[dI (by omega)];omega
 have wa:IntKind.wrap .i64 ((a:Int)+1)=((a+1:Nat):Int):=by rw[dI (by omega)];rfl
 have g1:=scanUp_ge (fun x=>(mM dec) x d0[a]!) d0 (e-1) (a+1)
 refine FU (d:=d0) (p:=fun x=>(mM dec) x d0[a]!) (j:=e-1) (i0:=a+1) wa we (by omega) (by omega) H (fun k R h' f v B A=>f.less (i:=k) (j:=a) rfl rfl (by omega) (by omega) fun h2 V b u m=>by rw[m];exact A _ b u) fun hA S Y=>?_
 generalize scanUp (fun x=>(mM dec) x d0[a]!) d0 (e-1) (a+1)=i2 at g1 q
 have g2:=scanDown_le (fun x=> !(mM dec) x d0[a]!) d0 i2 (e-1)
 refine AE (d:=d0) (p:=fun x=> !(mM dec) x d0[a]!) (j0:=e-1) (i:=i2) we rfl (by omega) (by omega) S (fun k R h' f v B A=>f.less (i:=k) (j:=a) rfl rfl (by omega) (by omega) fun h2 V b u m=>by rw[m];exact A _ b u) fun hB D kB=>?_
 generalize scanDown (fun x=> !(mM dec) x d0[a]!) d0 i2 (e-1)=j2 at g2 q
 refine ax (fun W=>?_) fun hle=>?_
 ·rw[if_pos (by omega)]at q
  rw[q]at Q;exact D.swap (i:=j2) (j:=a) rfl rfl (by omega) (by omega) fun h2 b z=>Q h2 b ((P.tr (Y.tr kB).wide).tr z)
 ·rw[if_neg (by omega)]at q
  refine D.swap (i:=i2) (j:=j2) rfl rfl (by omega) (by omega) fun h2 b z=>?_
  refine LoopP.ghost (fun(g:Nat×Nat×Array Int) (t:Int×Int) h'=>t.1=(g.1:Int)∧t.2=(g.2.1:Int)∧SA dec M s h' g.2.2∧g.2.2.size=d.size∧partLoop (mM dec) a g.1 g.2.1 g.2.2=partLoop (mM dec) a (i2+1) (j2-1) (swp d0 i2 j2)∧Upd M h h'∧g.2.1<e∧a<g.1∧g.1≤1000000000) (fun g=>g.2.1+1-g.1) (i2+1,j2-1,swp d0 i2 j2)
   ⟨by simp only;rw[dI (by omega)];rfl,by simp only;rw[dI (by omega)];omega,b,by simp[G],rfl,(P.tr (Y.tr kB).wide).tr z,by simp only;omega,by simp only;omega,by simp only;omega⟩ ?_
  rintro I ⟨i,j,n⟩ ⟨t1,t2⟩ h1 ⟨C,F,J,E,c,N,hj,U,L⟩ hI;simp only at C F J E c hj U L;subst C F;have g3:=scanUp_ge (fun x=>(mM dec) x n[a]!) n j i
  rw[partLoop_eq]at c;refine FU (d:=n) (p:=fun x=>(mM dec) x n[a]!) (i0:=i) rfl rfl (by omega) L J (fun k R h' f v B A=>f.less (i:=k) (j:=a) rfl rfl (by omega) (by omega) fun h2 V b u m=>by rw[m];exact A _ b u) fun hC T kC=>?_
  generalize scanUp (fun x=>(mM dec) x n[a]!) n j i=i3 at g3 c
  have g4:=scanDown_le (fun x=> !(mM dec) x n[a]!) n i3 j
  refine AE (d:=n) (p:=fun x=> !(mM dec) x n[a]!) (j0:=j) (i:=i3) rfl rfl (by omega) (by omega) T (fun k R h' f v B A=>f.less (i:=k) (j:=a) rfl rfl (by omega) (by omega) fun h2 V b u m=>by rw[m];exact A _ b u) fun hD O X=>?_
  generalize scanDown (fun x=> !(mM dec) x n[a]!) n i3 j=j3 at g4 c
  refine ax (fun W=>?_) fun Z=>?_
  ·rw[if_pos (by omega)]at c
   rw[q,←c]at Q;exact O.swap (i:=j3) (j:=a) rfl rfl (by omega) (by omega) fun h3 y w=>Q h3 y ((N.tr (kC.tr X).wide).tr w)
  ·rw[if_neg (by omega)]at c
   refine O.swap (i:=i3) (j:=j3) rfl rfl (by omega) (by omega) fun h3 y w=>?_
   exact hI (i3+1,j3-1,swp n i3 j3) _ _ ⟨by simp only;rw[dI (by omega)];rfl,by simp only;rw[dI (by omega)];omega,y,by simp[E],c,(N.tr (kC.tr X).wide).tr w,by simp only;omega,by simp only;omega,by simp only;omega⟩ (by simp only;omega)
end Go.Proofs
namespace Go.Proofs
open Go Go.Lift Go.Sort
variable {dec:Int→Ch} {M:Nat→Prop} {s:SliceV} {h:ad} {d:Array Int}
@[simp] theorem I0(lt:Int→Int→Bool):∀(j:Nat) (d:Array Int),(shiftDown lt j d).size=d.size
 |0,d=>rfl
 |j+1,d=>by rw[shiftDown];split;rfl;rw[I0 lt j];simp
@[simp] theorem aae(lt:Int→Int→Bool)(e j:Nat)(d:Array Int):(shiftUp lt e j d).size=d.size:=by
 fun_induction shiftUp lt e j d<;>simp_all
theorem Lw{a e:Nat}(hs:SA dec M s h d)(ha:a<e)(he:e≤d.size){K:Bool→ad→Prop}(S:∀h',SA dec M s h' (partialInsertionSort (mM dec) d a e).1→Upd M h h'→K (partialInsertionSort (mM dec) d a e).2 h'):
  HC PG eE [.slice s.a s.len s.cap,.int .i64 a,.int .i64 e,ud] [.c .bool] K h:=by
 refine lP s a e ud ?_;unfold gF bE bX ji ay bK jt mo gD;have hsm:=hs.small;refine LoopP.ghost (fun(g:Nat×Nat×Array Int) (t:Int×Int) h'=>t.1=(g.2.1:Int)∧t.2=5-(g.1:Int)∧SA dec M s h' g.2.2∧g.2.2.size=d.size∧partialIns (mM dec) a e g.1 g.2.1 g.2.2=partialInsertionSort (mM dec) d a e∧Upd M h h'∧g.1≤5∧a<g.2.1∧g.2.1≤e) (fun g=>g.1) (5,a+1,d)
  ⟨by simp only;rw[dI (by omega)];rfl,by simp only;omega,hs,rfl,rfl,Upd.refl _ _,by simp,by simp,by simp only;omega⟩ ?_
 rintro I ⟨st,i0,w⟩ ⟨t1,t2⟩ h1 ⟨ht1,V,C,Y,x,hu1,hst,hai,U⟩ hI;simp only at ht1 V C Y x hst hai U;subst ht1 V;refine ax (fun hlt=>?_) fun hge=>?_
 ·obtain⟨st,rfl⟩:∃k,st=k+1:=⟨st-1,by have:5-(st:Int)<5:=hlt;omega⟩
  refine Join.intro (fun t h'=>∃T d2,t=(T:Nat)∧SA dec M s h' d2∧d2.size=d.size∧partialIns (mM dec) a e st T d2=partialInsertionSort (mM dec) d a e∧Upd M h h'∧a<T∧T≤e) (fun R hR=>?_) ?_
  ·refine LoopP.ghost (fun(i:Nat) (t:Int) h'=>t=(i:Int)∧SA dec M s h' w∧Upd No h1 h'∧scanSorted (mM dec) w e i=scanSorted (mM dec) w e i0∧a<i∧i≤e) (fun i=>e-i) i0 ⟨rfl,C,Upd.refl _ _,rfl,hai,U⟩ ?_
   rintro I2 i t h' ⟨rfl,y,k2,W,f,m⟩ hI2;refine Join.intro (fun c E=>SA dec M s E w∧Upd No h' E∧(c=true↔i<e∧(mM dec) w[i]! w[i-1]! =false)) (fun R2 hR2=>?_) ?_
   ·refine ax (fun hle=>?_) fun hgt=>hR2 _ _ ⟨y,Upd.refl _ _,by simp;omega⟩
    exact y.less (i:=i) (j:=i-1) rfl (by rw[dI (by omega)];omega) (by omega) (by omega) fun B e3 p k3 he3=>hR2 _ _ ⟨p,k3,by rw[he3];simp;omega⟩
   ·rintro c E ⟨p,k3,hc⟩
    have v:=hu1.tr (k2.tr k3).wide;refine CondP.intro (fun h2=>?_) fun h2=>?_
    ·have hh:=hc.1 h2
     refine hI2 (i+1) _ _ ⟨by rw[dI (by omega)];rfl,p,k2.tr k3,?_,by omega,by omega⟩ (by omega)
     rw[←W];conv=>rhs;rw[scanSorted]
     rw[if_pos (by simp[hh])]
    ·have hsi:scanSorted (mM dec) w e i=i:=by
      rw[scanSorted,if_neg];intro hh;simp only[bH,decide_eq_true_iff,Bool.not_eq_eq_eq_not,Bool.not_true]at hh;rw[hc.2 hh]at h2;cases h2
     have b:=x;rw[partialIns]at b;simp only[←W,hsi]at b;refine CondP.intro (fun B=>?_) fun B=>?_
     ·have B:i=e:=by
       have:(i:Int)=e:=by simpa using B
       omega
      rw[if_pos B]at b;rw[←b]at S;exact S _ p v
     ·have B:i≠e:=fun e'=>by subst e';simp at B
      rw[if_neg B]at b;have we:IntKind.wrap .i64 ((e:Int)-(a:Int))=((e-a:Nat):Int):=by rw[dI (by omega)];omega
      show CondP (decide (IntKind.wrap .i64 ((e:Int)-(a:Int))<50)) _ _
      rw[we];refine ax (fun h4=>?_) fun h4=>?_
      ·rw[if_pos (by omega)]at b
       rw[←b]at S;exact S _ p v
      ·rw[if_neg (by omega)]at b
       have hi1:1≤i:=by omega
       refine p.swap (i:=i) (j:=i-1) rfl (by rw[dI (by omega)];omega) (by omega) (by omega) fun h5 D hu5=>?_
       have F:(swp w i (i-1)).size=d.size:=by simp[Y]
       generalize swp w i (i-1)=d5 at D F b;refine Join.intro (fun _ h'=>SA dec M s h' (if i-a≥2 then shiftDown (mM dec) (i-1) d5 else d5)∧Upd M h h') (fun R3 u=>?_) ?_
       ·have wi:IntKind.wrap .i64 ((i:Int)-(a:Int))=((i-a:Nat):Int):=by rw[dI (by omega)];omega
        show CondP (decide (IntKind.wrap .i64 ((i:Int)-(a:Int))≥2)) _ _
        rw[wi];refine ax (fun h6=>?_) fun h6=>?_
        ·rw[if_pos (by omega)]at u
         refine LoopP.ghost (fun(g:Nat×Array Int) (t:Int) h'=>t=(g.1:Int)∧SA dec M s h' g.2∧g.2.size=d.size∧shiftDown (mM dec) g.1 g.2=shiftDown (mM dec) (i-1) d5∧Upd M h h'∧g.1<e) (fun g=>g.1) (i-1,d5)
          ⟨by rw[dI (by omega)];simp only;omega,D,F,rfl,v.tr hu5,by simp only;omega⟩ ?_
         rintro I4 ⟨j,d6⟩ t h7 ⟨ht,N,hz7,o,hu7,O⟩ P;simp only at ht N hz7 o O;subst ht;refine ax (fun h8=>?_) fun h8=>?_
         ·obtain⟨j,rfl⟩:∃k,j=k+1:=⟨j-1,by omega⟩
          have Q:IntKind.wrap .i64 (((j+1:Nat):Int)-1)=(j:Int):=by rw[dI (by omega)];omega
          rw[shiftDown]at o;refine N.less (i:=j+1) (j:=j) rfl Q (by omega) (by omega) fun hL eL hsL kL G=>?_
          have q:=hu7.tr kL.wide;rw[G];refine CondP.intro (fun Z=>?_) fun Z=>?_
          ·rw[if_pos Z]at o
           exact u _ _ ⟨by rw[←o];exact hsL,q⟩
          ·rw[if_neg (by rw[Z];simp)]at o
           refine hsL.swap (i:=j+1) (j:=j) rfl Q (by omega) (by omega) fun z hs10 hu10=>?_
           exact P (j,swp d6 (j+1) j) _ _ ⟨Q,hs10,by simp[hz7],o,q.tr hu10,by simp only;omega⟩ (by simp)
         ·have:j=0:=by omega
          subst this;exact u _ _ ⟨by rw[←o];exact N,hu7⟩
        ·rw[if_neg (by omega)]at u
         exact u _ _ ⟨D,v.tr hu5⟩
       ·rintro _ h6 ⟨L,hu6⟩
        have J:(if i-a≥2 then shiftDown (mM dec) (i-1) d5 else d5).size=d.size:=by split<;>simp[F]
        generalize (if i-a≥2 then shiftDown (mM dec) (i-1) d5 else d5)=d6 at L J b
        have wi:IntKind.wrap .i64 ((e:Int)-(i:Int))=((e-i:Nat):Int):=by rw[dI (by omega)];omega
        show CondP (decide (IntKind.wrap .i64 ((e:Int)-(i:Int))≥2)) _ _
        rw[wi];refine ax (fun h7=>?_) fun h7=>?_
        ·rw[if_pos (by omega)]at b
         refine LoopP.ghost (fun(g:Nat×Array Int) (t:Int) h'=>t=(g.1:Int)∧SA dec M s h' g.2∧g.2.size=d.size∧shiftUp (mM dec) e g.1 g.2=shiftUp (mM dec) e (i+1) d6∧Upd M h h'∧1≤g.1∧g.1≤e) (fun g=>e-g.1) (i+1,d6)
          ⟨by rw[dI (by omega)];rfl,L,J,rfl,hu6,by simp,by simp only;omega⟩ ?_
         rintro I4 ⟨j,d7⟩ t h8 ⟨ht,H,A,n,X,hj1,O⟩ P;simp only at ht H A n hj1 O;subst ht;refine ax (fun Z=>?_) fun Z=>?_
         ·have Q:IntKind.wrap .i64 ((j:Int)-1)=((j-1:Nat):Int):=by rw[dI (by omega)];omega
          rw[shiftUp,if_pos (by omega)]at n;refine H.less (i:=j) (j:=j-1) rfl Q (by omega) (by omega) fun hL eL hsL kL G=>?_
          have q:=X.tr kL.wide;rw[G];refine CondP.intro (fun z=>?_) fun z=>?_
          ·rw[if_pos z]at n
           exact hR _ _ ⟨i,d7,rfl,hsL,A,by rw[n];exact b,q,f,m⟩
          ·rw[if_neg (by rw[z];simp)]at n
           refine hsL.swap (i:=j) (j:=j-1) rfl Q (by omega) (by omega) fun h11 hs11 hu11=>?_
           exact P (j+1,swp d7 j (j-1)) _ _ ⟨by rw[dI (by omega)];rfl,hs11,by simp[A],n,q.tr hu11,by simp,by simp only;omega⟩ (by simp only;omega)
         ·rw[shiftUp,if_neg (by omega)]at n
          exact hR _ _ ⟨i,d7,rfl,H,A,by rw[n];exact b,X,f,m⟩
        ·rw[if_neg (by omega)]at b
         exact hR _ _ ⟨i,d6,rfl,L,J,b,hu6,f,m⟩
  ·rintro t h' ⟨T,d2,rfl,y,hz2,b,hu2,f,m⟩
   exact hI (st,T,d2) _ _ ⟨rfl,by simp only;rw[dI (by omega)];omega,y,hz2,b,hu2,by simp only;omega,f,m⟩ (by simp)
 ·have:st=0:=by have:¬5-(st:Int)<5:=hge;omega
  subst this;rw[partialIns]at x;rw[←x]at S;exact S _ C hu1
theorem F7{x y:Nat}(v:SA dec M s h d)(hx:x<d.size)(u:y<d.size){c:Nat}{n:Int}(hc:h[c]? =some (.cells #[.int .i64 n] lY (0,0))) (e:¬M c) {K:Int×Int→ad→Prop}
  (g:∀h' (p q:Nat) m,(p=x∧q=y∨p=y∧q=x)→SA dec M s h' d→h'[c]? =some (.cells #[.int .i64 m] lY (0,0))→Upd (· =c) h h'→K ((p:Int),(q:Int)) h'):
  HC PG eh [.slice s.a s.len s.cap,.int .i64 x,.int .i64 y,.pointer (some ⟨c,0,none⟩),ud] [.c (.int .i64),.c (.int .i64)] K h:=by
 refine rD s x y (some ⟨c,0,none⟩) ud ?_;unfold lF bX ji ay bK mo;refine v.less (i:=y) (j:=x) rfl rfl u hx fun o w b k0 f=>?_
 have a:=k0.get0 hc;rw[f];refine CondP.intro (fun t=>?_) fun t=>?_
 ·refine⟨_,rfl,n,by rw[bF a];rfl,_,rfl,iw a (by simp),?_⟩
  have k:Upd (· =c) o (hset o ⟨c,0,none⟩ (.int .i64 (IntKind.wrap .i64 (n+1)))):=Upd.hset _ _ rfl
  refine g _ y x (IntKind.wrap .i64 (n+1)) (.inr ⟨rfl,rfl⟩) (b.updC k e) ?_ (k0.wide.tr k);rw[yD a,jZ a];rfl
 ·exact g _ x y _ (.inl ⟨rfl,rfl⟩) b a k0.wide
theorem MZ{x y z:Nat}(E:SA dec M s h d)(hx:x<d.size)(C:y<d.size)(G:z<d.size){c:Nat}{n:Int}(hc:h[c]? =some (.cells #[.int .i64 n] lY (0,0))) (a:¬M c) {K:Int→ad→Prop}
  (H:∀h' (p:Nat) m,(p=x∨p=y∨p=z)→SA dec M s h' d→h'[c]? =some (.cells #[.int .i64 m] lY (0,0))→Upd (· =c) h h'→K (p:Int) h'):
  HC PG fC [.slice s.a s.len s.cap,.int .i64 x,.int .i64 y,.int .i64 z,.pointer (some ⟨c,0,none⟩),ud] [.c (.int .i64)] K h:=by
 refine rE s x y z (some ⟨c,0,none⟩) ud ?_;unfold lG;refine F7 E hx C hc a fun O B w N J i u j=>?_
 have q:w<d.size:=by omega
 have b:B<d.size:=by omega
 refine F7 i q G u a fun h2 F Q R S f o g=>?_
 have k:F<d.size:=by omega
 refine F7 f b k o a fun P I D A L e t v=>?_
 exact H _ D A (by omega) e t ((j.tr g).tr v)
theorem zt{x:Nat}(g:SA dec M s h d)(q:1≤x)(hx:x+1<d.size){c:Nat}{n:Int}(hc:h[c]? =some (.cells #[.int .i64 n] lY (0,0))) (b:¬M c) {K:Int→ad→Prop}
  (o:∀h' (p:Nat) m,(x-1≤p∧p≤x+1)→SA dec M s h' d→h'[c]? =some (.cells #[.int .i64 m] lY (0,0))→Upd (· =c) h h'→K (p:Int) h'):
  HC PG cU [.slice s.a s.len s.cap,.int .i64 x,.pointer (some ⟨c,0,none⟩),ud] [.c (.int .i64)] K h:=by
 refine nu s x (some ⟨c,0,none⟩) ud ?_;unfold iE;have i:=g.small;have k:IntKind.wrap .i64 ((x:Int)-1)=((x-1:Nat):Int):=by rw[dI (by omega)];omega
 have j:IntKind.wrap .i64 ((x:Int)+1)=((x+1:Nat):Int):=by rw[dI (by omega)];omega
 rw[k,j];exact MZ g (by omega) (by omega) hx hc b fun h' p m t a e f=>o h' p m (by omega) a e f
theorem Ki{a e:Nat}(H:SA dec M s h d)(ha:a<e)(he:e≤d.size){K:Int×Int→ad→Prop}
  (z:∀h' (p:Nat) (n:Int),a≤p→p<e→SA dec M s h' d→Upd No h h'→K ((p:Int),n) h'):
  HC PG fU [.slice s.a s.len s.cap,.int .i64 a,.int .i64 e,ud] [.c (.int .i64),.c (.int .i64)] K h:=by
 refine oW s a e ud ?_;unfold jN;have W:=H.small;have k0:=Upd.hnew No h [.int .i64 0] lY;have o:=cq h [.int .i64 0] lY;have i:=H.upd0 k0;have j:¬M h.size:=fun B=>by have:=H.lt _ B;omega
 simp only[At];generalize hnew h [.int .i64 0] lY=h0 at k0 o i;have wl:IntKind.wrap .i64 ((e:Int)-(a:Int))=((e-a:Nat):Int):=by rw[dI (by omega)];omega
 have Z:IntKind.wrap .i64 (gj ((e-a:Nat):Int) 4)=(((e-a)/4:Nat):Int):=by
  rw[dB (by omega),dI (by omega)];omega
 have D:∀k:Nat,k≤3→IntKind.wrap .i64 (((((e-a)/4:Nat):Int))*(k:Int))=(((e-a)/4*k:Nat):Int):=fun k z=>by
  rw[q9,dI];have:(e-a)/4*k≤1000000000*3:=Nat.mul_le_mul (by omega) z;have:(((e-a)/4*k:Nat):Int)=(((e-a)/4:Nat):Int)*(k:Int):=q9 ..;omega
 have U:=D 1 (by omega);have P:=D 2 (by omega);have Q:=D 3 (by omega);simp only[Int.cast_ofNat_Int]at U P Q;simp only[Bd,wl,Z];have O:IntKind.wrap .i64 ((((e-a)/4:Nat):Int)*1)=(((e-a)/4*1:Nat):Int):=U;have G:IntKind.wrap .i64 ((((e-a)/4:Nat):Int)*2)=(((e-a)/4*2:Nat):Int):=P;have L:IntKind.wrap .i64 ((((e-a)/4:Nat):Int)*3)=(((e-a)/4*3:Nat):Int):=Q;rw[O,G,L];have N:∀k:Nat,k≤3→IntKind.wrap .i64 ((a:Int)+(((e-a)/4*k:Nat):Int))=((a+(e-a)/4*k:Nat):Int):=fun k z=>by
  have:(e-a)/4*k≤(e-a)/4*3:=Nat.mul_le_mul_left _ z;rw[dI (by omega)];omega
 refine⟨by decide,by decide,by decide,?_⟩
 refine Join.intro (fun t h'=>∃p:Nat,t=(p:Int)∧a≤p∧p<e∧SA dec M s h' d∧Upd No h h'∧∃m,h'[h.size]? =some (.cells #[.int .i64 m] lY (0,0))) (fun R S=>?_) ?_
 ·rw[N 1 (by omega),N 2 (by omega),N 3 (by omega)]
  refine ax (fun V=>?_) fun V=>?_
  ·have V:8≤e-a:=by omega
   refine Join.intro (fun t h'=>∃p q r:Nat,t=((p:Int),(q:Int),(r:Int))∧(a≤p∧p<e)∧(a≤q∧q<e)∧(a≤r∧r<e)∧SA dec M s h' d∧Upd No h h'∧∃m,h'[h.size]? =some (.cells #[.int .i64 m] lY (0,0))) (fun R2 C=>?_) ?_
   ·refine ax (fun A=>?_) fun A=>?_
    ·have A:50≤e-a:=by omega
     refine zt i (by omega) (by omega) o j fun T X m1 e1 c g f=>?_
     refine zt c (by omega) (by omega) g j fun h2 I m2 e2 v y w=>?_
     refine zt v (by omega) (by omega) y j fun h3 Y m3 e3 F J E=>?_
     exact C _ _ ⟨X,I,Y,rfl,by omega,by omega,by omega,F,k0.trans ((f.tr w).tr E) fun b B=>.inr (fS B.symm),_,J⟩
    ·exact C _ _ ⟨_,_,_,rfl,by omega,by omega,by omega,i,k0,_,o⟩
   ·rintro t T ⟨p,q,r,rfl,hp,hq,hr,c,f,m,g⟩
    refine MZ c (by omega) (by omega) (by omega) g j fun h2 I m2 e2 v y w=>?_
    exact S _ _ ⟨I,rfl,by omega,by omega,v,f.trans w fun b B=>.inr (fS B.symm),_,y⟩
  ·exact S _ _ ⟨_,rfl,by omega,by omega,i,k0,_,o⟩
 ·rintro t T ⟨p,rfl,u,x,c,f,m,g⟩
  refine⟨m,by rw[cR,bF g];rfl,CondP.intro (fun _=>z _ p _ u x c f) fun _=>CondP.intro (fun _=>z _ p _ u x c f) fun _=>z _ p _ u x c f⟩
end Go.Proofs
