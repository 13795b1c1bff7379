/- A part of the proof that the named laws of this program answer true, whatever the input. -/
import Derived.Test.YtajpljopgikpgaaGreatDoorPart8
open Int renaming tmod→gL,le_refl→qc
open List renaming mem_singleton→aj,length_map→fS
open List.Pairwise renaming nil→fO
open Nat renaming le_refl→au,zero_le→bp
namespace Go.Proofs
open Go Go.Lift
theorem F8{h:ad}{pb cb cap:Nat}{ids:List Int}(p:PoolAt h pb cb cap ids){K:Int→ad→Prop}(b:K (IntKind.wrap .i64 ((cap:Int)-(ids.length:Int))) h):HC PG mK [.pointer (some ⟨pb,0,none⟩)] [.c (.int .i64)] K h:=by
 obtain⟨_,a,s,r,hc⟩:=p;refine xQ _ ?_;unfold qN dC;exact ah.2 ⟨_,rfl,_,vc a 0,cap,⟨_,_,_,_,_,hc,rfl⟩,_,rfl,_,vc a 0,ids.length,⟨_,_,_,_,_,hc,by simp⟩,b⟩
abbrev Sn:=Tr×Tr×List Pr
def SS(c:WC)(g:WG)(b:Nat)(d:Tr)(a e:SliceV)(f i:List Tr):List Sp:=SW c g++ [rV b (gm d) ax,gP gm 6 ax a f,gP gm 6 ax e i]
def ZOk(U:Nat→Prop)(h:ad)(kk:Int)(x:Hs)(z:Sn):Prop:=TreeIs U h kk x z.1 z.2.2∧TreeIs U h kk x z.2.1 z.2.2∧cp z.2.2∧Fit z.2.2∧z.2.2.length≤60000
theorem ZOk.mv{U b:Nat→Prop}{h a:ad}{kk:Int}{x:Hs}{z:Sn}(o:ZOk U h kk x z)(m:Mv U h b a):ZOk b a kk x z:=⟨o.1.mv m,o.2.1.mv m,o.2.2⟩
structure SSt(h:ad)(c:WC)(g:WG)(n:Nat)(ids:List Int)(h':ad)(vb:Nat)(sn wn:SliceV)(e:Ed)(tv:Tr)(zs:List Sn):Prop where
 ws:Ws (SS c g vb tv sn wn (zs.map (·.1)) (zs.map (·.2.1))) h' c.pb c.cb 1 ids c.kk c.x n [e]
 it:TreeIs (c.U (SS c g vb tv sn wn (zs.map (·.1)) (zs.map (·.2.1))) [e]) h' c.kk c.x tv e.lu
 zw:∀z∈zs,ZOk (c.U (SS c g vb tv sn wn (zs.map (·.1)) (zs.map (·.2.1))) [e]) h' c.kk c.x z
 mv:Mv No h (c.U (SS c g vb tv sn wn (zs.map (·.1)) (zs.map (·.2.1))) [e]) h'
section
variable {h h1 h2 h3 h4:ad} {c:WC} {g:WG} {n:Nat} {ids ids':List Int} {vb:Nat} {sn wn sn' wn':SliceV} {e e':Ed} {tv tv':Tr} {zs zs':List Sn} {l1 l2:List Tr}
theorem SS.a9(a:g.xs= []):(SS c g vb tv sn wn l1 l2)[9]? =some (rV vb (gm tv) ax):=by simp[SS,SW,a]
theorem SS.a10(a:g.xs= []):(SS c g vb tv sn wn l1 l2)[10]? =some (gP gm 6 ax sn l1):=by simp[SS,SW,a]
theorem SS.a11(a:g.xs= []):(SS c g vb tv sn wn l1 l2)[11]? =some (gP gm 6 ax wn l2):=by simp[SS,SW,a]
theorem SS.s9(a:g.xs= []):(SS c g vb tv sn wn l1 l2).set 9 (rV vb (gm tv') ax)=SS c g vb tv' sn wn l1 l2:=by simp[SS,SW,a]
theorem SS.s10(b:g.xs= []){a:List Tr}:(SS c g vb tv sn wn l1 l2).set 10 (gP gm 6 ax sn' a)=SS c g vb tv sn' wn a l2:=by simp[SS,SW,b]
theorem SS.s11(b:g.xs= []){a:List Tr}:(SS c g vb tv sn wn l1 l2).set 11 (gP gm 6 ax wn' a)=SS c g vb tv sn wn' l1 a:=by simp[SS,SW,b]
theorem SSt.up0(s:SSt h c g n ids h1 vb sn wn e tv zs)(k:Upd No h1 h2):SSt h c g n ids h2 vb sn wn e tv zs:=⟨s.ws.up0 k,s.it.upd0 k,fun z hz=>(s.zw z hz).mv (.of0 k),s.mv.up0 k⟩
theorem SSt.cv(s:SSt h c g n ids h1 vb sn wn e tv zs)(a:g.xs= []):h1[vb]? =some (.cells (gm tv).toArray ax (0,0)):=s.ws.own.get (SS.a9 a)
theorem SSt.ed{m:Nat}(s:SSt h c g n ids h1 vb sn wn e tv zs)(w:Wo (AL (SS c g vb tv sn wn (zs.map (·.1)) (zs.map (·.2.1)))) h2 c.pb c.cb 1 ids' c.kk c.x m [e'])(k:Me (AL (SS c g vb tv sn wn (zs.map (·.1)) (zs.map (·.2.1)))) c.cb [e] h1 [e'] h2)(a:e'.lu=e.lu):SSt h c g m ids' h2 vb sn wn e' tv zs:=
 ⟨s.ws.ed w k,a▸s.it.mv k.1,fun z hz=>(s.zw z hz).mv k.1,s.mv.tr k.1⟩
theorem SSt.fin{m:Nat}(s:SSt h c g n ids h1 vb sn wn e tv zs)(b:g.xs= [])(w:Wo (AL (SS c g vb tv sn wn (zs.map (·.1)) (zs.map (·.2.1)))) h2 c.pb c.cb 1 ids c.kk c.x m [e'])(k:Me (AL (SS c g vb tv sn wn (zs.map (·.1)) (zs.map (·.2.1)))) c.cb [e] h1 [e'] h2)(a:Upd No h2 h3)
  (f:TreeIs (c.U (SS c g vb tv sn wn (zs.map (·.1)) (zs.map (·.2.1))) [e']) h3 c.kk c.x tv' e'.lu)(d:h4[vb]? =some (.cells (gm tv').toArray ax (0,0))) (u:Upd (· =vb) h3 h4):SSt h c g m ids h4 vb sn wn e' tv' zs:=by
 have r:=((s.ws.ed w k).up0 a).cell (SS.a9 b) u d;rw[SS.s9 b]at r;exact⟨r.1,f.mv r.2,fun z hz=>(((s.zw z hz).mv k.1).mv (.of0 a)).mv r.2,((s.mv.tr k.1).up0 a).tr r.2⟩
theorem SSt.push{z:Sn}(s:SSt h c g n ids h1 vb sn wn e tv zs)(hz:ZOk (c.U (SS c g vb tv sn wn (zs.map (·.1)) (zs.map (·.2.1))) [e]) h1 c.kk c.x z)(w:Ws (SS c g vb tv sn' wn' (zs.map (·.1)++ [z.1]) (zs.map (·.2.1)++ [z.2.1])) h2 c.pb c.cb 1 ids c.kk c.x n [e])(m:Mv (c.U (SS c g vb tv sn wn (zs.map (·.1)) (zs.map (·.2.1))) [e]) h1 (c.U (SS c g vb tv sn' wn' (zs.map (·.1)++ [z.1]) (zs.map (·.2.1)++ [z.2.1])) [e]) h2):
  SSt h c g n ids h2 vb sn' wn' e tv (zs++ [z]):=by
 have b:(zs++ [z]).map (·.1)=zs.map (·.1)++ [z.1]:=by simp
 have d:(zs++ [z]).map (·.2.1)=zs.map (·.2.1)++ [z.2.1]:=by simp
 refine⟨by rw[b,d];exact w,by rw[b,d];exact s.it.mv m,fun y a=>?_,by rw[b,d];exact s.mv.tr m⟩
 rw[b,d];rcases List.mem_append.1 a with a|a
 ·exact(s.zw y a).mv m
 ·rw[aj.1 a];exact hz.mv m
theorem SSt.app1{sl:SliceV}{b:Nat}{a:Tr}{K:SliceV→ad→Prop}(w:Ws (SS c g vb tv sn wn l1 l2) h1 c.pb c.cb 1 ids c.kk c.x n [e])(i:g.xs= [])(d:sl=sn)(j:h1[b]? =some (.cells (gm a).toArray ax (0,0))) (q:l1.length+1≤1000000)
  (m:∀sn' h2,Ws (SS c g vb tv sn' wn (l1++ [a]) l2) h2 c.pb c.cb 1 ids c.kk c.x n [e]→Upd (sb sn) h1 h2→Mv (c.U (SS c g vb tv sn wn l1 l2) [e]) h1 (c.U (SS c g vb tv sn' wn (l1++ [a]) l2) [e]) h2→K sn' h2):∃xs,SRow h1 (some ⟨b,0,none⟩) (1*6) xs∧AppP (some (gm zJ)) 6 48 ax sl.a sl.len sl.cap 1 xs h1 K:=by
 subst d;refine GP (f:=gm) (t:=a) (w.own.get (SS.a10 i)) j rfl rfl ⟨by omega,by omega⟩ q fun s' h2 o k p=>?_
 have r:=w.slice (SS.a10 i) k o p;rw[SS.s10 i]at r;exact m s' h2 r.1 k r.2
theorem SSt.app2{sl:SliceV}{b:Nat}{a:Tr}{K:SliceV→ad→Prop}(w:Ws (SS c g vb tv sn wn l1 l2) h1 c.pb c.cb 1 ids c.kk c.x n [e])(i:g.xs= [])(d:sl=wn)(j:h1[b]? =some (.cells (gm a).toArray ax (0,0))) (q:l2.length+1≤1000000)
  (m:∀wn' h2,Ws (SS c g vb tv sn wn' l1 (l2++ [a])) h2 c.pb c.cb 1 ids c.kk c.x n [e]→Mv (c.U (SS c g vb tv sn wn l1 l2) [e]) h1 (c.U (SS c g vb tv sn wn' l1 (l2++ [a])) [e]) h2→K wn' h2):∃xs,SRow h1 (some ⟨b,0,none⟩) (1*6) xs∧AppP (some (gm zJ)) 6 48 ax sl.a sl.len sl.cap 1 xs h1 K:=by
 subst d;refine GP (f:=gm) (t:=a) (w.own.get (SS.a11 i)) j rfl rfl ⟨by omega,by omega⟩ q fun s' h2 o k p=>?_
 have r:=w.slice (SS.a11 i) k o p;rw[SS.s11 i]at r;exact m s' h2 r.1 r.2
end
set_option maxRecDepth 100000 in
set_option maxHeartbeats 4000000 in
theorem Dv{h:ad}{k ev:Int}{x:Hs}{s:SliceV}{l:List Pr}(tab:Tab h)(hs:Sl iY 2 No h s l)(hl:l.length≤9223372036854775807)(hk0:0≤k)(hk1:k≤255)(hv0:0≤ev)(hv1:ev≤255):
  HC PG rT [.int .u8 k,.agg #[.int .u64 x.k0,.int .u64 x.k1,.int .u64 x.mask],.slice s.a s.len s.cap,.int .u8 ev] [.c .bool] (fun b C=>b=true∧Upd No h C) h:=by
 refine y4 k (x.k0,x.k1,x.mask) s ev ?_;unfold sd fH rR bo af cE eK aA cG aE bL gC nv Ai vE yi rd vI qv su qz Ob y9 rP;have hkk:=NY hk0 hk1;generalize e0:IntKind.wrap .i64 (gL k 2)=kk at hkk;have hd:∃d:Nat,IntKind.wrap .i64 (1+IntKind.wrap .i64 (gL ev 5))=(d:Int)∧0<d:=by
  refine⟨(1+ev%5).toNat,?_,by omega⟩
  rw[Int.tmod_eq_emod_of_nonneg hv0,nA (x:=ev%5) (by omega),nA (by omega)];omega
 obtain⟨d,ed,hd⟩:=hd;rw[ed];refine aX fun h1 b1 k1=>GM fun h3 k3=>ah.2 ?_
 have c3:=k3.get0 b1;refine⟨_,vc c3 0,_,vc c3 1,_,vc c3 2,IE (x:=x) (n:=0) (c:=1) hkk e0 rfl (au _) (by omega) fun h8 t r wb A J pb cb rb s1 md=>?_⟩
 have k03:=k1.tr k3;obtain⟨N,hN⟩:=md.ws;obtain⟨ws,it,_,mv8⟩:=hN _ rfl;have q0:∀{C:ad} {c:WC},c.wb=wb→c.pb=pb→Own (SW c (g0 A J s1 t r 1)) C→C[wb]? =some (.cells (NG (FK A) (FK J) s0 s0 (pA pb) (pA c.rb)).toArray lD (0,0)):=fun{C c} e1 e2 o=>by
  have:=o.get (i:=0) rfl;rw[e1,e2]at this;exact this
 have q2:∀{C:ad} {c:WC},Own (SW c (g0 A J s1 t r 1)) C→C[A]? =some (.cells (gm t).toArray ax (0,0)):=fun{C c} o=>by
  have:OwnS gm 6 ax (sb (FK A)) C (FK A) [t]:=o.get (i:=2) rfl;obtain h0|⟨b,rest,e1,_,e2,e3⟩:=this.blk
  ·cases h0
  ·cases e1
   have:rest= []:=List.length_eq_zero_iff.1 (by simpa using e3);subst this;simpa using e2
 have w8:=q0 rfl rfl ws.own;have d8:=q2 ws.own;refine⟨_,rfl,_,vc w8 4,_,rfl,FK A,vc w8 0,⟨qc _,Int.zero_lt_one⟩,_,rfl,_,nO d8 0 0,_,nO d8 0 1,_,nO d8 0 2,_,nO d8 0 3,_,nO d8 0 4,_,nO d8 0 5,?_⟩;refine Lu (j:=1) (ids2:= []) ws.wo rfl it fO (fun p hp=>by cases hp) (au _) fun u eb tb w21 m21=>?_
 have ws21:=ws.ed w21 m21;have w21':=q0 rfl rfl ws21.own;have d21:=q2 ws21.own;refine⟨vc w21' 0,ah.2 ⟨_,rfl,FK A,vc w21' 0,⟨qc _,Int.zero_lt_one⟩,_,rfl,_,nO d21 0 0,_,nO d21 0 1,_,nO d21 0 2,_,nO d21 0 3,_,nO d21 0 4,_,nO d21 0 5,uT (t:=t) fun h32 b32 k32=>?_⟩⟩
 have z32:=aF b32;have p1:=ws21.push (s':=rV u.size (gm t) ax) k32 b32 fun y hy=>by have hy:y=u.size:=hy;omega
 have p2:=p1.1.push (s':=gP gm 6 ax s0 []) (Upd.refl No _) (OwnS.nil FC) fun y hy=>absurd hy (oA y)
 have p3:=p2.1.push (s':=gP gm 6 ax s0 []) (Upd.refl No _) (OwnS.nil FC) fun y hy=>absurd hy (oA y)
 have p123:=(p1.2.tr p2.2).tr p3.2;have es:((SW (WC.mk wb rb pb cb 1 N kk x) (g0 A J s1 t r 1)++ [rV u.size (gm t) ax])++ [gP gm 6 ax s0 []])++ [gP gm 6 ax s0 []]=SS (WC.mk wb rb pb cb 1 N kk x) (g0 A J s1 t r 1) u.size t s0 s0 (([]:List Sn).map (·.1)) (([]:List Sn).map (·.2.1)):=by simp[SS]
 rw[es]at p3 p123;have mv0:Mv No h ((WC.mk wb rb pb cb 1 N kk x).U (SS (WC.mk wb rb pb cb 1 N kk x) (g0 A J s1 t r 1) u.size t s0 s0 (([]:List Sn).map (·.1)) (([]:List Sn).map (·.2.1))) [⟨eb,tb,1,true,t,[],No⟩]) h32:=by
  have:=(mv8.tr m21.1).tr p123;exact⟨k03.tr this.1,fun y hy=>(this.2 y hy).imp id fun h=>Nat.le_trans k03.size h⟩
 have st0:SSt h (WC.mk wb rb pb cb 1 N kk x) (g0 A J s1 t r 1) 0 [] h32 u.size s0 s0 ⟨eb,tb,1,true,t,[],No⟩ t []:=⟨p3.1,(it.mv m21.1).mv p123,fun z hz=>by(cases hz),mv0⟩
 have T:(g0 A J s1 t r 1).xs= []:=rfl;have hcp:(WC.mk wb rb pb cb 1 N kk x).pb=pb:=rfl;have qw:∀{C vb tv K X l1 l2},Own (SS (WC.mk wb rb pb cb 1 N kk x) (g0 A J s1 t r 1) vb tv K X l1 l2) C→C[wb]? =some (.cells (NG (FK A) (FK J) s0 s0 (pA pb) (pA rb)).toArray lD (0,0)):=fun o=>o.get (i:=0) rfl
 have hkk':(WC.mk wb rb pb cb 1 N kk x).kk=kk:=rfl;generalize WC.mk wb rb pb cb 1 N kk x=c at st0 qw hcp hkk';generalize g0 A J s1 t r 1=g at st0 T qw;refine Join.intro (fun t' C=>∃K X e tv B,t'=(K,X)∧e.eb=eb∧e.lv=true∧SSt h c g 30 [] C u.size K X e tv B∧B.length≤30) (fun R hR=>?_) ?_
 ·refine LoopP.ghost (fun(g':Nat×SliceV×SliceV×Ed×Tr×List Sn) (t':SliceV×SliceV×Int) C=>t'=(g'.2.1,g'.2.2.1,(g'.1:Int))∧g'.1≤l.length∧g'.1≤30∧g'.2.2.2.1.eb=eb∧g'.2.2.2.1.lv=true∧SSt h c g g'.1 [] C u.size g'.2.1 g'.2.2.1 g'.2.2.2.1 g'.2.2.2.2.1 g'.2.2.2.2.2∧g'.2.2.2.2.2.length≤g'.1) (fun g'=>l.length-g'.1) (0,s0,s0,⟨eb,tb,1,true,t,[],No⟩,t,[]) ⟨rfl,bp _,bp _,rfl,rfl,st0,au _⟩ ?_
  rintro I ⟨i,K,X,e,tv,B⟩ _ h36 ⟨rfl,hil,hi30,V,hlv,st,hzs⟩ hI;simp only at hil hi30 V hlv st hzs hI⊢;have hsl:=hs.len;have fin:∀C,SSt h c g i [] C u.size K X e tv B→R (K,X) C:=fun C st=>hR _ _ ⟨K,X,e,tv,B,rfl,V,hlv,⟨st.ws.mono hi30,st.it,st.zw,st.mv⟩,by omega⟩
  refine bj (fun hlt=>?_) fun _=>fin _ st
  have hlt:i<l.length:=by omega
  refine Join.intro (fun t' C=>∃H G e' f zs',t'=(H,G)∧i<30∧e'.eb=eb∧e'.lv=true∧SSt h c g (i+1) [] C u.size H G e' f zs'∧zs'.length≤i+1) (fun R2 hR2=>?_) ?_
  ·obtain⟨a,hav,_,hv⟩:=(hs.upd st.mv.1 fun _ h=>h.elim).at (List.getElem?_eq_getElem hlt)
   refine⟨⟨by omega,by omega⟩,a,hav,_,hv 0 _ rfl,_,hv 1 _ rfl,M0 (p:=l[i]) fun h42 b42 k42=>?_⟩
   have z42:=aF b42;refine bj (fun _=>fin _ (st.up0 k42)) fun h30=>?_
   have h30:i<30:=by omega
   generalize l[i]=p at b42;refine⟨_,vc b42 0,_,vc b42 1,E3 ⟨vc b42 1,E3 (fc (c:=iY p) (vs:=iY (um p.1,um p.2)) b42 rfl fun h49 Z u49=>?_)⟩⟩
   have k49:=k42.own u49 (au _);have E:=st.up0 k49;have s49:=k49.size;have z49:=aF Z;have hp1:(um p.1).size≤30∧(um p.2).size≤30:=⟨AN _,AN _⟩;generalize um p.1=p1 at Z hp1;generalize um p.2=p2 at Z hp1;have nb:=st.ws.wo.w0 (au h36.size);have q:=E.ws.wo.ew e (aj.2 rfl);have hln:=q.len;refine Join.intro (fun _ C=>∃e' f,e'.eb=eb∧e'.lv=true∧SSt h c g (i+1) [] C u.size K X e' f B) (fun R3 hR3=>?_) ?_
   ·refine⟨by decide,CondP.intro (fun _=>?_) fun _=>?_⟩
    ·rw[←V]
     refine⟨_,vc Z 0,MA (i:=0) E.ws.wo rfl hlv (by omega) p1 fun h53 tu' S' w53 m53=>?_⟩
     have ws53:=E.ws.ed w53 m53;have c53:h53[u.size]? =some (.cells (gm tv).toArray ax (0,0)):=ws53.own.get (SS.a9 T);have p53:=m53.1.get Z nb;refine⟨_,vc c53 0,_,vc c53 1,_,vc c53 2,_,vc c53 3,_,vc c53 4,_,vc c53 5,_,vc p53 0,?_⟩;refine CU (E.it.mv m53.1) ws53.unl q.up q.fit (by omega) p1 fun h62 f i62 _ k62=>?_
     refine fc (c:=gm tv) (vs:=gm f) (k62.get0 c53) rfl fun h63 b63 u63=>?_
     exact hR3 _ _ ⟨{e with tu:=tu',lu:=oK e.lu p1,S:=S'},f,V,hlv,E.fin T w53 m53 k62 i62 b63 u63⟩
    ·rw[←V]
     refine⟨_,vc Z 0,_,vc Z 1,NF (i:=0) E.ws.wo rfl hlv (by omega) (p1,p2) ⟨by show p1.size≤5030;omega,by show p2.size≤5030;omega⟩ fun h67 tu' S' w67 m67=>?_⟩
     have ws67:=E.ws.ed w67 m67;have c67:h67[u.size]? =some (.cells (gm tv).toArray ax (0,0)):=ws67.own.get (SS.a9 T);have p67:=m67.1.get Z nb;refine⟨_,vc c67 0,_,vc c67 1,_,vc c67 2,_,vc c67 3,_,vc c67 4,_,vc c67 5,_,vc p67 0,_,vc p67 1,?_⟩;refine H4 (E.it.mv m67.1) ws67.unl q.up (by omega) (p1,p2) fun h77 f i77 _ k77=>?_
     refine fc (c:=gm tv) (vs:=gm f) (k77.get0 c67) rfl fun h78 b78 u78=>?_
     exact hR3 _ _ ⟨{e with tu:=tu',lu:=oy e.lu (p1,p2),S:=S'},f,V,hlv,E.fin T w67 m67 k77 i77 b78 u78⟩
   rintro _ h80 ⟨e',f,Y,hlv',st80⟩;refine⟨by decide,by omega,?_⟩
   simp only[Bd];refine CondP.intro (fun _=>?_) fun _=>hR2 _ _ ⟨K,X,e',f,B,rfl,h30,Y,hlv',st80,by omega⟩
   have q80:=st80.ws.wo.ew e' (aj.2 rfl);rw[←Y];refine Mz (i:=0) (j:=e'.ti) (ids2:= []) st80.ws.wo rfl hlv' rfl fun h83 tb' w83 m83 i83=>?_
   have st83:=st80.ed w83 m83 rfl;refine uT (t:=e'.tu) fun h85 b85 k85=>ah.2 ?_
   have P:=st83.up0 k85;have c85:=P.cv T;have hz85:ZOk (c.U (SS c g u.size f K X (B.map (·.1)) (B.map (·.2.1))) [{e' with tb:=tb',ti:=e'.ti,lv:=true,S:=No}]) h85 c.kk c.x (e'.tu,f,e'.lu):=⟨i83.upd0 k85,P.it,q80.up,q80.fit,by have:=q80.len;show e'.lu.length≤60000;omega⟩
   have hl1:(B.map (·.1)).length+1≤1000000∧(B.map (·.2.1)).length+1≤1000000:=by simp only[fS];omega
   have done:∀{C:ad} {H G:SliceV},Ws (SS c g u.size f H G (B.map (·.1)++ [e'.tu]) (B.map (·.2.1)++ [f])) C c.pb c.cb 1 [] c.kk c.x (i+1) [{e' with tb:=tb',ti:=e'.ti,lv:=true,S:=No}]→Mv (c.U (SS c g u.size f K X (B.map (·.1)) (B.map (·.2.1))) [{e' with tb:=tb',ti:=e'.ti,lv:=true,S:=No}]) h85 (c.U (SS c g u.size f H G (B.map (·.1)++ [e'.tu]) (B.map (·.2.1)++ [f])) [{e' with tb:=tb',ti:=e'.ti,lv:=true,S:=No}]) C→R2 (H,G) C:=fun w m=>
    hR2 _ _ ⟨_,_,{e' with tb:=tb',ti:=e'.ti,lv:=true,S:=No},f,B++ [(e'.tu,f,e'.lu)],rfl,h30,Y,rfl,P.push hz85 w m,by simp only[List.length_append,List.length_singleton];omega⟩
   refine⟨_,vc b85 0,_,vc b85 1,_,vc b85 2,_,vc b85 3,_,vc b85 4,_,vc b85 5,_,vc c85 0,_,vc c85 1,_,vc c85 2,_,vc c85 3,_,vc c85 4,_,vc c85 5,?_,?_⟩
   ·refine aX fun h98 b98 k98=>?_
    have z98:=aF b98;have st98:=P.up0 k98;have c98:=st98.cv T;refine⟨⟨vc c98 0,vc c98 1,vc c98 2,vc c98 3,vc c98 4,vc c98 5⟩,?_,?_⟩
    ·refine SSt.app1 (a:=e'.tu) st98.ws T rfl b98 hl1.1 fun H h101 w101 k101 m101=>?_
     have L:h101[u.size]? =some (.cells (gm f).toArray ax (0,0)):=w101.own.get (SS.a9 T);refine⟨⟨vc L 0,vc L 1,vc L 2,vc L 3,vc L 4,vc L 5⟩,aX fun h102 b102 k102=>?_⟩
     refine SSt.app2 (a:=f) (w101.up0 k102) T rfl b102 hl1.2 fun G h105 w105 m105=>?_
     exact done w105 ((((Mv.of0 k98).tr m101).up0 k102).tr m105)
    ·refine aX fun h106 b106 k106=>?_
     refine SSt.app1 (a:=e'.tu) (st98.ws.up0 k106) T rfl (k106.get0 b98) hl1.1 fun H h109 w109 k109 m109=>?_
     refine SSt.app2 (a:=f) w109 T rfl (k109.get b106 fun hb=>?_) hl1.2 fun G h112 w112 m112=>?_
     ·have:=((st98.ws.own.get (SS.a10 T):OwnS gm 6 ax (sb K) h98 K (B.map (·.1))).sub _ hb).2;omega
     ·exact done w112 (((Mv.of0 (k98.tr k106)).tr m109).tr m112)
   ·refine aX fun h113 b113 k113=>?_
    have z113:=aF b113;have F:=k113.get0 b85;refine⟨⟨vc F 0,vc F 1,vc F 2,vc F 3,vc F 4,vc F 5⟩,aX fun h114 b114 k114=>?_⟩
    refine SSt.app1 (a:=e'.tu) (P.ws.up0 (k113.tr k114)) T rfl b114 hl1.1 fun H h117 w117 k117 m117=>?_
    refine SSt.app2 (a:=f) w117 T rfl (k117.get (k114.get0 b113) fun hb=>?_) hl1.2 fun G h120 w120 m120=>?_
    ·have:=((P.ws.own.get (SS.a10 T):OwnS gm 6 ax (sb K) h85 K (B.map (·.1))).sub _ hb).2;omega
    ·exact done w120 (((Mv.of0 (k113.tr k114)).tr m117).tr m120)
  ·rintro _ h122 ⟨H,G,e',f,zs',rfl,h30,Y,hlv',st',hz'⟩
   rw[show IntKind.wrap .i64 ((i:Int)+1)=((i+1:Nat):Int) by rw[nA (by omega)];omega]
   exact hI (i+1,H,G,e',f,zs') _ _ ⟨rfl,by omega,by omega,Y,hlv',st',hz'⟩ (by show l.length-(i+1)<l.length-i;omega)
 rintro _ h124 ⟨K,X,e,tv,B,rfl,V,hlv,st,hzs⟩;have qe:=st.ws.wo.ew e (aj.2 rfl);rw[←V];refine Js (i:=0) st.ws.wo rfl hlv fun h126 w126 m126 i126=>uT (t:=e.tu) fun h128 b128 k128=>?_
 have st128:=(st.ed w126 m126 rfl).up0 k128;have o10:OwnS gm 6 ax (sb K) h128 K (B.map (·.1)):=st128.ws.own.get (SS.a10 T)
 have o11:OwnS gm 6 ax (sb X) h128 X (B.map (·.2.1)):=st128.ws.own.get (SS.a11 T)
 have l10:(K,X).1.len=B.length:=by have:=o10.len;simp only[fS]at this;exact this
 have l11:(K,X).2.len=B.length:=by have:=o11.len;simp only[fS]at this;exact this
 refine LoopP.ghost (fun(i:Nat) (t':Int) C=>t'=(i:Int)∧i≤B.length∧Upd No h128 C) (fun i=>B.length-i) 0 ⟨rfl,bp _,Upd.refl _ _⟩ ?_
 rintro I i _ h131 ⟨rfl,hil,M⟩ hI;have v:=st128.up0 M;refine bj (fun hlt=>?_) fun hge=>?_
 ·have hlt:i<B.length:=by omega
  refine Join.plain ?_;obtain⟨a,hav,_,hv⟩:=((o10.upd M fun _ _ h=>h).sl (W:=No) fun _ _ _ h=>h).at (i:=i) (x:=B[i].1) (by simp[hlt])
  obtain⟨a',hav',_,hv'⟩:=((o11.upd M fun _ _ h=>h).sl (W:=No) fun _ _ _ h=>h).at (i:=i) (x:=B[i].2.1) (by simp[hlt])
  have hz:=v.zw B[i] (List.getElem_mem hlt);generalize B[i]=z at hv hv' hz;refine⟨⟨by omega,by omega⟩,a,hav,_,hv 0 _ rfl,_,hv 1 _ rfl,_,hv 2 _ rfl,_,hv 3 _ rfl,_,hv 4 _ rfl,_,hv 5 _ rfl,⟨by omega,by omega⟩,a',hav',_,hv' 0 _ rfl,_,hv' 1 _ rfl,_,hv' 2 _ rfl,_,hv' 3 _ rfl,_,hv' 4 _ rfl,_,hv' 5 _ rfl,?_⟩
  refine Ee hz.1 hz.2.1 hz.2.2.1 hz.2.2.2.1 hz.2.2.2.2 hz.2.2.1 hz.2.2.2.1 hz.2.2.2.2 fun h148 D=>?_
  rw[Cp hz.1 hz.2.1,show decide (z.2.2=z.2.2)=true by simp]
  refine ah.2 ⟨⟨by omega,by omega⟩,a,hav,_,D.cell0 (hv 0 _ rfl),_,D.cell0 (hv 1 _ rfl),_,D.cell0 (hv 2 _ rfl),_,D.cell0 (hv 3 _ rfl),_,D.cell0 (hv 4 _ rfl),_,D.cell0 (hv 5 _ rfl),?_⟩
  refine H5 (hz.1.upd0 D) (tab.upd (v.mv.up0 D).1 id) hz.2.2.1 hz.2.2.2.2 fun h157 k157=>ah.2 ?_
  rw[show IntKind.wrap .i64 ((i:Int)+1)=((i+1:Nat):Int) by rw[nA (by omega)];omega]
  exact hI (i+1) _ _ ⟨rfl,by omega,M.tr (D.tr k157)⟩ (by omega)
 ·have Q:=M.get0 b128
  have O:=v.cv T;refine az.2 ⟨_,vc Q 0,_,vc Q 1,_,vc Q 2,_,vc Q 3,_,vc Q 4,_,vc Q 5,_,vc O 0,_,vc O 1,_,vc O 2,_,vc O 3,_,vc O 4,_,vc O 5,?_⟩;have it:=(i126.upd0 k128).upd0 M;have hlen:=qe.len;refine Ee it v.it qe.up qe.fit (by omega) qe.up qe.fit (by show e.lu.length≤60000;omega) fun h173 k173=>?_
  rw[Cp it v.it,show decide (e.lu=e.lu)=true by simp]
  refine az.2 ⟨_,rfl,_,vc (qw (v.up0 k173).ws.own) 4,?_⟩;rw[←hcp];refine F8 (v.up0 k173).ws.wo.pl ⟨rfl,(v.up0 k173).mv.1⟩
end Go.Proofs
