/- A part of the proof that the named laws of this program answer true, whatever the input. -/
import Derived.Test.YtajpljopgikpgaaGreatDoorPart11
open Int renaming tmod→aZ,tmod_eq_emod_of_nonneg→eX
open List renaming mem_of_getElem?→az,length_set→dJ,length_map→c7,getElem?_eq_getElem→ag,getElem_mem→aP,getElem?_eq_some_iff→aF,length_append→af,length_singleton→aK,getElem?_append_left→cq,getElem?_set_ne→eB,getElem?_set_self→dR
open List.Pairwise renaming nil→gn
open Nat renaming le_refl→ao,le_succ→fY,zero_le→bo
namespace Go.Proofs
open Go Go.Lift
section
variable {c:WC} {n:Nat} {h0 h h':ad} {g:WG} {zs:List Vr} {es:List Ed}
def Wm(c:WC)(n:Nat)(a:ad)(es:List Ed)(frz:Prop)(b:ad):Prop:=∃g' zs' es',es.length≤es'.length∧(¬frz→(∀e∈es,e.lv=true)→∀e∈es',e.lv=true)∧Wd c n a b g' zs' es'
theorem Ez{es:List Ed}{k:Nat}{e':Ed}(h:e'.lv=true)(a:∀e∈es,e.lv=true):∀e∈es.set k e',e.lv=true:=fun e b=>(Dy b).elim (fun c=>c▸h) fun⟨_,_,d⟩=>a e (az d)
section
variable {k:Nat} {e:Ed} {y:Xd} {frz:Prop} {K:Bool→ad→Prop}
theorem Pw(w:Wd c n h0 h g zs es)(B:n+1≤100)(m:es[k]? =some e) (o:g.xs[k]? =some y) {z:Nat} {p:Pr} (C:h[z]? =some (.cells (ge p).toArray aB (0,0))) (O:¬c.U (SW c g) es z) (G:∀h',Wm c (n+1) h0 es frz h'→K true h'):
  HC PG gO [.pointer (pA e.eb),.string p.1] [.c (.int .i64)] (fun(b:Int) a=>aR a (adr ⟨z,0,none⟩ 0)=some (.string p.1)∧HC PG ve [.pointer (pA y.b),.string p.1] [.c (.int .i64)] (fun(j:Int) i=>K (b==j) i) a) h:=by
 have v:=az m;have q:=w.ws.wo.ew e v;have x:=w.xw k e y m o;have D:=q.len;cases hl:e.lv with
 |true=>
  refine Ug w.ws.wo m hl (by omega) p.1 fun E d F I u=>⟨vc (u.1.get C O) 0,?_⟩
  have A:=w.ws.ed I u;refine El A o (x.2.1.mv u.1) q.up q.fit (by omega) p.1 (fun f=>by rw[x.1,hl]at f;cases f) fun _ N L M P H=>?_
  rw[beq_self_eq_true];exact G N ⟨_,zs,_,by rw[dJ];exact ao _,fun _=>Ez (e':={e with tu:=d,lu:=oy e.lu p.1,S:=F}) hl,w.ru B m o (e':={e with tu:=d,lu:=oy e.lu p.1,S:=F}) M (u.1.tr P) rfl rfl rfl H⟩
 |false=>
  refine Hp q.ed (hl▸q.tk) p.1 fun E s=>⟨vc (s.get0 C) 0,?_⟩
  refine El (w.up0 s).ws o (x.2.1.upd0 s) q.up q.fit (by omega) p.1 (fun _=>?_) fun f=>by rw[x.1,hl]at f;cases f
  exact G E ⟨g,zs,es,ao _,fun _ J=>J,(w.up0 s).mono (fY _) B⟩
theorem RD(w:Wd c n h0 h g zs es)(C:n+1≤100)(o:es[k]? =some e) (s:g.xs[k]? =some y) {m:Nat} {p:Pr} (D:h[m]? =some (.cells (ge p).toArray aB (0,0))) (Q:¬c.U (SW c g) es m) (H:p.1.size≤5030∧p.2.size≤5030) (G:∀h',Wm c (n+1) h0 es frz h'→K true h'):
  HC PG fK [.pointer (pA e.eb),.agg #[.string p.1,.string p.2]] [.c (.int .i64)] (fun(i:Int) a=>(aR a (adr ⟨m,0,none⟩ 0)=some (.string p.1)∧aR a (adr ⟨m,0,none⟩ 1)=some (.string p.2))∧HC PG xD [.pointer (pA y.b),.agg #[.string p.1,.string p.2]] [.c (.int .i64)] (fun(d:Int) j=>K (i==d) j) a) h:=by
 have z:=az o;have q:=w.ws.wo.ew e z;have x:=w.xw k e y o s;have E:=q.len;cases hl:e.lv with
 |true=>
  refine VB w.ws.wo o hl (by omega) p H fun N b F J v=>?_
  have b2:=v.1.get D Q;have A:=w.ws.ed J v;refine⟨⟨vc b2 0,vc b2 1⟩,GZ A s (x.2.1.mv v.1) q.up (by omega) p (fun f=>by rw[x.1,hl]at f;cases f) fun _ B M O R I=>?_⟩
  rw[beq_self_eq_true];exact G B ⟨_,zs,_,by rw[dJ];exact ao _,fun _=>Ez (e':={e with tu:=b,lu:=lQ e.lu p,S:=F}) hl,w.ru C o s (e':={e with tu:=b,lu:=lQ e.lu p,S:=F}) O (v.1.tr R) rfl rfl rfl I⟩
 |false=>
  refine ER q.ed (hl▸q.tk) p fun N u=>?_
  have b2:=u.get0 D;refine⟨⟨vc b2 0,vc b2 1⟩,GZ (w.up0 u).ws s (x.2.1.upd0 u) q.up (by omega) p (fun _ B P=>?_) fun f=>by rw[x.1,hl]at f;cases f⟩
  exact G B ⟨g,zs,es,ao _,fun _ L=>L,(w.up0 (u.tr P)).mono (fY _) C⟩
end
end
end Go.Proofs
namespace Go.Proofs
open Go Go.Lift
section
variable {c:WC} {n:Nat} {h0 h h':ad} {g:WG} {zs:List Vr} {es:List Ed}
theorem Wd.left(w:Wd c n h0 h g zs es)(d:zs.length≤n){z:Vr}(hz:VrW (c.U (SW c g) es) h c.kk c.x n z){frz:Prop}{es0:List Ed}(f:es0.length≤es.length)(a:¬frz→(∀e∈es0,e.lv=true)→∀e∈es,e.lv=true){K:Unit→ad→Prop}(b:∀h',Wm c n h0 es0 frz h'→K () h'):HC PG iJ [.pointer (pA c.wb),GK z.1,S9 z.2.1] [] K h:=by
 have sz:=w.sz;refine Ty w.ws z.1 z.2.1 (by rw[w.el,w.er,c7,c7];omega) fun h' sl sm r m=>?_
 exact b h' ⟨_,_,es,f,a,w.keep d hz r m⟩
set_option maxRecDepth 100000 in
set_option maxHeartbeats 8000000 in
theorem Uh(w:Wd c n h0 h g zs es)(hn:n+1≤100)(a:Sq)(ha:Lo a){K:Bool→ad→Prop}(hk:∀h',Wm c (n+1) h0 es (aZ a.1 9=5) h'→K true h'):HC PG rG [.pointer (pA c.wb),Wf a] [.c .bool] K h:=by
 refine Fh _ a ?_;unfold xi bJ dH bh jt ah bS lX aI bw aG aM eK nv Wi rk pj xn GH qK wm OA my jS dK DH C9 DT zE f9 jp Wl yA;have sz:=w.sz;obtain⟨l1,l2,l3,l4,l5,l6,l7⟩:=w.rows;have h300:aZ (IntKind.wrap .i64 a.2.2.2.2.2) 300≤5000:=by
  have:=ha.2.2.2;rw[oD (by omega),eX (by omega)];omega
 refine aJ fun h1 b1 k1=>?_
 have w1:=w.up0 k1;have z1:=aH b1;have s1:=k1.size;have c30:=ML a.2.2.2.2.1;refine Join.intro (fun t' h'=>∃b p,t'=(⟨b,0,none⟩:Addr)∧h'[b]? =some (.cells (ge p).toArray aB (0,0))∧(p.1.size≤5030∧p.2.size≤5030)∧h1.size≤b∧Upd No h1 h') (fun R hR=>?_) ?_
 ·refine⟨_,fI b1 3 0,_,vc b1 5,by decide,_,fI b1 3 1,?_,?_⟩
  ·refine xz h300 fun q1 h107 hq1 _ k107=>?_
   have d:=k107.get0 b1;have s107:=k107.size;refine⟨fI d 3 1,vc d 5,?_,?_⟩
   ·refine uk ⟨vc d 5,aJ fun h110 b110 k110=>⟨vc (k110.get0 d) 5,cS (c:=ge FT) (vs:=ge (q1,po a.2.2.2.2.1)) b110 rfl fun h111 b111 u111=>?_⟩⟩
    exact hR _ _ ⟨h107.size,(q1,po a.2.2.2.2.1),rfl,b111,⟨hq1,by show(po a.2.2.2.2.1).size≤5030;omega⟩,by omega,(k107.tr k110).own u111 (by omega)⟩
   ·refine aJ fun h112 b112 k112=>?_
    have d:=k112.get0 d;refine⟨fI d 3 1,vc d 5,uk ⟨vc d 5,cS (c:=ge FT) (vs:=ge (q1,po a.2.2.2.2.1)) b112 rfl fun h113 b113 u113=>?_⟩⟩
    exact hR _ _ ⟨h107.size,(q1,po a.2.2.2.2.1),rfl,b113,⟨hq1,by show(po a.2.2.2.2.1).size≤5030;omega⟩,by omega,(k107.tr k112).own u113 (by omega)⟩
  ·refine aJ fun h116 b116 k116=>?_
   have d:=k116.get0 b1;refine⟨fI d 3 1,vc d 5,fI d 3 0,xz h300 fun q1 h118 hq1 _ k118=>?_⟩
   have d:=k118.get0 d;refine⟨fI d 3 1,vc d 5,uk ⟨vc d 5,cS (c:=ge FT) (vs:=ge (q1,po a.2.2.2.2.1)) (k118.get0 b116) rfl fun h119 b119 u119=>?_⟩⟩
   exact hR _ _ ⟨h1.size,(q1,po a.2.2.2.2.1),rfl,b119,⟨hq1,by show(po a.2.2.2.2.1).size≤5030;omega⟩,ao _,(k116.tr k118).own u119 (ao _)⟩
 rintro _ hp ⟨bp,p,rfl,B,hp1,hbp,kp⟩;have E:=w1.up0 kp;have F:=kp.get0 b1;have sp:=kp.size;have zbp:=aH B;have cw:=E.ws.cw;have nb:¬c.U (SW c g) es bp:=w.ws.wo.w0 (by omega);refine Join.intro (fun t' h'=>h'=hp∧(t'=false→aZ a.1 9=7∨0<es.length)) (fun R hR=>?_) ?_
 ·refine⟨_,vc F 0,by decide,CondP.intro (fun _=>hR _ _ ⟨rfl,fun h=>by cases h⟩) fun _=>⟨_,rfl,g.se,vc cw 2,CondP.intro (fun _=>⟨_,vc F 0,by decide,hR _ _ ⟨rfl,fun h=>.inl (by simpa using h)⟩⟩) fun hne=>hR _ _ ⟨rfl,fun _=>.inr ?_⟩⟩⟩
  have hne:¬(g.se.len:Int)=0:=by simpa using hne
  omega
 rintro t129 h130 ⟨e130,h129⟩;rw[e130];clear e130;refine CondP.intro (fun _=>?_) fun ht=>?_
 ·refine⟨_,vc F 0,_,vc F 1,_,vc F 2,_,vc F 3,_,vc F 4,_,vc F 5,GG E hn a ha fun h' g' es' hl _ hlv wd=>?_⟩
  exact hk h' ⟨g',zs,es',hl,fun _ hall e he=>(hlv e he).elim (hall e) id,wd⟩
 refine⟨_,vc F 0,by decide,CondP.intro (fun h7=>?_) fun h7=>?_⟩
 ·
  obtain⟨k,ek,hkl⟩:=Qn ha.2.2.1.1 (by have:=ha.2.2.1.2;omega) sz.1;refine⟨_,vc F 2,_,rfl,g.sl,vc cw 0,?_⟩;rw[l1,ek];have hz:zs[k]? =some zs[k]:=ag hkl;have hzm:=aP hkl;generalize zs[k]=z at hz hzm;have vz:=E.zw z hzm;have hlz:=vz.2.2.2.2;have wl:=Jp (p:=p) vz.2.2.1 vz.2.2.2.1 hlz hp1;refine⟨by omega,?_⟩;refine Join.intro (fun t' h'=>∃b1 t1,t'=((⟨b1,0,none⟩:Addr),Bl p)∧hp.size≤b1∧h'[b1]? =some (.cells (jT t1).toArray aS (0,0))∧TreeIs (c.U (SW c g) es) h' c.kk c.x t1 (lQ z.2.2 p)∧Upd No hp h') (fun R hR=>?_) ?_
  ·obtain⟨at_,hat,u⟩:=E.t hz
   refine⟨_,rfl,g.sl,vc cw 0,⟨by omega,by omega⟩,at_,hat,_,u 0 _ rfl,_,u 1 _ rfl,_,u 2 _ rfl,_,u 3 _ rfl,_,u 4 _ rfl,_,u 5 _ rfl,_,vc B 0,_,vc B 1,?_,?_⟩
   ·refine GL vz.1 E.ws.unl vz.2.2.1 (by omega) p fun h276 t1 i1 _ D=>⟨vc (E.up0 D).ws.cw 0,aJ fun h277 b277 Y=>⟨vc (E.up0 (D.tr Y)).ws.cw 0,cS (c:=jT vI) (vs:=jT t1) b277 rfl fun h278 b278 u278=>?_⟩⟩
    have X:=Y.own u278 (ao _);exact hR _ _ ⟨h276.size,t1,rfl,D.size,b278,i1.upd0 X,D.tr X⟩
   ·refine aJ fun h279 b279 f=>?_
    have Z:=f.get0 B;have z279:=aH b279;refine⟨⟨vc Z 0,vc Z 1⟩,⟨f.cell0 (u 0 _ rfl),f.cell0 (u 1 _ rfl),f.cell0 (u 2 _ rfl),f.cell0 (u 3 _ rfl),f.cell0 (u 4 _ rfl),f.cell0 (u 5 _ rfl)⟩,vc (E.up0 f).ws.cw 0,?_⟩;refine GL (W:=fun y=>c.U (SW c g) es y∨y=hp.size) ((vz.1.less fun y m=>m.imp id fun h=>by omega).upd0 f) (fun y m=>m.elim ((E.up0 f).ws.unl y) fun h=>by omega) vz.2.2.1 (by omega) p fun h281 t1 i1 _ N=>⟨vc (E.up0 (f.tr N)).ws.cw 0,cS (c:=jT vI) (vs:=jT t1) (N.get0 b279) rfl fun h282 b282 V=>?_⟩
    exact hR _ _ ⟨hp.size,t1,rfl,ao _,b282,(i1.updM V fun y m=>.inl (.inr m)).less fun y m=>.inl (.inl m),(f.tr N).own V (ao _)⟩
  rintro _ h284 ⟨bt,t1,rfl,hbt,bt1,it1,k284⟩;have C:=E.up0 k284;have cw284:=C.ws.cw;have p284:=k284.get0 B;have s284:=k284.size;have zbt:=aH bt1;refine Join.intro (fun t' h'=>∃b2 r1,t'=((⟨b2,0,none⟩:Addr),Bl p)∧h284.size≤b2∧h'[b2]? =some (.cells (qt r1).toArray bX (0,0))∧RefIs (c.U (SW c g) es) h' c.kk c.x r1 (lQ z.2.2 p)∧Upd No h284 h') (fun R hR=>?_) ?_
  ·obtain⟨ar,har,A⟩:=C.r hz
   have jz:=(C.zw z hzm).2.1;refine⟨_,rfl,g.sm,vc cw284 1,⟨by omega,by omega⟩,ar,har,_,A 0 _ rfl,_,A 1 _ rfl,_,A 2 _ rfl,_,A 3 _ rfl,z.2.1.2.2.2.2,A 4 _ rfl,_,vc p284 0,_,vc p284 1,?_,?_⟩
   ·refine xu jz C.ws.unl vz.2.2.1 (by omega) p fun h276 r1 i1 D=>⟨vc (C.up0 D).ws.cw 1,aJ fun h277 b277 Y=>⟨vc (C.up0 (D.tr Y)).ws.cw 1,cS (c:=qt P6) (vs:=qt r1) b277 rfl fun h278 b278 u278=>?_⟩⟩
    have X:=Y.own u278 (ao _);exact hR _ _ ⟨h276.size,r1,rfl,D.size,b278,i1.upd0 X,D.tr X⟩
   ·refine aJ fun h279 b279 f=>?_
    have Z:=f.get0 p284;have z279:=aH b279;refine⟨⟨vc Z 0,vc Z 1⟩,⟨f.cell0 (A 0 _ rfl),f.cell0 (A 1 _ rfl),f.cell0 (A 2 _ rfl),f.cell0 (A 3 _ rfl),f.cell0 (A 4 _ rfl)⟩,vc (C.up0 f).ws.cw 1,?_⟩;refine xu (W:=fun y=>c.U (SW c g) es y∨y=h284.size) ((jz.less fun y m=>m.imp id fun h=>by omega).upd0 f) (fun y m=>m.elim ((C.up0 f).ws.unl y) fun h=>by omega) vz.2.2.1 (by omega) p fun h281 r1 i1 N=>⟨vc (C.up0 (f.tr N)).ws.cw 1,cS (c:=qt P6) (vs:=qt r1) (N.get0 b279) rfl fun h282 b282 V=>?_⟩
    exact hR _ _ ⟨h284.size,r1,rfl,ao _,b282,(i1.updM V fun y m=>.inl (.inr m)).less fun y m=>.inl (.inl m),(f.tr N).own V (ao _)⟩
  rintro _ h352 ⟨br,r1,rfl,hbr,br1,jr1,P⟩;have G:=k284.tr P;have w352:=E.up0 G;have cw352:=w352.ws.cw;have s352:=P.size;have zbr:=aH br1;have bt352:=P.get0 bt1;have it352:=it1.upd0 P;refine Join.intro (fun t' h'=>∃ev t2 r2 l2,t'=((ev:Int),(ev:Int))∧h'[bt]? =some (.cells (jT t2).toArray aS (0,0))∧h'[br]? =some (.cells (qt r2).toArray bX (0,0))∧VrW (c.U (SW c g) es) h' c.kk c.x (n+1) (t2,r2,l2)∧Upd No hp h') (fun R hR=>?_) ?_
  ·refine⟨_,vc ((kp.tr G).get0 b1) 5,by decide,CondP.intro (fun _=>?_) fun _=>hR _ _ ⟨Bl p,t1,r1,lQ z.2.2 p,rfl,bt352,br1,⟨it352,jr1,wl.1,wl.2.1,wl.2.2⟩,G⟩⟩
   obtain⟨at_,hat,u⟩:=w352.t hz;have p352:=P.get0 p284;have gl:=Kq (k:=p.1) vz.2.2.1 vz.2.2.2.1 hlz;have vz352:=w352.zw z hzm;have iL:TreeIs (fun y=>c.U (SW c g) es y∨(hp.size≤y∧y<h352.size)) h352 c.kk c.x z.1 z.2.2:=(vz.1.less fun y m=>m.imp id And.left).upd0 G
   refine⟨_,rfl,g.sl,vc cw352 0,⟨by omega,by omega⟩,at_,hat,_,u 0 _ rfl,_,u 1 _ rfl,_,u 2 _ rfl,_,u 3 _ rfl,_,u 4 _ rfl,_,u 5 _ rfl,_,vc p352 0,?_⟩
   refine HZ iL (fun y m=>m.elim (w352.ws.unl y) And.right) vz.2.2.1 vz.2.2.2.1 (by omega) p.1 fun h366 t2 i2 _ k366=>⟨vc (w352.up0 k366).ws.cw 0,cS (c:=jT t1) (vs:=jT t2) (k366.get0 bt352) rfl fun h367 b367 u367=>?_⟩
   have Q:Upd No hp h367:=(G.tr k366).own u367 hbt;have w367:=E.up0 Q;have i367:=i2.updM u367 fun y m=>.inl (.inr (by have m:y=bt:=m;have:=P.size;omega))
   obtain⟨ar,har,A⟩:=w367.r hz;have p367:=Q.get0 B;have br367:=u367.oth (k366.get0 br1) (by omega);have s366:=k366.size;have s367:=u367.size;have jL:RefIs (fun y=>c.U (SW c g) es y∨(hp.size≤y∧y<h352.size)) h367 c.kk c.x z.2.1 z.2.2:=(vz.2.1.less fun y m=>m.imp id And.left).upd0 Q
   refine⟨_,rfl,g.sm,vc w367.ws.cw 1,⟨by omega,by omega⟩,ar,har,_,A 0 _ rfl,_,A 1 _ rfl,_,A 2 _ rfl,_,A 3 _ rfl,z.2.1.2.2.2.2,A 4 _ rfl,_,vc p367 0,?_⟩
   refine zR jL (fun y m=>m.elim (w367.ws.unl y) fun h=>by omega) vz.2.2.1 vz.2.2.2.1 (by omega) p.1 fun h378 r2 j2 k378=>⟨vc (w367.up0 k378).ws.cw 1,cS (c:=qt r1) (vs:=qt r2) (k378.get0 br367) rfl fun h379 b379 u379=>?_⟩
   have hm:∀y,y=br→(c.U (SW c g) es y∨(hp.size≤y∧y<h352.size))∨h378.size≤y:=fun y m=>.inl (.inr (by omega))
   refine hR _ _ ⟨BU z.2.2 p.1,t2,r2,oy z.2.2 p.1,rfl,u379.oth (k378.get0 b367) (by omega),b379,⟨((i367.upd0 k378).updM u379 hm).less fun y m=>.inl (.inl m),(j2.updM u379 hm).less fun y m=>.inl (.inl m),gl.1,gl.2.1,gl.2.2⟩,(Q.tr k378).own u379 (by omega)⟩
  rintro _ h381 ⟨ev,t2,r2,l2',rfl,bt2,br2,v2,k381⟩;have w381:=(E.up0 k381).mono (fY n) hn;refine⟨_,vc bt2 0,_,vc bt2 1,_,vc bt2 2,_,vc bt2 3,_,vc bt2 4,_,vc bt2 5,_,vc br2 0,_,vc br2 1,_,vc br2 2,_,vc br2 3,r2.2.2.2.2,vc br2 4,?_⟩;refine w381.left (frz:=aZ a.1 9=5) (z:=(t2,r2,l2')) (by omega) v2 (ao _) (fun _ h=>h) fun h' hd=>?_
  rw[beq_self_eq_true];exact hk h' hd
 ·
  have hes:0<es.length:=(h129 ht).elim (fun h=>by rw[h]at h7;cases h7) id
  obtain⟨k,ek,hkl⟩:=Qn ha.2.1.1 (by have:=ha.2.1.2;omega) hes;refine⟨_,vc F 1,_,rfl,g.se,vc cw 2,?_⟩;rw[l3,ek];have he:es[k]? =some es[k]:=ag hkl;have hem:=aP hkl;have hxl:k<g.xs.length:=by rw[w.lx];exact hkl
  have m:g.xs[k]? =some g.xs[k]:=ag hxl;generalize es[k]=e at he hem;generalize g.xs[k]=y at m;obtain⟨ae,hae,hve⟩:=E.e he;obtain⟨ax,hax,hvx⟩:=E.x m;have q:=E.ws.wo.ew e hem;have x:=E.xw k e y he m;have cx:=E.ws.xc m;have hlen:=q.len;refine⟨by omega,_,rfl,g.se,vc cw 2,⟨by omega,by omega⟩,ae,hae,_,hve,_,rfl,g.sx,vc cw 3,⟨by omega,by omega⟩,ax,hax,_,hvx,_,vc F 0,by decide,?_⟩
  refine CondP.intro (fun _=>?_) fun _=>CondP.intro (fun _=>?_) fun _=>CondP.intro (fun h5=>?_) fun _=>CondP.intro (fun _=>?_) fun _=>?_
  ·exact⟨_,vc B 0,_,vc B 0,Pw E hn he m B nb hk⟩
  ·
   refine⟨_,rfl,_,fI cx 0 0,_,fI cx 0 1,_,fI cx 0 2,_,fI cx 0 3,y.ru.2.2.2.2,fI cx 0 4,NX (r:=y.ru) fun h420 b420 k420=>?_⟩
   have L:=E.up0 k420;have z420:=aH b420;cases hl:e.lv with
   |false=>
    refine Ho (q.ed.upd k420 id) (hl▸q.tk.upd k420 id) fun h422 k422=>pB (t:=vI) fun h424 b424 v=>?_
    have I:=L.up0 (k422.tr v);refine⟨_,rfl,_,vc I.ws.cw 5,LX I.ws m (by rw[x.1,hl];rfl) (Join.plain (aj.2 ?_))⟩;exact hk h424 ⟨g,zs,es,ao _,fun _ h=>h,I.mono (fY _) hn⟩
   |true=>
    obtain⟨j,ids2,hj⟩:∃j ids2,g.ids++ [e.ti]=j::ids2:=by
     cases hi:g.ids with
     |nil=>exact⟨_,_,rfl⟩
     |cons a b=>exact⟨_,_,rfl⟩
    refine Uf L.ws.wo he hl hj fun h422 tb' w422 J i422=>pB (t:=e.tu) fun h424 b424 v=>?_
    have M:=(L.ws.ed w422 J).up0 v;have hids:g.ids.length≤4:=by have:=w.ws.wo.rm;omega
    have hlv:g.lv[y.k]? =some true:=by rw[x.2.2.2,hl]
    have hlk:y.k<g.lv.length:=(aF.1 hlv).1;refine⟨_,rfl,_,vc M.cw 5,LW M m (by rw[x.1,hl];rfl) x.2.2.1 hlv hj (by omega) fun h428 s1' s2' s3' r428 O=>Join.plain (ay.2 ?_)⟩
    have o:=O.get b424 ((L.ws.ed w422 J).wo.w0 (ao _));have mm:=(J.1.up0 v).tr O;have T:=mm.get b420 (E.ws.wo.w0 (ao _));have kl:∀{i:Nat} {b:Xd},g.xs[i]? =some b→b.k<g.is.length:=fun{i b} hb=>by
     have hli:=(aF.1 hb).1;rw[w.lx]at hli;exact(aF.1 (w.xw i es[i] b (ag hli) hb).2.2.1).1
    have wd:=L.set hn he m (e':={e with tb:=tb',ti:=j,lv:=true,S:=No}) (y':={y with k:=g.is.length}) (s1:=s1') (s2:=s2') (s3:=s3') (r428.mono (fY _)) mm rfl rfl ⟨by show y.fz=_;rw[x.1,hl],(L.xw k e y he m).2.1.mv mm,by show(g.is++ [j])[g.is.length]? =_;simp,by show(g.lv.set y.k false++ [true])[g.is.length]? =_;rw[←sz.2.2.2.2.1];simp⟩ ⟨by rw[af,aK];omega,by rw[af,af,dJ,aK,aK];omega⟩ (fun i b hik hb=>by
     have h1:=kl hb
     have h2:=w.xk i k b y hb m hik
     refine⟨by rw[cq h1],?_⟩
     rw[cq (by rw[dJ];omega),eB (Ne.symm h2)]) (.inr (ao _))
    refine⟨_,vc o 0,_,vc o 1,_,vc o 2,_,vc o 3,_,vc o 4,_,vc o 5,_,vc T 0,_,vc T 1,_,vc T 2,_,vc T 3,y.ru.2.2.2.2,vc T 4,?_⟩;refine wd.left (frz:=aZ a.1 9=5) (es0:=es) (z:=(e.tu,y.ru,e.lu)) (by omega) ⟨(i422.upd0 v).mv O,(L.xw k e y he m).2.1.mv mm,q.up,q.fit,by show e.lu.length≤n+1;omega⟩ (by rw[dJ];exact ao _) (fun _=>Ez (e':={e with tb:=tb',ti:=j,lv:=true,S:=No}) rfl) fun h' hd=>?_
    exact hk h' hd
  ·
   have h5:aZ a.1 9=5:=by simpa using h5
   cases hl:e.lv with
   |false=>
    refine wX q.ed (hl▸q.tk) fun h422 k422=>pB (t:=vI) fun h424 b424 v=>?_
    have I:=E.up0 (k422.tr v);refine⟨_,rfl,_,vc I.ws.cw 5,Ib I.ws m (by rw[x.1,hl];rfl) (Join.plain (aj.2 ?_))⟩;exact hk h424 ⟨g,zs,es,ao _,fun _ h=>h,I.mono (fY _) hn⟩
   |true=>
    refine Jo E.ws.wo he hl fun h422 w422 J i422=>pB (t:=e.tu) fun h424 b424 v=>?_
    have M:=(E.ws.ed w422 J).up0 v;have hids:g.ids.length≤4:=by have:=w.ws.wo.rm;omega
    have hlv:g.lv[y.k]? =some true:=by rw[x.2.2.2,hl]
    have hlk:y.k<g.lv.length:=(aF.1 hlv).1;refine⟨_,rfl,_,vc M.cw 5,Ic M m (by rw[x.1,hl];rfl) x.2.2.1 hlv (by omega) fun h428 s1' r428 O=>Join.plain (ay.2 ?_)⟩
    have o:=O.get b424 ((E.ws.ed w422 J).wo.w0 (ao _));have mm:=(J.1.up0 v).tr O;have wd:=E.set hn he m (e':={e with lv:=false,S:=No}) (y':={y with fz:=true}) (s1:=s1') (s2:=g.s2) (s3:=g.s3) (r428.mono (fY _)) mm rfl rfl ⟨rfl,x.2.1.mv mm,x.2.2.1,by show(g.lv.set y.k false)[y.k]? =_;rw[dR hlk]⟩ ⟨by omega,by rw[dJ];omega⟩ (fun i b hik hb=>⟨rfl,by rw[eB (Ne.symm (w.xk i k b y hb m hik))]⟩) (.inl rfl)
    have H:=wd.ws.xc (i:=k) (y:={y with fz:=true}) (by show(g.xs.set k _)[k]? =_;rw[dR hxl]);refine⟨_,vc o 0,_,vc o 1,_,vc o 2,_,vc o 3,_,vc o 4,_,vc o 5,_,rfl,_,fI H 0 0,_,fI H 0 1,_,fI H 0 2,_,fI H 0 3,y.ru.2.2.2.2,fI H 0 4,?_⟩;refine wd.left (frz:=aZ a.1 9=5) (es0:=es) (z:=(e.tu,y.ru,e.lu)) (by omega) ⟨(i422.upd0 v).mv O,x.2.1.mv mm,q.up,q.fit,by show e.lu.length≤n+1;omega⟩ (by rw[dJ];exact ao _) (fun h=>absurd h5 h) fun h' hd=>?_
    exact hk h' hd
  ·refine⟨_,vc B 0,Rz q (by omega) p.1 fun h472 k472=>?_⟩
   have p472:=k472.get0 B;have cx472:=k472.get0 cx;obtain⟨s,er,hsl,_⟩:=x.2.1;have es4:y.ru.2.2.2.2=s:=by rw[er]
   refine⟨_,rfl,y.ru.2.2.2.2,fI cx472 0 4,_,vc p472 0,?_⟩;rw[es4];refine QI (hsl.upd k472 fun _ h=>h.elim) q.up q.fit (by omega) p.1 ?_
   rw[beq_self_eq_true,beq_self_eq_true];exact ay.2 (hk h472 ⟨g,zs,es,ao _,fun _ h=>h,(E.up0 k472).mono (fY _) hn⟩)
  ·exact⟨_,vc B 0,_,vc B 1,_,vc B 0,_,vc B 1,RD E hn he m B nb hp1 hk⟩
end
end Go.Proofs
namespace Go.Proofs
open Go Go.Lift
section
variable {c:WC} {n:Nat} {h0 h h':ad} {g:WG} {zs:List Vr} {es:List Ed}
end
end Go.Proofs
namespace Go.Proofs
open Go Go.Lift
abbrev Df(a:Sq):List Value:= [.int .u8 a.1,.int .u8 a.2.1,.int .u8 a.2.2.1,.string a.2.2.2.1,.string a.2.2.2.2.1,.int .u16 a.2.2.2.2.2]
abbrev Ue:Sq:=(0,0,0,⟨#[]⟩,⟨#[]⟩,0)
theorem QX{h:ad}{t:TypeId}{a:Sq}{k:ad→Prop}(f:∀h',h'[h.size]? =some (.cells (Df a).toArray t (0,0))→Upd No h h'→k h'):
  At (hnew h (Df Ue) t) fun d=>tT d (some (aD h)) 0 (Df a)∧At (gT d (aD h) 0 (Df a)) k:=
 aJ fun _ b1 k1=>cS (c:=Df Ue) (vs:=Df a) b1 rfl fun g b2 b=>f g b2 (k1.own b (ao _))
theorem Made.wd{d h f:ad}{kk:Int}{x:Hs}{n:Nat}{t:Tr}{r:Rt}{wb b1 b2 pb cb rb:Nat}{s1:SliceV}(md:Made h f kk x n t r wb b1 b2 pb cb rb s1)(k:Upd No d h)(u:n≤4):∃c g,c.wb=wb∧g.ids=JI n∧Wd c 0 d f g [(t,r,[])] []:=by
 obtain⟨N,s⟩:=md.ws;obtain⟨ws,it,o,mv⟩:=s _ rfl;refine⟨WC.mk wb rb pb cb n N kk x,g0 b1 b2 s1 t r n,rfl,rfl,ws,rfl,rfl,rfl,rfl,rfl,fun i e y v=>by(simp at v),fun i j a b m=>by(simp[g0]at m),fun z hz=>?_,?_,(Mv.of0 k).tr mv⟩
 ·rw[List.mem_singleton.1 hz]
  exact⟨it,o,gn,fun p q=>by(cases q),ao _⟩
 ·exact⟨Nat.zero_lt_one,ao _,ao _,ao _,rfl,u,by omega⟩
end Go.Proofs
namespace Go.Proofs
open Go Go.Lift
set_option maxRecDepth 100000 in
set_option maxHeartbeats 4000000 in
theorem Gc{h:ad}{k:Int}{x:Hs}{s s2:SliceV}{l l2:List Sq}(tab:Tab h)(hs:Sl Df 6 No h s l)(hl:l.length≤9223372036854775807)(hb:∀a∈l,Lo a)(hs2:Sl Df 6 No h s2 l2)(hl2:l2.length≤9223372036854775807)(hb2:∀a∈l2,Lo a)(hk0:0≤k)(hk1:k≤255):
  HC PG ui [.int .u8 k,.agg #[.int .u64 x.k0,.int .u64 x.k1,.int .u64 x.mask],.slice s.a s.len s.cap,.slice s2.a s2.len s2.cap] [.c .bool] (fun b F=>b=true∧Upd No h F) h:=by
 refine Cg k (x.k0,x.k1,x.mask) s s2 ?_;unfold uH bJ dH bh jt ah bS Ek lX aI bw aG aM eK cp nv zT vH zg1 Wn Ww Wi rk pj xn GH qK wm OA my jS;have hkk:=VW hk0 hk1;generalize e0:IntKind.wrap .i64 (aZ k 2)=kk at hkk;refine aJ fun h1 b1 k1=>MR fun h3 k3=>aj.2 ?_
 have c3:=k3.get0 b1;refine⟨_,vc c3 0,_,vc c3 1,_,vc c3 2,Pi (x:=x) (n:=3) (c:=4) hkk e0 rfl (by omega) (ao _) fun h8 t r wb b1' b2' pb cb rb s1 md=>?_⟩
 obtain⟨c,g,ew,hids,wd⟩:=md.wd (k1.tr k3) (ao _);subst ew;have hsl:=hs.len;have hs2l:=hs2.len;refine GG wd (by omega) Ue (by unfold Lo;decide) fun h10 g1 es1 _ f K w10=>?_
 have f:=f (by rw[hids];simp[JI]);have K:∀e∈es1,e.lv=true:=fun e he=>(K e he).elim (fun h=>by cases h) id
 refine LoopP.ghost (fun(q:Nat×WG×List Vr×List Ed) (t':Int) F=>t'=(q.1:Int)∧q.1≤l.length∧0<q.2.2.2.length∧(∀e∈q.2.2.2,e.lv=true)∧Wd c (min q.1 20+1) h F q.2.1 q.2.2.1 q.2.2.2) (fun q=>l.length-q.1) (0,g1,[(t,r,[])],es1) ⟨rfl,bo _,f,K,w10⟩ ?_
 rintro I ⟨i,g,zs,es⟩ _ h13 ⟨rfl,hil,f,hlv,w⟩ hI;simp only at hil f hlv w hI⊢;refine aQ (fun B=>?_) fun _=>?_
 ·have B:i<l.length:=by omega
  obtain⟨a,hav,_,hv⟩:=(hs.upd w.mv.1 fun _ h=>h.elim).at (ag B)
  have O:=hb l[i] (aP B);generalize l[i]=ac at hv O;refine Join.plain ⟨⟨by omega,by omega⟩,a,hav,_,hv 0 _ rfl,_,hv 1 _ rfl,_,hv 2 _ rfl,_,hv 3 _ rfl,_,hv 4 _ rfl,_,hv 5 _ rfl,QX (a:=ac) fun h23 E k23=>?_⟩
  rw[yz B hl];have skip:Wd c (min i 20+1) h h23 g zs es:=w.up0 k23;have no:I ((i+1:Nat):Int) h23:=hI (i+1,g,zs,es) _ _ ⟨rfl,by omega,f,hlv,skip.mono (by omega) (by omega)⟩ (by show l.length-(i+1)<l.length-i;omega)
  refine Join.plain (aQ (fun h20=>?_) fun _=>aj.2 no)
  have h20:i<20:=by omega
  refine⟨_,vc E 0,by decide,CondP.intro (fun h5=>?_) fun _=>no⟩
  have h5:¬aZ ac.1 9=5:=by simpa using h5
  refine⟨_,vc E 0,_,vc E 1,_,vc E 2,_,vc E 3,_,vc E 4,_,vc E 5,Uh skip (by omega) ac O fun h35 hd=>?_⟩
  obtain⟨g',zs',es',hle,hlv',w'⟩:=hd;refine hI (i+1,g',zs',es') _ _ ⟨rfl,by omega,by show 0<es'.length;omega,hlv' h5 hlv,?_⟩ (by show l.length-(i+1)<l.length-i;omega)
  rw[show min (i+1) 20=min i 20+1 by omega]
  exact w'
 obtain⟨l1,l2',l3,l4,l5,l6,l7⟩:=w.rows;have sz:=w.sz;have he:es[0]? =some es[0]:=ag f;have hem:=aP f;have hl0:=hlv es[0] hem;have hxl:0<g.xs.length:=by rw[w.lx];exact f
 have hy:g.xs[0]? =some g.xs[0]:=ag hxl;generalize es[0]=e at he hem hl0;generalize g.xs[0]=y at hy;obtain⟨ae,hae,hve⟩:=w.e he;obtain⟨ax,hax,hvx⟩:=w.x hy;have cw:=w.ws.cw;have x0:=w.xw 0 e y he hy;have q:=w.ws.wo.ew e hem;have hlen:=q.len;refine⟨_,rfl,g.se,vc cw 2,⟨by omega,by omega⟩,ae,hae,_,hve,_,rfl,g.sx,vc cw 3,⟨by omega,by omega⟩,ax,hax,_,hvx,?_⟩
 refine Jo w.ws.wo he hl0 fun h47 w47 Z i47=>pB (t:=e.tu) fun h49 G P=>?_
 have ws47:=w.ws.ed w47 Z;have ws49:=ws47.up0 P;have mv49:=(w.mv.tr Z.1).up0 P;have j49:=(x0.2.1.mv Z.1).upd0 P;have C:=ws49.xc hy;refine Join.intro (fun t' F=>t'=false∧Upd No h49 F) (fun R hR=>?_) ?_
 ·refine aj.2 ⟨_,vc G 0,_,vc G 1,_,vc G 2,_,vc G 3,_,vc G 4,_,vc G 5,_,rfl,_,fI C 0 0,_,fI C 0 1,_,fI C 0 2,_,fI C 0 3,y.ru.2.2.2.2,fI C 0 4,?_⟩
  exact BI (tab.upd mv49.1 id) (i47.upd0 P) j49 q.up q.fit (by omega) fun h64 k64=>hR _ _ ⟨rfl,k64⟩
 rintro _ h66 ⟨rfl,k66⟩;have ws66:=ws49.up0 k66;have nb49:¬Un (AL (SW c g)) c.cb (es.set 0 {e with lv:=false,S:=No}) h47.size:=ws47.wo.w0 (ao _);refine aj.2 ⟨_,rfl,lN (ws66.xc hy) (i:=6) (by simp) rfl fun X b68 u68=>?_⟩
 have M:=ws66.xset hy (y':={y with fz:=true}) u68 rfl b68;have m68:=(Mv.of0 (P.tr k66)).tr M.2;have H:=(mv49.up0 k66).tr M.2;have t68:X[h47.size]? =some (.cells (jT e.tu).toArray aS (0,0)):=M.2.get (k66.get0 G) nb49;have i68:=i47.mv m68;have j68:=(x0.2.1.mv Z.1).mv m68;have hy68:({g with xs:=g.xs.set 0 {y with fz:=true}}:WG).xs[0]? =some {y with fz:=true}:=by
  show(g.xs.set 0 _)[0]? =_
  rw[dR hxl]
 have he68:{e with lv:=false,S:=No}∈es.set 0 {e with lv:=false,S:=No}:=az (i:=0) (by rw[dR f]);have cx68:=M.1.xc hy68;have J:∀{F:ad},Upd No X F→EdW (Un (AL (SW c {g with xs:=g.xs.set 0 {y with fz:=true}})) c.cb (es.set 0 {e with lv:=false,S:=No})) F c.pb c.kk c.x (min i 20+1) {e with lv:=false,S:=No}:=fun k=>(M.1.up0 k).wo.ew _ he68
 refine Join.intro (fun _ F=>Upd No X F) (fun R hR=>?_) ?_
 ·refine LoopP.ghost (fun(j:Nat) (t':Int) F=>t'=(j:Int)∧j≤l2.length∧Upd No X F) (fun j=>l2.length-j) 0 ⟨rfl,bo _,Upd.refl _ _⟩ ?_
  rintro I2 j _ h72 ⟨rfl,hjl,Y⟩ hI2;refine aQ (fun B=>?_) fun _=>hR _ _ Y
  have B:j<l2.length:=by omega
  obtain⟨a,hav,_,hv⟩:=(hs2.upd (H.up0 Y).1 fun _ h=>h.elim).at (ag B)
  have O:=hb2 l2[j] (aP B);generalize l2[j]=ac at hv O;refine⟨⟨by omega,by omega⟩,a,hav,_,hv 0 _ rfl,_,hv 1 _ rfl,_,hv 2 _ rfl,_,hv 3 _ rfl,_,hv 4 _ rfl,_,hv 5 _ rfl,QX (a:=ac) fun h81 L k81=>?_⟩
  refine aQ (fun _=>hR _ _ (Y.tr k81)) fun _=>?_
  have h300:aZ (IntKind.wrap .i64 ac.2.2.2.2.2) 300≤5000:=by
   have:=O.2.2.2;rw[oD (by omega),eX (by omega)];omega
  refine Join.intro (fun t' F=>∃b p,t'=(⟨b,0,none⟩:Addr)∧F[b]? =some (.cells (ge p).toArray aB (0,0))∧Upd No h81 F) (fun R3 hR3=>?_) ?_
  ·refine⟨_,fI L 3 0,_,vc L 5,by decide,_,fI L 3 1,?_,?_⟩
   ·refine xz h300 fun q1 h107 hq1 _ D=>?_
    have d:=D.get0 L;refine⟨fI d 3 1,vc d 5,?_,?_⟩
    ·refine uk ⟨vc d 5,aJ fun h110 b110 k110=>⟨vc (k110.get0 d) 5,cS (c:=ge FT) (vs:=ge (q1,po ac.2.2.2.2.1)) b110 rfl fun h111 b111 u111=>?_⟩⟩
     exact hR3 _ _ ⟨h107.size,_,rfl,b111,(D.tr k110).own u111 D.size⟩
    ·refine aJ fun h112 b112 k112=>?_
     have d:=k112.get0 d;refine⟨fI d 3 1,vc d 5,uk ⟨vc d 5,cS (c:=ge FT) (vs:=ge (q1,po ac.2.2.2.2.1)) b112 rfl fun h113 b113 u113=>?_⟩⟩
     exact hR3 _ _ ⟨h107.size,_,rfl,b113,(D.tr k112).own u113 D.size⟩
   ·refine aJ fun h116 b116 k116=>?_
    have d:=k116.get0 L;refine⟨fI d 3 1,vc d 5,fI d 3 0,xz h300 fun q1 h118 hq1 _ Q=>?_⟩
    have d:=Q.get0 d;refine⟨fI d 3 1,vc d 5,uk ⟨vc d 5,cS (c:=ge FT) (vs:=ge (q1,po ac.2.2.2.2.1)) (Q.get0 b116) rfl fun h119 b119 u119=>?_⟩⟩
    exact hR3 _ _ ⟨h81.size,_,rfl,b119,(k116.tr Q).own u119 (ao _)⟩
  rintro _ h134 ⟨bp,p,rfl,bpc,k134⟩;have k0:=Y.tr (k81.tr k134);have q0:=J k0;refine Ho q0.ed q0.tk fun h136 k136=>pB (t:=vI) fun h138 b138 k138=>?_
  have k1':=k136.tr k138;have q1:=J (k0.tr k1');refine wX q1.ed q1.tk fun h140 k140=>pB (t:=vI) fun h142 b142 k142=>?_
  have k2':=k1'.tr (k140.tr k142);have q2:=J (k0.tr k2');have N:=k2'.get0 bpc;refine Join.plain ⟨_,vc N 0,_,vc N 1,ER q2.ed q2.tk p fun h147 W=>aj.2 ?_⟩
  have q3:=J ((k0.tr k2').tr W);have p147:=W.get0 N;refine⟨_,vc p147 0,Hp q3.ed q3.tk p.1 fun h150 k150=>aj.2 (aj.2 (aj.2 ?_))⟩
  rw[yz B hl2];exact hI2 (j+1) _ _ ⟨rfl,by omega,(k0.tr k2').tr (W.tr k150)⟩ (by omega)
 rintro _ h154 k154;refine Ky (J k154) fun h156 k156=>pB (t:=e.tu) fun h158 o k158=>ay.2 ?_
 have k1:=k154.tr (k156.tr k158);have m:=k1.get0 cx68;have q1:=J k1;refine⟨_,vc o 0,_,vc o 1,_,vc o 2,_,vc o 3,_,vc o 4,_,vc o 5,_,rfl,_,fI m 0 0,_,fI m 0 1,_,fI m 0 2,_,fI m 0 3,y.ru.2.2.2.2,fI m 0 4,?_⟩;refine BI (tab.upd (H.up0 k1).1 id) (i68.upd0 k1) (j68.upd0 k1) q.up q.fit (by omega) fun h172 V=>ay.2 ?_
 have k2:=k1.tr V;have v:=k2.get0 t68;have u:=V.get0 m;refine⟨_,vc v 0,_,vc v 1,_,vc v 2,_,vc v 3,_,vc v 4,_,vc v 5,_,rfl,_,fI u 0 0,_,fI u 0 1,_,fI u 0 2,_,fI u 0 3,y.ru.2.2.2.2,fI u 0 4,?_⟩;refine BI (tab.upd (H.up0 k2).1 id) (i68.upd0 k2) (j68.upd0 k2) q.up q.fit (by omega) fun h186 T=>ay.2 ?_
 have k3:=k2.tr T;have A:=T.get0 v;have z:=(V.tr T).get0 o;refine⟨_,vc A 0,_,vc A 1,_,vc A 2,_,vc A 3,_,vc A 4,_,vc A 5,_,vc z 0,_,vc z 1,_,vc z 2,_,vc z 3,_,vc z 4,_,vc z 5,?_⟩;refine SS (i68.upd0 k3) (i68.upd0 k3) fun h200 k200=>⟨decide_eq_true rfl,((H.up0 k3).up0 k200).1⟩
end Go.Proofs
