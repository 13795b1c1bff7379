/- A part of the proof that the named laws of this program answer true, whatever the input. -/
import Derived.Test.YtajpljopgikpgaaGreatDoorPart13
open Int renaming tmod→bE,tmod_eq_emod_of_nonneg→fO
open List renaming mem_of_getElem?→aE,length_set→cQ,length_map→bF,getElem?_eq_getElem→ag,getElem_mem→aY,getElem?_eq_some_iff→aG,length_append→ad,length_singleton→aF,getElem?_append_left→bK,getElem?_set_ne→fj,getElem?_set_self→f7
open List.Pairwise renaming nil→fc
open Nat renaming le_refl→ao,le_succ→gI,zero_le→bj
namespace Go.Proofs
open Go Go.Lift
section
variable {c:WC} {n:Nat} {h0 h h':af} {g:WG} {zs:List Vr} {es:List Ed}
def abn(c:WC)(n:Nat)(b:af)(es:List Ed)(frz:Prop)(a:af):Prop:=∃g' zs' es',es.length≤es'.length∧(¬frz→(∀e∈es,e.lv=true)→∀e∈es',e.lv=true)∧Wd c n b a g' zs' es'
theorem Hu{es:List Ed}{k:Nat}{e':Ed}(h:e'.lv=true)(b:∀e∈es,e.lv=true):∀e∈es.set k e',e.lv=true:=fun e a=>(Gp a).elim (fun d=>d▸h) fun⟨_,_,c⟩=>b e (aE c)
section
variable {k:Nat} {e:Ed} {y:Xd} {frz:Prop} {K:Bool→af→Prop}
theorem T4(w:Wd c n h0 h g zs es)(F:n+1≤100)(u:es[k]? =some e) (s:g.xs[k]? =some y) {A:Nat} {p:Pr} (E:h[A]? =some (.cells (fe p).toArray ay (0,0))) (P:¬c.U (SW c g) es A) (G:∀h',abn c (n+1) h0 es frz h'→K true h'):
  HC PG jM [.pointer (pA e.eb),.string p.1] [.c (.int .i64)] (fun(b:Int) a=>aR a (adr ⟨A,0,none⟩ 0)=some (.string p.1)∧HC PG xK [.pointer (pA y.b),.string p.1] [.c (.int .i64)] (fun(d:Int) f=>K (b==d) f) a) h:=by
 have v:=aE u;have q:=w.ws.wo.ew e v;have x:=w.xw k e y u s;have B:=q.len;cases hl:e.lv with
 |true=>
  refine Y7 w.ws.wo u hl (by omega) p.1 fun D i C H m=>⟨vc (m.1.get E P) 0,?_⟩
  have z:=w.ws.ed H m;refine Hh z s (x.2.1.mv m.1) q.up q.fit (by omega) p.1 (fun j=>by rw[x.1,hl]at j;cases j) fun _ N I M J L=>?_
  rw[beq_self_eq_true];exact G N ⟨_,zs,_,by rw[cQ];exact ao _,fun _=>Hu (e':={e with tu:=i,lu:=pV e.lu p.1,S:=C}) hl,w.ru F u s (e':={e with tu:=i,lu:=pV e.lu p.1,S:=C}) M (m.1.tr J) rfl rfl rfl L⟩
 |false=>
  refine TZ q.ed (hl▸q.tk) p.1 fun D o=>⟨vc (o.get0 E) 0,?_⟩
  refine Hh (w.up0 o).ws s (x.2.1.upd0 o) q.up q.fit (by omega) p.1 (fun _=>?_) fun j=>by rw[x.1,hl]at j;cases j
  exact G D ⟨g,zs,es,ao _,fun _ O=>O,(w.up0 o).mono (gI _) F⟩
theorem WE(w:Wd c n h0 h g zs es)(F:n+1≤100)(u:es[k]? =some e) (s:g.xs[k]? =some y) {v:Nat} {p:Pr} (E:h[v]? =some (.cells (fe p).toArray ay (0,0))) (Q:¬c.U (SW c g) es v) (R:p.1.size≤5030∧p.2.size≤5030) (G:∀h',abn c (n+1) h0 es frz h'→K true h'):
  HC PG hE [.pointer (pA e.eb),.agg #[.string p.1,.string p.2]] [.c (.int .i64)] (fun(b:Int) a=>(aR a (adr ⟨v,0,none⟩ 0)=some (.string p.1)∧aR a (adr ⟨v,0,none⟩ 1)=some (.string p.2))∧HC PG Ab [.pointer (pA y.b),.agg #[.string p.1,.string p.2]] [.c (.int .i64)] (fun(i:Int) d=>K (b==i) d) a) h:=by
 have z:=aE u;have q:=w.ws.wo.ew e z;have x:=w.xw k e y u s;have C:=q.len;cases hl:e.lv with
 |true=>
  refine aat w.ws.wo u hl (by omega) p R fun H f D J m=>?_
  have b2:=m.1.get E Q;have B:=w.ws.ed J m;refine⟨⟨vc b2 0,vc b2 1⟩,Ko B s (x.2.1.mv m.1) q.up (by omega) p (fun j=>by rw[x.1,hl]at j;cases j) fun _ A L O M N=>?_⟩
  rw[beq_self_eq_true];exact G A ⟨_,zs,_,by rw[cQ];exact ao _,fun _=>Hu (e':={e with tu:=f,lu:=mZ e.lu p,S:=D}) hl,w.ru F u s (e':={e with tu:=f,lu:=mZ e.lu p,S:=D}) O (m.1.tr M) rfl rfl rfl N⟩
 |false=>
  refine Oq q.ed (hl▸q.tk) p fun H o=>?_
  have b2:=o.get0 E;refine⟨⟨vc b2 0,vc b2 1⟩,Ko (w.up0 o).ws s (x.2.1.upd0 o) q.up (by omega) p (fun _ A I=>?_) fun j=>by rw[x.1,hl]at j;cases j⟩
  exact G A ⟨g,zs,es,ao _,fun _ P=>P,(w.up0 (o.tr I)).mono (gI _) F⟩
end
end
end Go.Proofs
namespace Go.Proofs
open Go Go.Lift
section
variable {c:WC} {n:Nat} {h0 h h':af} {g:WG} {zs:List Vr} {es:List Ed}
theorem Wd.left(w:Wd c n h0 h g zs es)(b:zs.length≤n){z:Vr}(hz:VrW (c.U (SW c g) es) h c.kk c.x n z){frz:Prop}{es0:List Ed}(f:es0.length≤es.length)(d:¬frz→(∀e∈es0,e.lv=true)→∀e∈es,e.lv=true){K:Unit→af→Prop}(a:∀h',abn c n h0 es0 frz h'→K () h'):HC PG jK [.pointer (pA c.wb),Jb z.1,XS z.2.1] [] K h:=by
 have sz:=w.sz;refine Yk w.ws z.1 z.2.1 (by rw[w.el,w.er,bF,bF];omega) fun h' sl sm r m=>?_
 exact a h' ⟨_,_,es,f,d,w.keep b hz r m⟩
set_option maxRecDepth 100000 in
set_option maxHeartbeats 8000000 in
theorem Y9(w:Wd c n h0 h g zs es)(hn:n+1≤100)(a:Xl)(ha:UD a){K:Bool→af→Prop}(hk:∀h',abn c (n+1) h0 es (bE a.1 9=5) h'→K true h'):HC PG ui [.pointer (pA c.wb),abf a] [.c .bool] K h:=by
 refine Il _ a ?_;unfold zH bH cS aq oy bo aD eX nv abj bD aQ uO rF yM oZ dR GA FX GK Ao Cl jm gO ci eH uP Lw Pm aK abm ph lf;have sz:=w.sz;obtain⟨l1,l2,l3,l4,l5,l6,l7⟩:=w.rows;have h300:bE (IntKind.wrap .i64 a.2.2.2.2.2) 300≤5000:=by
  have:=ha.2.2.2;rw[jj (by omega),fO (by omega)];omega
 refine aN fun h1 b1 k1=>?_
 have w1:=w.up0 k1;have z1:=aL b1;have s1:=k1.size;have c30:=QI a.2.2.2.2.1;refine Join.intro (fun t' h'=>∃b p,t'=(⟨b,0,none⟩:Addr)∧h'[b]? =some (.cells (fe p).toArray ay (0,0))∧(p.1.size≤5030∧p.2.size≤5030)∧h1.size≤b∧Upd No h1 h') (fun R hR=>?_) ?_
 ·refine⟨_,ga b1 3 0,_,vc b1 5,by decide,_,ga b1 3 1,?_,?_⟩
  ·refine Ky h300 fun q1 h107 hq1 _ k107=>?_
   have d:=k107.get0 b1;have s107:=k107.size;refine⟨ga d 3 1,vc d 5,?_,?_⟩
   ·refine H0 ⟨vc d 5,aN fun h110 b110 k110=>⟨vc (k110.get0 d) 5,cW (c:=fe Ln) (vs:=fe (q1,ul a.2.2.2.2.1)) b110 rfl fun h111 b111 u111=>?_⟩⟩
    exact hR _ _ ⟨h107.size,(q1,ul a.2.2.2.2.1),rfl,b111,⟨hq1,by show(ul a.2.2.2.2.1).size≤5030;omega⟩,by omega,(k107.tr k110).own u111 (by omega)⟩
   ·refine aN fun h112 b112 k112=>?_
    have d:=k112.get0 d;refine⟨ga d 3 1,vc d 5,H0 ⟨vc d 5,cW (c:=fe Ln) (vs:=fe (q1,ul a.2.2.2.2.1)) b112 rfl fun h113 b113 u113=>?_⟩⟩
    exact hR _ _ ⟨h107.size,(q1,ul a.2.2.2.2.1),rfl,b113,⟨hq1,by show(ul a.2.2.2.2.1).size≤5030;omega⟩,by omega,(k107.tr k112).own u113 (by omega)⟩
  ·refine aN fun h116 b116 k116=>?_
   have d:=k116.get0 b1;refine⟨ga d 3 1,vc d 5,ga d 3 0,Ky h300 fun q1 h118 hq1 _ k118=>?_⟩
   have d:=k118.get0 d;refine⟨ga d 3 1,vc d 5,H0 ⟨vc d 5,cW (c:=fe Ln) (vs:=fe (q1,ul a.2.2.2.2.1)) (k118.get0 b116) rfl fun h119 b119 u119=>?_⟩⟩
   exact hR _ _ ⟨h1.size,(q1,ul a.2.2.2.2.1),rfl,b119,⟨hq1,by show(ul a.2.2.2.2.1).size≤5030;omega⟩,ao _,(k116.tr k118).own u119 (ao _)⟩
 rintro _ hp ⟨bp,p,rfl,B,hp1,hbp,kp⟩;have C:=w1.up0 kp;have F:=kp.get0 b1;have sp:=kp.size;have zbp:=aL B;have cw:=C.ws.cw;have nb:¬c.U (SW c g) es bp:=w.ws.wo.w0 (by omega);refine Join.intro (fun t' h'=>h'=hp∧(t'=false→bE a.1 9=7∨0<es.length)) (fun R hR=>?_) ?_
 ·refine⟨_,vc F 0,by decide,CondP.intro (fun _=>hR _ _ ⟨rfl,fun h=>by cases h⟩) fun _=>⟨_,rfl,g.se,vc cw 2,CondP.intro (fun _=>⟨_,vc F 0,by decide,hR _ _ ⟨rfl,fun h=>.inl (by simpa using h)⟩⟩) fun hne=>hR _ _ ⟨rfl,fun _=>.inr ?_⟩⟩⟩
  have hne:¬(g.se.len:Int)=0:=by simpa using hne
  omega
 rintro t129 h130 ⟨e130,h129⟩;rw[e130];clear e130;refine CondP.intro (fun _=>?_) fun ht=>?_
 ·refine⟨_,vc F 0,_,vc F 1,_,vc F 2,_,vc F 3,_,vc F 4,_,vc F 5,SS C hn a ha fun h' g' es' hl _ hlv wd=>?_⟩
  exact hk h' ⟨g',zs,es',hl,fun _ hall e he=>(hlv e he).elim (hall e) id,wd⟩
 refine⟨_,vc F 0,by decide,CondP.intro (fun h7=>?_) fun h7=>?_⟩
 ·
  obtain⟨k,ek,hkl⟩:=U8 ha.2.2.1.1 (by have:=ha.2.2.1.2;omega) sz.1;refine⟨_,vc F 2,_,rfl,g.sl,vc cw 0,?_⟩;rw[l1,ek];have hz:zs[k]? =some zs[k]:=ag hkl;have hzm:=aY hkl;generalize zs[k]=z at hz hzm;have vz:=C.zw z hzm;have hlz:=vz.2.2.2.2;have wl:=M8 (p:=p) vz.2.2.1 vz.2.2.2.1 hlz hp1;refine⟨by omega,?_⟩;refine Join.intro (fun t' h'=>∃b1 t1,t'=((⟨b1,0,none⟩:Addr),DW p)∧hp.size≤b1∧h'[b1]? =some (.cells (lD t1).toArray bm (0,0))∧TreeIs (c.U (SW c g) es) h' c.kk c.x t1 (mZ z.2.2 p)∧Upd No hp h') (fun R hR=>?_) ?_
  ·obtain⟨at_,hat,u⟩:=C.t hz
   refine⟨_,rfl,g.sl,vc cw 0,⟨by omega,by omega⟩,at_,hat,_,u 0 _ rfl,_,u 1 _ rfl,_,u 2 _ rfl,_,u 3 _ rfl,_,u 4 _ rfl,_,u 5 _ rfl,_,vc B 0,_,vc B 1,?_,?_⟩
   ·refine JY vz.1 C.ws.unl vz.2.2.1 (by omega) p fun h276 t1 i1 _ D=>⟨vc (C.up0 D).ws.cw 0,aN fun h277 b277 V=>⟨vc (C.up0 (D.tr V)).ws.cw 0,cW (c:=lD yF) (vs:=lD t1) b277 rfl fun h278 b278 u278=>?_⟩⟩
    have Z:=V.own u278 (ao _);exact hR _ _ ⟨h276.size,t1,rfl,D.size,b278,i1.upd0 Z,D.tr Z⟩
   ·refine aN fun h279 b279 f=>?_
    have p279:=f.get0 B;have z279:=aL b279;refine⟨⟨vc p279 0,vc p279 1⟩,⟨f.cell0 (u 0 _ rfl),f.cell0 (u 1 _ rfl),f.cell0 (u 2 _ rfl),f.cell0 (u 3 _ rfl),f.cell0 (u 4 _ rfl),f.cell0 (u 5 _ rfl)⟩,vc (C.up0 f).ws.cw 0,?_⟩;refine JY (W:=fun y=>c.U (SW c g) es y∨y=hp.size) ((vz.1.less fun y m=>m.imp id fun h=>by omega).upd0 f) (fun y m=>m.elim ((C.up0 f).ws.unl y) fun h=>by omega) vz.2.2.1 (by omega) p fun h281 t1 i1 _ L=>⟨vc (C.up0 (f.tr L)).ws.cw 0,cW (c:=lD yF) (vs:=lD t1) (L.get0 b279) rfl fun h282 b282 Y=>?_⟩
    exact hR _ _ ⟨hp.size,t1,rfl,ao _,b282,(i1.updM Y fun y m=>.inl (.inr m)).less fun y m=>.inl (.inl m),(f.tr L).own Y (ao _)⟩
  rintro _ h284 ⟨bt,t1,rfl,hbt,bt1,it1,k284⟩;have E:=C.up0 k284;have cw284:=E.ws.cw;have p284:=k284.get0 B;have s284:=k284.size;have zbt:=aL bt1;refine Join.intro (fun t' h'=>∃b2 r1,t'=((⟨b2,0,none⟩:Addr),DW p)∧h284.size≤b2∧h'[b2]? =some (.cells (sB r1).toArray cq (0,0))∧RefIs (c.U (SW c g) es) h' c.kk c.x r1 (mZ z.2.2 p)∧Upd No h284 h') (fun R hR=>?_) ?_
  ·obtain⟨ar,har,A⟩:=E.r hz
   have jz:=(E.zw z hzm).2.1;refine⟨_,rfl,g.sm,vc cw284 1,⟨by omega,by omega⟩,ar,har,_,A 0 _ rfl,_,A 1 _ rfl,_,A 2 _ rfl,_,A 3 _ rfl,z.2.1.2.2.2.2,A 4 _ rfl,_,vc p284 0,_,vc p284 1,?_,?_⟩
   ·refine zV jz E.ws.unl vz.2.2.1 (by omega) p fun h276 r1 i1 D=>⟨vc (E.up0 D).ws.cw 1,aN fun h277 b277 V=>⟨vc (E.up0 (D.tr V)).ws.cw 1,cW (c:=sB UL) (vs:=sB r1) b277 rfl fun h278 b278 u278=>?_⟩⟩
    have Z:=V.own u278 (ao _);exact hR _ _ ⟨h276.size,r1,rfl,D.size,b278,i1.upd0 Z,D.tr Z⟩
   ·refine aN fun h279 b279 f=>?_
    have p279:=f.get0 p284;have z279:=aL b279;refine⟨⟨vc p279 0,vc p279 1⟩,⟨f.cell0 (A 0 _ rfl),f.cell0 (A 1 _ rfl),f.cell0 (A 2 _ rfl),f.cell0 (A 3 _ rfl),f.cell0 (A 4 _ rfl)⟩,vc (E.up0 f).ws.cw 1,?_⟩;refine zV (W:=fun y=>c.U (SW c g) es y∨y=h284.size) ((jz.less fun y m=>m.imp id fun h=>by omega).upd0 f) (fun y m=>m.elim ((E.up0 f).ws.unl y) fun h=>by omega) vz.2.2.1 (by omega) p fun h281 r1 i1 L=>⟨vc (E.up0 (f.tr L)).ws.cw 1,cW (c:=sB UL) (vs:=sB r1) (L.get0 b279) rfl fun h282 b282 Y=>?_⟩
    exact hR _ _ ⟨h284.size,r1,rfl,ao _,b282,(i1.updM Y fun y m=>.inl (.inr m)).less fun y m=>.inl (.inl m),(f.tr L).own Y (ao _)⟩
  rintro _ h352 ⟨br,r1,rfl,hbr,br1,jr1,P⟩;have M:=k284.tr P;have w352:=C.up0 M;have cw352:=w352.ws.cw;have s352:=P.size;have zbr:=aL br1;have bt352:=P.get0 bt1;have it352:=it1.upd0 P;refine Join.intro (fun t' h'=>∃ev t2 r2 l2,t'=((ev:Int),(ev:Int))∧h'[bt]? =some (.cells (lD t2).toArray bm (0,0))∧h'[br]? =some (.cells (sB r2).toArray cq (0,0))∧VrW (c.U (SW c g) es) h' c.kk c.x (n+1) (t2,r2,l2)∧Upd No hp h') (fun R hR=>?_) ?_
  ·refine⟨_,vc ((kp.tr M).get0 b1) 5,by decide,CondP.intro (fun _=>?_) fun _=>hR _ _ ⟨DW p,t1,r1,mZ z.2.2 p,rfl,bt352,br1,⟨it352,jr1,wl.1,wl.2.1,wl.2.2⟩,M⟩⟩
   obtain⟨at_,hat,u⟩:=w352.t hz;have p352:=P.get0 p284;have gl:=Oe (k:=p.1) vz.2.2.1 vz.2.2.2.1 hlz;have vz352:=w352.zw z hzm;have iL:TreeIs (fun y=>c.U (SW c g) es y∨(hp.size≤y∧y<h352.size)) h352 c.kk c.x z.1 z.2.2:=(vz.1.less fun y m=>m.imp id And.left).upd0 M
   refine⟨_,rfl,g.sl,vc cw352 0,⟨by omega,by omega⟩,at_,hat,_,u 0 _ rfl,_,u 1 _ rfl,_,u 2 _ rfl,_,u 3 _ rfl,_,u 4 _ rfl,_,u 5 _ rfl,_,vc p352 0,?_⟩
   refine LC iL (fun y m=>m.elim (w352.ws.unl y) And.right) vz.2.2.1 vz.2.2.2.1 (by omega) p.1 fun h366 t2 i2 _ k366=>⟨vc (w352.up0 k366).ws.cw 0,cW (c:=lD t1) (vs:=lD t2) (k366.get0 bt352) rfl fun h367 b367 u367=>?_⟩
   have Q:Upd No hp h367:=(M.tr k366).own u367 hbt;have w367:=C.up0 Q;have i367:=i2.updM u367 fun y m=>.inl (.inr (by have m:y=bt:=m;have:=P.size;omega))
   obtain⟨ar,har,A⟩:=w367.r hz;have p367:=Q.get0 B;have br367:=u367.oth (k366.get0 br1) (by omega);have s366:=k366.size;have s367:=u367.size;have jL:RefIs (fun y=>c.U (SW c g) es y∨(hp.size≤y∧y<h352.size)) h367 c.kk c.x z.2.1 z.2.2:=(vz.2.1.less fun y m=>m.imp id And.left).upd0 Q
   refine⟨_,rfl,g.sm,vc w367.ws.cw 1,⟨by omega,by omega⟩,ar,har,_,A 0 _ rfl,_,A 1 _ rfl,_,A 2 _ rfl,_,A 3 _ rfl,z.2.1.2.2.2.2,A 4 _ rfl,_,vc p367 0,?_⟩
   refine CA jL (fun y m=>m.elim (w367.ws.unl y) fun h=>by omega) vz.2.2.1 vz.2.2.2.1 (by omega) p.1 fun h378 r2 j2 k378=>⟨vc (w367.up0 k378).ws.cw 1,cW (c:=sB r1) (vs:=sB r2) (k378.get0 br367) rfl fun h379 b379 u379=>?_⟩
   have hm:∀y,y=br→(c.U (SW c g) es y∨(hp.size≤y∧y<h352.size))∨h378.size≤y:=fun y m=>.inl (.inr (by omega))
   refine hR _ _ ⟨Eu z.2.2 p.1,t2,r2,pV z.2.2 p.1,rfl,u379.oth (k378.get0 b367) (by omega),b379,⟨((i367.upd0 k378).updM u379 hm).less fun y m=>.inl (.inl m),(j2.updM u379 hm).less fun y m=>.inl (.inl m),gl.1,gl.2.1,gl.2.2⟩,(Q.tr k378).own u379 (by omega)⟩
  rintro _ h381 ⟨ev,t2,r2,l2',rfl,bt2,br2,v2,k381⟩;have w381:=(C.up0 k381).mono (gI n) hn;refine⟨_,vc bt2 0,_,vc bt2 1,_,vc bt2 2,_,vc bt2 3,_,vc bt2 4,_,vc bt2 5,_,vc br2 0,_,vc br2 1,_,vc br2 2,_,vc br2 3,r2.2.2.2.2,vc br2 4,?_⟩;refine w381.left (frz:=bE a.1 9=5) (z:=(t2,r2,l2')) (by omega) v2 (ao _) (fun _ h=>h) fun h' hd=>?_
  rw[beq_self_eq_true];exact hk h' hd
 ·
  have hes:0<es.length:=(h129 ht).elim (fun h=>by rw[h]at h7;cases h7) id
  obtain⟨k,ek,hkl⟩:=U8 ha.2.1.1 (by have:=ha.2.1.2;omega) hes;refine⟨_,vc F 1,_,rfl,g.se,vc cw 2,?_⟩;rw[l3,ek];have he:es[k]? =some es[k]:=ag hkl;have hem:=aY hkl;have hxl:k<g.xs.length:=by rw[w.lx];exact hkl
  have m:g.xs[k]? =some g.xs[k]:=ag hxl;generalize es[k]=e at he hem;generalize g.xs[k]=y at m;obtain⟨ae,hae,hve⟩:=C.e he;obtain⟨ax,hax,hvx⟩:=C.x m;have q:=C.ws.wo.ew e hem;have x:=C.xw k e y he m;have cx:=C.ws.xc m;have hlen:=q.len;refine⟨by omega,_,rfl,g.se,vc cw 2,⟨by omega,by omega⟩,ae,hae,_,hve,_,rfl,g.sx,vc cw 3,⟨by omega,by omega⟩,ax,hax,_,hvx,_,vc F 0,by decide,?_⟩
  refine CondP.intro (fun _=>?_) fun _=>CondP.intro (fun _=>?_) fun _=>CondP.intro (fun h5=>?_) fun _=>CondP.intro (fun _=>?_) fun _=>?_
  ·exact⟨_,vc B 0,_,vc B 0,T4 C hn he m B nb hk⟩
  ·
   refine⟨_,rfl,_,ga cx 0 0,_,ga cx 0 1,_,ga cx 0 2,_,ga cx 0 3,y.ru.2.2.2.2,ga cx 0 4,RY (r:=y.ru) fun h420 b420 k420=>?_⟩
   have N:=C.up0 k420;have z420:=aL b420;cases hl:e.lv with
   |false=>
    refine TW (q.ed.upd k420 id) (hl▸q.tk.upd k420 id) fun h422 k422=>vY (t:=yF) fun X b424 v=>?_
    have J:=N.up0 (k422.tr v);refine⟨_,rfl,_,vc J.ws.cw 5,PY J.ws m (by rw[x.1,hl];rfl) (Join.plain (aj.2 ?_))⟩;exact hk X ⟨g,zs,es,ao _,fun _ h=>h,J.mono (gI _) hn⟩
   |true=>
    obtain⟨j,ids2,hj⟩:∃j ids2,g.ids++ [e.ti]=j::ids2:=by
     cases hi:g.ids with
     |nil=>exact⟨_,_,rfl⟩
     |cons a b=>exact⟨_,_,rfl⟩
    refine Y6 N.ws.wo he hl hj fun h422 tb' w422 G i422=>vY (t:=e.tu) fun X b424 v=>?_
    have O:=(N.ws.ed w422 G).up0 v;have hids:g.ids.length≤4:=by have:=w.ws.wo.rm;omega
    have hlv:g.lv[y.k]? =some true:=by rw[x.2.2.2,hl]
    have hlk:y.k<g.lv.length:=(aG.1 hlv).1;refine⟨_,rfl,_,vc O.cw 5,PX O m (by rw[x.1,hl];rfl) x.2.2.1 hlv hj (by omega) fun h428 s1' s2' s3' r428 I=>Join.plain (aA.2 ?_)⟩
    have o:=I.get b424 ((N.ws.ed w422 G).wo.w0 (ao _));have mm:=(G.1.up0 v).tr I;have T:=mm.get b420 (C.ws.wo.w0 (ao _));have kl:∀{i:Nat} {b:Xd},g.xs[i]? =some b→b.k<g.is.length:=fun{i b} hb=>by
     have hli:=(aG.1 hb).1;rw[w.lx]at hli;exact(aG.1 (w.xw i es[i] b (ag hli) hb).2.2.1).1
    have wd:=N.set hn he m (e':={e with tb:=tb',ti:=j,lv:=true,S:=No}) (y':={y with k:=g.is.length}) (s1:=s1') (s2:=s2') (s3:=s3') (r428.mono (gI _)) mm rfl rfl ⟨by show y.fz=_;rw[x.1,hl],(N.xw k e y he m).2.1.mv mm,by show(g.is++ [j])[g.is.length]? =_;simp,by show(g.lv.set y.k false++ [true])[g.is.length]? =_;rw[←sz.2.2.2.2.1];simp⟩ ⟨by rw[ad,aF];omega,by rw[ad,ad,cQ,aF,aF];omega⟩ (fun i b hik hb=>by
     have h1:=kl hb
     have h2:=w.xk i k b y hb m hik
     refine⟨by rw[bK h1],?_⟩
     rw[bK (by rw[cQ];omega),fj (Ne.symm h2)]) (.inr (ao _))
    refine⟨_,vc o 0,_,vc o 1,_,vc o 2,_,vc o 3,_,vc o 4,_,vc o 5,_,vc T 0,_,vc T 1,_,vc T 2,_,vc T 3,y.ru.2.2.2.2,vc T 4,?_⟩;refine wd.left (frz:=bE a.1 9=5) (es0:=es) (z:=(e.tu,y.ru,e.lu)) (by omega) ⟨(i422.upd0 v).mv I,(N.xw k e y he m).2.1.mv mm,q.up,q.fit,by show e.lu.length≤n+1;omega⟩ (by rw[cQ];exact ao _) (fun _=>Hu (e':={e with tb:=tb',ti:=j,lv:=true,S:=No}) rfl) fun h' hd=>?_
    exact hk h' hd
  ·
   have h5:bE a.1 9=5:=by simpa using h5
   cases hl:e.lv with
   |false=>
    refine Fs q.ed (hl▸q.tk) fun h422 k422=>vY (t:=yF) fun X b424 v=>?_
    have J:=C.up0 (k422.tr v);refine⟨_,rfl,_,vc J.ws.cw 5,LR J.ws m (by rw[x.1,hl];rfl) (Join.plain (aj.2 ?_))⟩;exact hk X ⟨g,zs,es,ao _,fun _ h=>h,J.mono (gI _) hn⟩
   |true=>
    refine UT C.ws.wo he hl fun h422 w422 G i422=>vY (t:=e.tu) fun X b424 v=>?_
    have O:=(C.ws.ed w422 G).up0 v;have hids:g.ids.length≤4:=by have:=w.ws.wo.rm;omega
    have hlv:g.lv[y.k]? =some true:=by rw[x.2.2.2,hl]
    have hlk:y.k<g.lv.length:=(aG.1 hlv).1;refine⟨_,rfl,_,vc O.cw 5,LS O m (by rw[x.1,hl];rfl) x.2.2.1 hlv (by omega) fun h428 s1' r428 I=>Join.plain (aA.2 ?_)⟩
    have o:=I.get b424 ((C.ws.ed w422 G).wo.w0 (ao _));have mm:=(G.1.up0 v).tr I;have wd:=C.set hn he m (e':={e with lv:=false,S:=No}) (y':={y with fz:=true}) (s1:=s1') (s2:=g.s2) (s3:=g.s3) (r428.mono (gI _)) mm rfl rfl ⟨rfl,x.2.1.mv mm,x.2.2.1,by show(g.lv.set y.k false)[y.k]? =_;rw[f7 hlk]⟩ ⟨by omega,by rw[cQ];omega⟩ (fun i b hik hb=>⟨rfl,by rw[fj (Ne.symm (w.xk i k b y hb m hik))]⟩) (.inl rfl)
    have H:=wd.ws.xc (i:=k) (y:={y with fz:=true}) (by show(g.xs.set k _)[k]? =_;rw[f7 hxl]);refine⟨_,vc o 0,_,vc o 1,_,vc o 2,_,vc o 3,_,vc o 4,_,vc o 5,_,rfl,_,ga H 0 0,_,ga H 0 1,_,ga H 0 2,_,ga H 0 3,y.ru.2.2.2.2,ga H 0 4,?_⟩;refine wd.left (frz:=bE a.1 9=5) (es0:=es) (z:=(e.tu,y.ru,e.lu)) (by omega) ⟨(i422.upd0 v).mv I,x.2.1.mv mm,q.up,q.fit,by show e.lu.length≤n+1;omega⟩ (by rw[cQ];exact ao _) (fun h=>absurd h5 h) fun h' hd=>?_
    exact hk h' hd
  ·refine⟨_,vc B 0,Wz q (by omega) p.1 fun h472 k472=>?_⟩
   have p472:=k472.get0 B;have cx472:=k472.get0 cx;obtain⟨s,er,hsl,_⟩:=x.2.1;have es4:y.ru.2.2.2.2=s:=by rw[er]
   refine⟨_,rfl,y.ru.2.2.2.2,ga cx472 0 4,_,vc p472 0,?_⟩;rw[es4];refine Vy (hsl.upd k472 fun _ h=>h.elim) q.up q.fit (by omega) p.1 ?_
   rw[beq_self_eq_true,beq_self_eq_true];exact aA.2 (hk h472 ⟨g,zs,es,ao _,fun _ h=>h,(C.up0 k472).mono (gI _) hn⟩)
  ·exact⟨_,vc B 0,_,vc B 1,_,vc B 0,_,vc B 1,WE C hn he m B nb hp1 hk⟩
end
end Go.Proofs
namespace Go.Proofs
open Go Go.Lift
section
variable {c:WC} {n:Nat} {h0 h h':af} {g:WG} {zs:List Vr} {es:List Ed}
set_option maxRecDepth 100000 in
set_option maxHeartbeats 4000000 in
theorem UX(w:Wd c n h0 h g zs es)(tab:Tab h){K:Bool→af→Prop}(hk:∀h',Upd No h h'→K true h'):HC PG rh [.pointer (pA c.wb)] [.c .bool] K h:=by
 refine EO _ ?_;unfold xi bH cS aq bo nv bD aQ uO rF yM gO ci eH Lw aK dZ;have sz:=w.sz;obtain⟨l1,l2,l3,l4,l5,l6,l7⟩:=w.rows;have cw:=w.ws.cw;refine⟨_,rfl,g.sl,vc cw 0,?_⟩;refine LoopP.ghost (fun(i:Nat) (t':Int) h'=>t'=(i:Int)∧i≤zs.length∧Upd No h h') (fun i=>zs.length-i) 0 ⟨rfl,bj _,Upd.refl _ _⟩ ?_
 rintro I i _ h5 ⟨rfl,hil,k5⟩ hI;have w5:=w.up0 k5;have S:=k5.get0 cw;refine aM (fun A=>?_) fun hge=>?_
 ·have A:i<zs.length:=by omega
  have hz:zs[i]? =some zs[i]:=ag A;have hzm:=aY A;generalize zs[i]=z at hz hzm;obtain⟨at_,hat,E⟩:=w5.t hz;obtain⟨ar,har,M⟩:=w5.r hz;have v:=w5.zw z hzm;have hlz:=v.2.2.2.2;refine⟨_,rfl,g.sl,vc S 0,⟨by omega,by omega⟩,at_,hat,_,E 0 _ rfl,_,E 1 _ rfl,_,E 2 _ rfl,_,E 3 _ rfl,_,E 4 _ rfl,_,E 5 _ rfl,_,rfl,g.sm,vc S 1,⟨by omega,by omega⟩,ar,har,_,M 0 _ rfl,_,M 1 _ rfl,_,M 2 _ rfl,_,M 3 _ rfl,z.2.1.2.2.2.2,M 4 _ rfl,?_⟩
  refine KB (tab.upd k5 id) v.1 v.2.1 v.2.2.1 v.2.2.2.1 (by omega) fun h24 k24=>?_
  have cw24:=k24.get0 S;refine⟨vc cw24 1,vc cw24 0,aj.2 ?_⟩;rw[show IntKind.wrap .i64 ((i:Int)+1)=((i+1:Nat):Int) by rw[jj (by omega)];omega]
  exact hI (i+1) _ _ ⟨rfl,by omega,k5.tr k24⟩ (by omega)
 refine⟨_,rfl,g.se,vc S 2,?_⟩;refine LoopP.ghost (fun(i:Nat) (t':Int) h'=>t'=(i:Int)∧i≤es.length∧Upd No h h') (fun i=>es.length-i) 0 ⟨rfl,bj _,k5⟩ ?_
 rintro I2 i _ h29 ⟨rfl,hil,P⟩ hI2;refine aM (fun A=>?_) fun hge=>hk h29 P
 have A:i<es.length:=by omega
 have he:es[i]? =some es[i]:=ag A;have G:=aY A;have hxl:i<g.xs.length:=by rw[w.lx];exact A
 have hy:g.xs[i]? =some g.xs[i]:=ag hxl;generalize es[i]=e at he G;generalize g.xs[i]=y at hy;obtain⟨ae,hae,hve⟩:=w.e he;obtain⟨ax,D,f⟩:=w.x hy;have cx:=w.ws.xc hy;have x:=w.xw i e y he hy;obtain⟨s,er,hsl,_⟩:=id x.2.1;have es4:y.ru.2.2.2.2=s:=by rw[er]
 have hsll:=hsl.len;have cr:h[c.rb]? =some (.cells (M2 c.N g.s1 g.s2 g.s3).toArray gb (0,0)):=w.ws.own.get (i:=1) rfl;have o3:OwnS i1 1 gJ (sb g.s3) h g.s3 g.is:=w.ws.own.get (i:=8) rfl;have hkl:y.k<g.is.length:=(aG.1 x.2.2.1).1;obtain⟨ai,hai,_,Q⟩:=(o3.sl (W:=No) fun _ _ _ h=>h).at0 (i:=y.k) (x:=e.ti) x.2.2.1
 have q29:=(w.up0 P).ws.wo.ew e G;have hlen:=q29.len;have bi:(0:Int)≤(i:Int)∧(i:Int)<(g.se.len:Int):=by omega
 have bx:(0:Int)≤(i:Int)∧(i:Int)<(g.sx.len:Int):=by omega
 refine⟨bi,ae,hae,_,P.cell0 hve,QA (W':=No) q29 (by omega) (fun _ h=>h.elim) fun s' h33 hs' k33=>?_⟩
 have B:=P.tr k33;refine On ((w.up0 B).ws.wo.ew e G) fun h35 k35=>vY (t:=if e.lv then yF else e.tu) fun h37 b37 k37=>?_
 have q:=B.tr (k35.tr k37);have T:=q.get0 cw;have Z:=q.get0 cx;have Y:=hs'.len;refine Join.intro (fun t' h'=>t'=false∧Upd No h37 h') (fun R hR=>?_) ?_
 ·refine⟨_,rfl,g.sx,vc T 3,bx,ax,D,_,q.cell0 f,_,rfl,y.ru.2.2.2.2,ga Z 0 4,CondP.intro (fun hc=>?_) fun _=>?_⟩
  ·rw[es4]at hc;simp[Y,hsll]at hc
  refine Wy ((w.up0 q).ws.wo.ew e G) (by omega) fun h46 F=>?_
  have a:=q.tr F;have k:=F.get0 T;have d:=F.get0 Z;refine⟨ga d 0 4,a.cell0 f,vc k 3,CondP.intro (fun hc=>?_) fun _=>?_⟩
  ·simp[Y]at hc
  have H:=(w.up0 a).ws.wo.ew e G;refine⟨_,rfl,g.sx,vc k 3,bx,ax,D,_,a.cell0 f,_,rfl,y.fz,vc d 6,zm H.ed H.tk ?_⟩;refine⟨vc d 6,a.cell0 f,vc k 3,ga d 0 4,a.cell0 f,vc k 3,?_⟩;rw[show(!((!e.lv)==y.fz))=false by rw[x.1];simp]
  refine aj.2 ⟨_,rfl,g.sx,vc k 3,bx,ax,D,_,a.cell0 f,_,rfl,y.fz,vc d 6,?_⟩;rw[show(!((!e.lv)==y.fz))=false by rw[x.1];simp]
  have J:=a.get0 cr;have bk:(0:Int)≤(y.k:Int)∧(y.k:Int)<(g.s3.len:Int):=by omega
  refine aj.2 (CondP.intro (fun hl=>?_) fun hl=>?_)
  ·have hl:e.lv=false:=by simpa using hl
   have C:=F.get0 b37;rw[hl]at C;refine⟨_,vc C 0,_,vc C 1,_,vc C 2,_,vc C 3,_,vc C 4,_,vc C 5,_,rfl,g.sx,vc k 3,bx,ax,D,_,a.cell0 f,_,rfl,_,ga d 0 0,_,ga d 0 1,_,ga d 0 2,_,ga d 0 3,y.ru.2.2.2.2,ga d 0 4,?_⟩;refine KB (tab.upd a id) H.is (x.2.1.upd0 a) H.up H.fit (by omega) fun h78 L=>?_
   have b:=a.tr L;have m:=L.get0 k;have u:=L.get0 d;have cr78:=L.get0 J;refine⟨b.cell0 f,vc m 3,vc u 6,b.cell0 f,vc m 3,vc u 6,b.cell0 f,vc m 3,ga u 0 4,b.cell0 f,vc m 3,aj.2 ⟨_,rfl,_,vc m 5,_,rfl,g.s3,vc cr78 3,_,rfl,g.sx,vc m 3,bx,ax,D,_,b.cell0 f,_,rfl,_,vc u 5,bk,ai,hai,_,b.cell0 Q,Sr ((w.up0 b).ws.wo.ew e G) ?_⟩⟩
   refine⟨b.cell0 Q,vc u 5,b.cell0 f,vc m 3,vc cr78 3,vc m 5,b.cell0 f,vc m 3,vc u 6,b.cell0 f,vc m 3,vc u 6,b.cell0 f,vc m 3,ga u 0 4,b.cell0 f,vc m 3,hR _ _ ⟨by simp,F.tr L⟩⟩
  ·refine⟨_,rfl,_,vc k 5,_,rfl,g.s3,vc J 3,_,rfl,g.sx,vc k 3,bx,ax,D,_,a.cell0 f,_,rfl,_,vc d 5,bk,ai,hai,_,a.cell0 Q,Sr H ?_⟩
   refine⟨a.cell0 Q,vc d 5,a.cell0 f,vc k 3,vc J 3,vc k 5,vc d 6,a.cell0 f,vc k 3,vc d 6,a.cell0 f,vc k 3,ga d 0 4,a.cell0 f,vc k 3,hR _ _ ⟨by simp,F⟩⟩
 rintro _ h108 ⟨rfl,V⟩;have k0_108:=q.tr V;have O:=k35.tr (k37.tr V);refine aj.2 ?_;refine LoopP.ghost (fun(j:Nat) (t':Int) h'=>t'=(j:Int)∧j≤e.lu.length∧Upd No h33 h') (fun j=>e.lu.length-j) 0 ⟨rfl,bj _,O⟩ ?_
 rintro I3 j _ h111 ⟨rfl,hjl,N⟩ hI3;have o:=B.tr N;refine aM (fun X=>?_) fun hge2=>?_
 ·have X:j<e.lu.length:=by omega
  have hj:e.lu[j]? =some e.lu[j]:=ag X;generalize e.lu[j]=p at hj;obtain⟨a1,ha1,_,hv1⟩:=(hs'.upd N fun _ h=>h.elim).at hj
  obtain⟨a2,ha2,_,hv2⟩:=(hsl.upd o fun _ h=>h.elim).at hj
  have cw111:=o.get0 cw;have cx111:=o.get0 cx;refine⟨⟨by omega,by omega⟩,a1,ha1,_,hv1 0 _ rfl,_,hv1 1 _ rfl,_,rfl,g.sx,vc cw111 3,bx,ax,D,_,o.cell0 f,_,rfl,y.ru.2.2.2.2,ga cx111 0 4,?_⟩
  rw[es4];refine⟨⟨by omega,by omega⟩,a2,ha2,_,hv2 0 _ rfl,_,hv2 1 _ rfl,?_⟩
  rw[beq_self_eq_true,beq_self_eq_true];refine aj.2 ?_;rw[show IntKind.wrap .i64 ((j:Int)+1)=((j+1:Nat):Int) by rw[jj (by omega)];omega]
  exact hI3 (j+1) _ _ ⟨rfl,by omega,N.tr (Upd.refl _ _)⟩ (by omega)
 ·rw[show IntKind.wrap .i64 ((i:Int)+1)=((i+1:Nat):Int) by rw[jj (by omega)];omega]
  exact hI2 (i+1) _ _ ⟨rfl,by omega,o⟩ (by omega)
end
end Go.Proofs
namespace Go.Proofs
open Go Go.Lift
abbrev Ie(a:Xl):List Value:= [.int .u8 a.1,.int .u8 a.2.1,.int .u8 a.2.2.1,.string a.2.2.2.1,.string a.2.2.2.2.1,.int .u16 a.2.2.2.2.2]
abbrev aas:Xl:=(0,0,0,⟨#[]⟩,⟨#[]⟩,0)
theorem ZG{h:af}{t:TypeId}{a:Xl}{k:af→Prop}(f:∀h',h'[h.size]? =some (.cells (Ie a).toArray t (0,0))→Upd No h h'→k h'):
  At (hnew h (Ie aas) t) fun d=>vo d (some (aI h)) 0 (Ie a)∧At (g8 d (aI h) 0 (Ie a)) k:=
 aN fun _ b1 k1=>cW (c:=Ie aas) (vs:=Ie a) b1 rfl fun g b2 b=>f g b2 (k1.own b (ao _))
theorem Made.wd{d h f:af}{kk:Int}{x:Hs}{n:Nat}{t:Tr}{r:Rt}{wb b1 b2 pb cb rb:Nat}{s1:SliceV}(md:Made h f kk x n t r wb b1 b2 pb cb rb s1)(k:Upd No d h)(o:n≤4):∃c g,c.wb=wb∧g.ids=PJ n∧Wd c 0 d f g [(t,r,[])] []:=by
 obtain⟨N,v⟩:=md.ws;obtain⟨ws,it,q,mv⟩:=v _ rfl;refine⟨WC.mk wb rb pb cb n N kk x,g0 b1 b2 s1 t r n,rfl,rfl,ws,rfl,rfl,rfl,rfl,rfl,fun i e y s=>by(simp at s),fun i j a b m=>by(simp[g0]at m),fun z hz=>?_,?_,(Mv.of0 k).tr mv⟩
 ·rw[List.mem_singleton.1 hz]
  exact⟨it,q,fc,fun p u=>by(cases u),ao _⟩
 ·exact⟨Nat.zero_lt_one,ao _,ao _,ao _,rfl,o,by omega⟩
set_option maxRecDepth 100000 in
set_option maxHeartbeats 2000000 in
theorem Mh{h:af}{k j:Int}{x:Hs}{s:SliceV}{l:List Xl}(B:Tab h)(P:Sl Ie 6 No h s l)(T:l.length≤9223372036854775807)(hb:∀a∈l,UD a)(C:0≤k)(E:k≤255)(L:0≤j)(hn1:j≤255):
  HC PG yk [.int .u8 k,.agg #[.int .u64 x.k0,.int .u64 x.k1,.int .u64 x.mask],.int .u8 j,.slice s.a s.len s.cap] [.c .bool] (fun b z=>b=true∧Upd No h z) h:=by
 refine F9 k (x.k0,x.k1,x.mask) j s ?_;unfold yA bH cS aq RO oy bo aD nv CC yg zl1 vl1 abj;have y:=aaR C E;generalize e0:IntKind.wrap .i64 (bE k 2)=kk at y;have hc:∃m:Nat,IntKind.wrap .i64 (1+IntKind.wrap .i64 (bE j 4))=(m:Int)∧1≤m∧m≤4:=by
  refine⟨(1+j%4).toNat,?_,by omega,by omega⟩
  rw[fO L,jj (x:=j%4) (by omega),jj (by omega)];omega
 obtain⟨m,X,D,v⟩:=hc;refine aN fun h1 b1 k1=>QO fun h3 N=>aj.2 ?_
 have F:=N.get0 b1;refine⟨_,vc F 0,_,vc F 1,_,vc F 2,TM (x:=x) y e0 X D v fun h8 t r wb b1' Y pb cb rb s1 md=>?_⟩
 obtain⟨c,g,ew,_,wd⟩:=md.wd (k1.tr N) v;subst ew;have S:=P.len;refine Join.intro (fun _ z=>∃n g u es,Wd c n h z g u es) (fun R Q=>?_) ?_
 ·refine LoopP.ghost (fun(q:Nat×WG×List Vr×List Ed) (t':Int) z=>t'=(q.1:Int)∧q.1≤l.length∧Wd c (min q.1 35) h z q.2.1 q.2.2.1 q.2.2.2) (fun q=>l.length-q.1) (0,g,[(t,r,[])],[]) ⟨rfl,bj _,wd⟩ ?_
  rintro I ⟨i,g,u,es⟩ _ Z ⟨rfl,M,w⟩ O;simp only at M w O⊢;refine aM (fun f=>?_) fun _=>Q _ _ ⟨_,g,u,es,w⟩
  have f:i<l.length:=by omega
  obtain⟨a,J,_,hv⟩:=(P.upd w.mv.1 fun _ h=>h.elim).at (ag f)
  have o:=hb l[i] (aY f);generalize l[i]=ac at hv o;refine⟨⟨by omega,by omega⟩,a,J,_,hv 0 _ rfl,_,hv 1 _ rfl,_,hv 2 _ rfl,_,hv 3 _ rfl,_,hv 4 _ rfl,_,hv 5 _ rfl,ZG (a:=ac) fun V d p=>?_⟩
  refine aM (fun _=>Q _ _ ⟨_,g,u,es,w.up0 p⟩) fun K=>?_
  have K:i<35:=by omega
  refine⟨_,vc d 0,_,vc d 1,_,vc d 2,_,vc d 3,_,vc d 4,_,vc d 5,Y9 (w.up0 p) (by omega) ac o fun h29 hd=>aj.2 ?_⟩
  obtain⟨g',A,G,_,_,w'⟩:=hd;rw[Bb f T];refine O (i+1,g',A,G) _ _ ⟨rfl,by omega,?_⟩ (by show l.length-(i+1)<l.length-i;omega)
  rw[show min (i+1) 35=min i 35+1 by omega]
  exact w'
 ·rintro _ h31 ⟨n,g,u,es,w⟩
  exact UX w (B.upd w.mv.1 id) fun W H=>⟨rfl,(w.mv.up0 H).1⟩
end Go.Proofs
