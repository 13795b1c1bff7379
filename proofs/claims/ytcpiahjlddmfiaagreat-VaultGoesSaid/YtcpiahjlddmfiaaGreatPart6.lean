/- A part of the proof that the named laws of this program answer true, whatever the input. -/
import Derived.Test.YtcpiahjlddmfiaaGreatPart5
open Int renaming tmod→cC
open List renaming length_map→fP,mem_cons_self→aq
open List.Pairwise renaming nil→dV
open Nat renaming zero_le→bB,le_refl→ar
namespace Go.Proofs
open Go Go.Lift
theorem Vw.nil{W:Nat→Prop}{h:ac}{a:Nat}{s:VS}(v:VaultAt W h a s):Vw [] h a s:=
 ⟨Own.nil,v.re (Upd.refl No h) (fun _ h=>h.elim) (fun y c=>c.elim (fun e=>⟨.inl (v.w y e),v.g.lt _ (v.w y e)⟩) fun⟨_,h,_⟩=>by cases h) fun _=>.inl,fun _ ⟨_,h,_⟩=>by cases h⟩
theorem I5(t:Tr):(j2 t).length=6∧0<6:=⟨rfl,by omega⟩
def iL(n:Nat):List Int:=(List.range n).map fun(i:Nat)=>(i:Int)+1
theorem FZ(n:Nat):(iL n).length=n:=by simp[iL]
theorem sh{n j:Nat}(h:j<n):(iL n)[j]? =some ((j:Int)+1):=by simp[iL,h]
theorem Hn(n:Nat):iL (n+1)=iL n++ [(n:Int)+1]:=by simp[iL,List.range_succ]
def sG(s:VS)(n:Nat)(D:List (Int×TD))(hd:Int):VS:={s with L:=cL n,nx:=(n:Int)+1,D:=D,B:= [(j8,hd),(pN,0)]}
theorem H9(s:VS){n:Nat}(a:n<16)(D:List (Int×TD))(d:TD):vZ (sG s n D n) j8 d (nz [(n:Int)])=(((n:Int)+1,0),sG s (n+1) (ic D ((n:Int)+1) d) ((n+1:Nat):Int)):=by
 have e:=II ⟨n,a⟩;simp only at e;unfold vZ;rw[show(sG s n D n).L=cL n from rfl,show(sG s n D n).nx=(n:Int)+1 from rfl,e]
 rfl
theorem Fi(s:VS){n j:Nat}(e:n<17)(f:j<n)(D:List (Int×TD))(d:TD):∃S:VS,vZ (sG s n D ((j:Int)+1)) j8 d (nz [(j:Int)+1])=(((n:Int)+1,0),S)∧S.M=s.M∧S.D=ic D ((n:Int)+1) d∧(bP S.L ((n:Int)+1)).getD []= [(j:Int)+1]∧S.B= [(j8,(n:Int)+1),(pN,0)]∧S.kind=s.kind∧S.x=s.x:=by
 obtain⟨c,a⟩:=Hz ⟨n,e⟩ ⟨j+1,by omega⟩ (by simp) f
 simp only[show((j+1:Nat):Int)=(j:Int)+1 from rfl]at c a
 unfold vZ;rw[show(sG s n D ((j:Int)+1)).L=cL n from rfl,show(sG s n D ((j:Int)+1)).nx=(n:Int)+1 from rfl,c]
 exact⟨_,rfl,rfl,rfl,a,rfl,rfl,rfl⟩
structure Go2(h h':ac)(vp st tb:Nat)(xp:Option Addr)(s:VS)(t:Tr)(s1 s2:SliceV)(xs:List Int)(ts:List Tr):Prop where
 w:Vw [vJ tb (j2 t) aG,kQ u32 1 c5 s1 xs,kQ j2 6 aG s2 ts] h' vp s
 nw:∀y,sb s1 y∨sb s2 y→h.size≤y∧y≠st
 st:h'[st]? =some (.cells #[.pointer (some ⟨vp,0,none⟩),.pointer xp] qf (0,0))
 k:Upd No h h'
section
variable {h h' h2:ac} {vp st tb:Nat} {xp:Option Addr} {s s':VS} {t t':Tr} {s1 s2:SliceV} {xs:List Int} {ts:List Tr}
theorem Go2.up0(g:Go2 h h' vp st tb xp s t s1 s2 xs ts)(k:Upd No h' h2):Go2 h h2 vp st tb xp s t s1 s2 xs ts:=⟨g.w.up0 k,g.nw,k.get0 g.st,g.k.tr k⟩
theorem Go2.b(g:Go2 h h' vp st tb xp s t s1 s2 xs ts):h'[tb]? =some (.cells (j2 t).toArray aG (0,0)):=g.w.own.get (i:=0) rfl
theorem Go2.o1(g:Go2 h h' vp st tb xp s t s1 s2 xs ts):OwnS u32 1 c5 (sb s1) h' s1 xs:=g.w.own.get (i:=1) rfl
theorem Go2.o2(g:Go2 h h' vp st tb xp s t s1 s2 xs ts):OwnS j2 6 aG (sb s2) h' s2 ts:=g.w.own.get (i:=2) rfl
theorem Go2.n1(g:Go2 h h' vp st tb xp s t s1 s2 xs ts){y:Nat}(a:h'.size≤y):¬sb s1 y:=fun e=>by have:=(g.o1.sub y e).2;omega
theorem Go2.set(g:Go2 h h' vp st tb xp s t s1 s2 xs ts)(a:h.size≤tb)(c:st≠tb)(k:Upd (· =tb) h' h2)(b:h2[tb]? =some (.cells (j2 t').toArray aG (0,0))):Go2 h h2 vp st tb xp s t' s1 s2 xs ts:=
 ⟨g.w.cell (i:=0) rfl k b,g.nw,k.oth g.st c,g.k.own k a⟩
theorem Go2.ed(g:Go2 h h' vp st tb xp s t s1 s2 xs ts)(k:Upd s.M h' h2)(v:VaultAt (fun y=>s.M y∨AL [vJ tb (j2 t) aG,kQ u32 1 c5 s1 xs,kQ j2 6 aG s2 ts] y) h2 vp s')(e:s'.M=s.M)(hM:∀y,s.M y→h.size≤y∧st≠y):Go2 h h2 vp st tb xp s' t s1 s2 xs ts:=
 ⟨g.w.ed k v e,g.nw,k.get g.st fun y=>(hM _ y).2 rfl,g.k.fresh k fun y a=>(hM y a).1⟩
theorem Go2.app1(g:Go2 h h' vp st tb xp s t s1 s2 xs ts){b:Nat}{n:Int}(j:h'[b]? =some (.cells (u32 n).toArray c5 (0,0))) (k:xs.length+1≤1000000) {K:SliceV→ac→Prop} (d:∀n1 h2,Go2 h h2 vp st tb xp s t n1 s2 (xs++ [n]) ts→Upd (sb s1) h' h2→K n1 h2):
  ∃ys,SRow h' (some ⟨b,0,none⟩) (1*1) ys∧AppP (some [.int .u32 0]) 1 4 c5 s1.a s1.len s1.cap 1 ys h' K:=
 Gs (f:=u32) (t:=n) (so:=s1) g.o1 j rfl rfl ⟨by omega,by omega⟩ k fun n1 h2 o u c=>d n1 h2 ⟨g.w.slice (i:=1) rfl u o c,fun y a=>by
  have:=g.k.size
  have:=bG g.st
  rcases a with a|a
  ·rcases(c y a).1 with e|e
   ·exact g.nw y (.inl e)
   ·omega
  ·exact g.nw y (.inr a),u.get g.st fun e=>(g.nw _ (.inl e)).2 rfl,g.k.fresh u fun y a=>(g.nw y (.inl a)).1⟩ u
theorem Go2.app2(g:Go2 h h' vp st tb xp s t s1 s2 xs ts){b:Nat}{n:Tr}(j:h'[b]? =some (.cells (j2 n).toArray aG (0,0))) (k:ts.length+1≤1000000) {K:SliceV→ac→Prop} (d:∀n2 h2,Go2 h h2 vp st tb xp s t s1 n2 xs (ts++ [n])→K n2 h2):
  ∃ys,SRow h' (some ⟨b,0,none⟩) (1*6) ys∧AppP (some (j2 w7)) 6 48 aG s2.a s2.len s2.cap 1 ys h' K:=
 Gs (f:=j2) (t:=n) (so:=s2) g.o2 j rfl rfl ⟨by omega,by omega⟩ k fun n1 h2 o u c=>d n1 h2 ⟨g.w.slice (i:=2) rfl u o c,fun y a=>by
  have:=g.k.size
  have:=bG g.st
  rcases a with a|a
  ·exact g.nw y (.inl a)
  ·rcases(c y a).1 with e|e
   ·exact g.nw y (.inr e)
   ·omega,u.get g.st fun e=>(g.nw _ (.inr e)).2 rfl,g.k.fresh u fun y a=>(g.nw y (.inr a)).1⟩
end
structure GoI(h h':ac)(vp st tb:Nat)(xp:Option Addr)(s:VS)(ds:List TD)(D:List (Int×TD))(c:TD)(s1 s2:SliceV):Prop where
 q:Go2 h h' vp st tb xp (sG s ds.length D ds.length) c.1 s1 s2 (iL ds.length) (ds.map (·.1))
 cu:c=(s.e,[])∨bP D (ds.length:Int)=some c
 few:Few ds.length c.2
 fw:∀d∈ds,d.2.length≤30
 look:∀j (hj:j<ds.length),bP D ((j:Int)+1)=some ds[j]
 n:ds.length≤15
section
variable {h h' h2:ac} {vp st tb:Nat} {xp:Option Addr} {s:VS} {ds:List TD} {D:List (Int×TD)} {c:TD} {s1 s2:SliceV}
theorem GoI.up0(g:GoI h h' vp st tb xp s ds D c s1 s2)(k:Upd No h' h2):GoI h h2 vp st tb xp s ds D c s1 s2:=⟨g.q.up0 k,g.cu,g.few,g.fw,g.look,g.n⟩
theorem GoI.cur(g:GoI h h' vp st tb xp s ds D c s1 s2):TreeIs (fun y=>(sG s ds.length D ds.length).M y∨AL [vJ tb (j2 c.1) aG,kQ u32 1 c5 s1 (iL ds.length),kQ j2 6 aG s2 (ds.map (·.1))] y) h' s.kind s.x c.1 c.2:=by
 rcases g.cu with e|e
 ·have:=g.q.w.v.em
  rw[show c.1=s.e by rw[e],show c.2= [] by rw[e]];rw[show c.1=s.e by rw[e]]at this;exact this
 ·exact(g.q.w.v.ts _ (tH e)).1
theorem GoI.lenD(g:GoI h h' vp st tb xp s ds D c s1 s2):s1.len=ds.length∧s2.len=ds.length:=⟨by rw[g.q.o1.len,FZ],by rw[g.q.o2.len,fP]⟩
theorem GoI.grow{m:ac}{d:TD}{n1 i:SliceV}(g:GoI h m vp st tb xp s ds D c s1 s2)(n:ds.length<15)(hd:Few (ds.length+1) d.2)(q:Go2 h h' vp st tb xp (sG s (ds.length+1) (ic D ((ds.length:Int)+1) d) ((ds.length+1:Nat):Int)) d.1 n1 i (iL ds.length++ [(ds.length:Int)+1]) (ds.map (·.1)++ [d.1])):
  GoI h h' vp st tb xp s (ds++ [d]) (ic D ((ds.length:Int)+1) d) d n1 i:=by
 have f:(ds++ [d]).length=ds.length+1:=by simp
 refine⟨?_,.inr ?_,by rw[f];exact hd,fun q a=>?_,fun j k=>?_,by rw[f];omega⟩
 ·rw[f,Hn,List.map_append];exact q
 ·rw[f,oY,if_pos (by omega)]
 ·rcases List.mem_append.1 a with a|a
  ·exact g.fw q a
  ·rw[List.mem_singleton.1 a];have:=hd.len;omega
 ·rw[oY]
  by_cases e:j=ds.length
  ·subst e;rw[if_pos rfl];simp
  ·rw[f]at k
   rw[if_neg (by omega),g.look j (by omega),List.getElem_append_left (by omega)]
end
set_option maxHeartbeats 4000000 in
theorem zD{h:ac}{k b:Int}{x:Hs}{sl:SliceV}{l:List Pr}(hs:Sl jq 2 No h sl l)(hl:l.length≤9223372036854775807)(hk0:0≤k)(hk1:k≤255)(hb0:0≤b)(hb1:b≤255):
  HC PG pO [.int .u8 k,.agg #[.int .u64 x.k0,.int .u64 x.k1,.int .u64 x.mask],.slice sl.a sl.len sl.cap,.int .u8 b] [.c .bool] (fun b h'=>b=true∧Upd No h h') h:=by
 refine wx k (x.k0,x.k1,x.mask) sl b ?_;unfold p5 bA fc av ad dw af eH aB gw nv y2 zC rh qn wZ GO uu wC uw wY rF Eo AP;have hkk:=Ji hk0 hk1;generalize IntKind.wrap .i64 (cC k 2)=kind at hkk;refine bO fun h1 b1 k1=>C5 fun h3 k3=>ak.2 ⟨by decide,?_⟩
 have c3:=k3.get0 b1;refine⟨_,vc c3 0,_,vc c3 1,_,vc c3 2,?_⟩;refine Es (x:=x) hkk fun h8 vp gp gm tm bm nm e st xp v8 b8 zv nv zM k8=>?_
 have kM:∀y,y=bm→h.size≤y:=fun y f=>by have:=(zM y (.inr (.inr (.inr (.inl f))))).1;have:=(k1.tr k3).size;omega
 have nst:∀y,VS.M ⟨gp,gm,tm,bm,nm,kind,x,e,[],1,[],[],[]⟩ y→st≠y:=fun y f=>by have:=(zM y f).2;omega
 refine Join.plain (ak.2 ⟨_,rfl,_,vc b8 0,pl v8 j8 0 fun h13 u13 v13=>?_⟩)
 have e1:sC [] [] j8 0 false=0:=by decide
 simp only[e1,if_true]at v13⊢;have b13:=u13.get b8 fun e=>nst bm (.inr (.inr (.inr (.inl rfl)))) e
 refine ak.2 ⟨_,rfl,_,vc b13 0,pl v13 pN 0 fun h17 u17 v17=>?_⟩
 have e2:sC (ic [] j8 0) [] pN 0 false=0:=by decide
 simp only[e2,if_true]at v17⊢;have b17:=u17.get b13 fun e=>nst bm (.inr (.inr (.inr (.inl rfl)))) e
 have k17:Upd No h h17:=(((k1.tr k3).tr k8).fresh u13 kM).fresh u17 kM;refine ak.2 ⟨_,rfl,_,vc b17 0,yO v17 fun z k23=>?_⟩
 refine bO fun h24 b24 k24=>ei (c:=j2 w7) (vs:=j2 e) b24 rfl fun h25 b25 hu25=>?_
 have O:Upd No h17 h25:=(k23.tr k24).own hu25 k23.size;have w0:Vw [] h17 vp ⟨gp,gm,tm,bm,nm,kind,x,e,[],1,[],[(j8,0),(pN,0)],[]⟩:=Vw.nil v17;have z23:=k23.size;have zst:=bG b17;have w1:=w0.push (p':=vJ z.size (j2 e) aG) O b25 fun y f=>by have f:y=z.size:=f;rw[f];exact⟨z23,bG b25⟩
 have w2:=w1.push (p':=kQ u32 1 c5 ⟨none,0,0⟩ []) (Upd.refl _ _) (OwnS.nil j1) fun y f=>absurd f (zJ y)
 have w3:=w2.push (p':=kQ j2 6 aG ⟨none,0,0⟩ []) (Upd.refl _ _) (OwnS.nil I5) fun y f=>absurd f (zJ y)
 generalize hsv:(⟨gp,gm,tm,bm,nm,kind,x,e,[],1,[],[(j8,0),(pN,0)],[]⟩:VS)=s at w3;have hse:s.e=e:=by rw[←hsv]
 have hsx:s.kind=kind∧s.x=x:=by rw[←hsv];exact⟨rfl,rfl⟩
 have hsG:s=sG s 0 [] 0:=by rw[←hsv];rfl
 have nM:∀y,s.M y→h.size≤y∧y≠st∧y≠z.size:=fun y f=>by
  rw[←hsv]at f;have h1:=(k1.tr k3).size;have h2:=zM y f;have h3:=u13.size;have h4:=u17.size;have h5:=bG b8;exact⟨by omega,by omega,by omega⟩
 have nst2:st≠z.size:=by omega
 have z17:=k17.size;have g0:GoI h h25 vp st z.size xp s [] [] (e,[]) ⟨none,0,0⟩ ⟨none,0,0⟩:=⟨⟨hsG▸w3,fun y f=>f.elim (fun e=>absurd e (zJ y)) fun e=>absurd e (zJ y),O.get0 b17,k17.tr O⟩,.inl (by rw[hse]),⟨dV,bB _,fun _ h=>by cases h⟩,(fun _ h=>by cases h),(fun j hj=>by cases hj),by simp⟩
 clear w0 w1 w2 w3 hsG;have hsl:=hs.len;refine Join.intro (fun(t:SliceV×SliceV) h'=>∃ds D c,GoI h h' vp st z.size xp s ds D c t.1 t.2) (fun R hR=>?_) ?_
 ·refine LoopP.ghost (fun(g:List TD×List (Int×TD)×TD×SliceV×SliceV) (t:SliceV×SliceV×Int) h'=>t=(g.2.2.2.1,g.2.2.2.2,(g.1.length:Int))∧g.1.length≤l.length∧GoI h h' vp st z.size xp s g.1 g.2.1 g.2.2.1 g.2.2.2.1 g.2.2.2.2) (fun g=>l.length-g.1.length) ([],[],(e,[]),⟨none,0,0⟩,⟨none,0,0⟩) ⟨rfl,bB _,g0⟩ ?_
  rintro I ⟨ds,D,c,s1,s2⟩ t h29 ⟨rfl,hi,g⟩ hI;simp only at hi g hI⊢;refine aU (fun A=>?_) fun _=>hR _ _ ⟨ds,D,c,g⟩
  have A:ds.length<l.length:=by omega
  obtain⟨a,J,_,H⟩:=(hs.upd g.q.k fun _ h=>h.elim).at (List.getElem?_eq_getElem A)
  refine Join.intro (fun(t:SliceV×SliceV) h'=>∃d D',GoI h h' vp st z.size xp s (ds++ [d]) D' d t.1 t.2) (fun R30 hR30=>⟨⟨by omega,by omega⟩,a,J,l[ds.length].1,H 0 _ rfl,l[ds.length].2,H 1 _ rfl,?_⟩) ?_
  ·refine Jd (p:=l[ds.length]) fun h35 b35 k35=>?_
   refine aU (fun _=>hR _ _ ⟨ds,D,c,g.up0 k35⟩) fun h15=>?_
   have h15:ds.length<15:=by omega
   have g35:=g.up0 k35;have Y:=g35.q.b;refine⟨_,vc Y 0,_,vc Y 1,_,vc Y 2,_,vc Y 3,_,vc Y 4,_,vc Y 5,_,vc b35 0,_,vc b35 1,Gb fun h45 k45=>?_⟩
   have g45:=g35.up0 k45;have t45:=g45.q.b;refine⟨⟨vc t45 0,vc t45 1,vc t45 2,vc t45 3,vc t45 4,vc t45 5⟩,?_⟩;have q1:=xS l[ds.length].1;have q2:=xS l[ds.length].2;refine xe g45.cur g45.q.w.lt g45.few.up (by have:=g45.few.len;omega) (EE l[ds.length]) (by unfold EE;simp only;omega) (by unfold EE;simp only;omega) fun h47 tv i47 _ k47=>?_
   have g47:=g45.up0 k47;have fd:=g.few.ins (EE l[ds.length]) q1 q2;refine ei (c:=j2 c.1) (vs:=j2 tv) g47.q.b rfl fun h48 L u48=>?_
   have q48:=g47.q.set (t':=tv) (by omega) nst2 u48 L;have i48:=i47.re (W':=fun y=>(sG s ds.length D ds.length).M y∨AL [vJ z.size (j2 tv) aG,kQ u32 1 c5 s1 (iL ds.length),kQ j2 6 aG s2 (ds.map (·.1))] y) u48 (fun y f=>.inl (.inr ⟨_,aq,f⟩)) fun y f=>.inl (f.imp id fun⟨a,J,f⟩=>(List.mem_cons.1 J).elim (fun e=>⟨_,aq,by rw[e]at f;exact f⟩) fun e=>⟨a,List.mem_cons_of_mem _ e,f⟩)
   generalize hd:g9 (EE l[ds.length]) c.2=d2 at fd i48;refine⟨_,rfl,_,vc q48.st 0,_,vc L 0,_,vc L 1,_,vc L 2,_,vc L 3,_,vc L 4,_,vc L 5,?_⟩;refine pm q48.w.v j8 (hd:=(ds.length:Int)) rfl (d:=(tv,d2)) i48 fd.up fd.fits fun h58 u58 v58=>?_
   rw[H9 s (by omega) D (tv,d2)]at v58⊢;have N:=q48.ed u58 v58 rfl fun y f=>⟨(nM y f).1,(nM y f).2.1.symm⟩
   have U:=N.b;have cl:(iL ds.length).length+1≤1000000:=by rw[FZ];omega
   have cl2:(ds.map (·.1)).length+1≤1000000:=by rw[fP];omega
   have fin:∀n1 n2 h',Go2 h h' vp st z.size xp (sG s (ds.length+1) (ic D ((ds.length:Int)+1) (tv,d2)) ((ds.length+1:Nat):Int)) tv n1 n2 (iL ds.length++ [(ds.length:Int)+1]) (ds.map (·.1)++ [tv])→R30 (n1,n2) h':=fun n1 n2 h' q=>hR30 _ _ ⟨(tv,d2),_,g.grow (d:=(tv,d2)) h15 fd q⟩
   refine ak.2 ⟨_,vc U 0,_,vc U 1,_,vc U 2,_,vc U 3,_,vc U 4,_,vc U 5,bO fun h65 b65 k65=>⟨?_,?_,bO fun h73 b73 k73=>?_⟩,bO fun h80 b80 k80=>bO fun h81 b81 k81=>?_⟩
   ·have t65:=(N.up0 k65).b
    exact⟨vc t65 0,vc t65 1,vc t65 2,vc t65 3,vc t65 4,vc t65 5⟩
   ·refine(N.up0 k65).app1 b65 cl fun n1 h68 q68 _=>?_
    have t68:=q68.b;exact⟨⟨vc t68 0,vc t68 1,vc t68 2,vc t68 3,vc t68 4,vc t68 5⟩,bO fun h69 b69 k69=>(q68.up0 k69).app2 (n:=tv) b69 cl2 fun n2 h72 q72=>fin n1 n2 h72 q72⟩
   ·exact((N.up0 k65).up0 k73).app1 (k73.get0 b65) cl fun n1 h76 q76 u76=>q76.app2 (n:=tv) (u76.get b73 (N.n1 k65.size)) cl2 fun n2 h79 q79=>fin n1 n2 h79 q79
   ·exact((N.up0 k80).up0 k81).app1 b81 cl fun n1 h84 q84 u84=>q84.app2 (n:=tv) (u84.get (k81.get0 b80) (N.n1 (ar _))) cl2 fun n2 h87 q87=>fin n1 n2 h87 q87
  ·rintro⟨X,a2⟩ h4 ⟨d,D',g'⟩
   rw[wQ A hl];exact hI (ds++ [d],D',d,X,a2) _ _ ⟨by simp,by simp;omega,g'⟩ (by simp;omega)
 ·rintro⟨X,a2⟩ h91 ⟨ds,D,c,g⟩
  simp only at g⊢;obtain⟨l1,l2⟩:=g.lenD;have n15:=g.n;refine CondP.intro (fun _=>⟨rfl,g.q.k⟩) fun e=>?_
  have hn:0<ds.length:=by
   rw[l1]at e;have:¬((ds.length:Int)=0):=by simpa using e
   omega
  refine⟨_,rfl,_,vc g.q.st 0,uA g.q.w.v fun h95 k95 gr=>?_⟩
  have two:∀v∈cL ds.length,v.2.length*4≤140737488355328:=fun v H=>by have:=g.q.w.v.inv.good.two v H;omega
  refine LoopP.ghost (fun(i:Nat) (t:Int) h'=>t=(i:Int)∧i≤ds.length∧Upd No h95 h') (fun i=>ds.length-i) 0 ⟨rfl,bB _,Upd.refl _ _⟩ ?_
  rintro I i t h98 ⟨rfl,hi,k98⟩ hI;have g98:=(g.up0 k95).up0 k98;have sl98:Nums No h98 X (iL ds.length):=g98.q.o1.sl fun _ _ _ h=>h
  refine aU (fun A=>?_) fun hge=>?_
  ·have A:i<ds.length:=by rw[l1]at A;omega
   obtain⟨a,J,_,H⟩:=sl98.at0 (g:=fun x=>.int .u32 x) (sh A)
   refine⟨⟨by omega,by rw[l1];omega⟩,a,J,_,H,nD (gr.upd0 k98) ((i:Int)+1) two fun s' h102 o k102=>?_⟩
   obtain⟨p1,_⟩:=wO ⟨ds.length,by omega⟩ ⟨i+1,by omega⟩ (by simp) A
   simp only[show((i+1:Nat):Int)=(i:Int)+1 from rfl]at p1
   rw[show(sG s ds.length D ds.length).L=cL ds.length from rfl,p1]at o
   have k9:=k98.tr k102;refine Join.intro (fun t h'=>t=false∧Upd No h95 h') (fun R hR=>?_) ?_
   ·refine CondP.intro (fun e=>?_) fun e=>?_
    ·have e0:(i:Int)=0:=by simpa using e
     have e:i=0:=by omega
     subst e;have ol:s'.len=0:=o.len;rw[ol];exact ak.2 (ak.2 (hR _ _ ⟨rfl,k9⟩))
    ·have e:i≠0:=fun h=>by subst h;simp at e
     rw[if_neg (by omega)]at o;refine aU (fun _=>?_) fun h=>absurd h (by omega)
     have sl102:Nums No h102 X (iL ds.length):=sl98.upd k102 fun _ h=>h.elim
     obtain⟨a,J,_,H⟩:=sl102.at0 (g:=fun x=>.int .u32 x) (sh (show i-1<ds.length by omega))
     rw[pL (by omega),show(i:Int)-1=((i-1:Nat):Int) by omega]
     refine⟨⟨by omega,by rw[l1];omega⟩,a,J,_,H,bO fun h106 b106 k106=>tB (W:=No) (W':=No) ((o.sl fun _ _ _ h=>h).upd k106 fun _ h=>h.elim) ((OwnS.one j1 b106).sl fun _ _ _ h=>h) (by simp) (hR _ _ ⟨?_,k9.tr k106⟩)⟩
     rw[decide_eq_true (by simp;omega)];rfl
   ·rintro _ h115 ⟨rfl,k115⟩
    rw[wQ A (by omega)];exact ak.2 (hI (i+1) _ _ ⟨rfl,A,k115⟩ (by omega))
  ·obtain⟨j,hj,m⟩:∃j:Nat,cC (IntKind.wrap .i64 b) (X.len:Int)=(j:Int)∧j<ds.length:=by
    obtain⟨bn,rfl⟩:=Int.eq_ofNat_of_zero_le hb0;exact⟨bn%ds.length,by rw[pL (by omega),l1,Int.tmod_eq_emod_of_nonneg (by omega)];rfl,Nat.mod_lt _ hn⟩
   have jw:(0:Int)≤(j:Int)∧(j:Int)<((X.len:Nat):Int):=by rw[l1];omega
   have jw2:(0:Int)≤(j:Int)∧(j:Int)<((a2.len:Nat):Int):=by rw[l2];omega
   rw[hj];obtain⟨a,J,_,H⟩:=sl98.at0 (g:=fun x=>.int .u32 x) (sh m)
   have nMs:∀y,(sG s ds.length D ds.length).M y→h.size≤y∧st≠y:=fun y f=>⟨(nM y f).1,(nM y f).2.1.symm⟩
   have up:=H1 (show ds.length≤16 by omega) (k:=j+1) (by omega) (ds.length-(j+1)) (by omega)
   rw[show j+1+(ds.length-(j+1))=ds.length by omega]at up
   refine⟨by rw[l1];omega,_,rfl,_,vc g98.q.st 0,jw,a,J,_,H,?_⟩;refine zE g98.q.w.v j8 (hd:=(ds.length:Int)) rfl (id:=(j:Int)+1) (.inr (wO ⟨ds.length,by omega⟩ ⟨j+1,by omega⟩ (by simp) m).2) (.inr up) fun T u121 v121=>?_
   have F:Go2 h T vp st z.size xp (sG s ds.length D ((j:Int)+1)) c.1 X a2 (iL ds.length) (ds.map (·.1)):=g98.q.ed u121 v121 rfl nMs
   have sl121:Nums No T X (iL ds.length):=F.o1.sl fun _ _ _ h=>h
   refine ak.2 (Join.intro (fun(t:Addr×Int) h'=>∃ub,t=(⟨ub,0,none⟩,0)∧h'[ub]? =some (.cells (j2 ds[j].1).toArray aG (0,0))∧(∀y,s.M y→ub≠y)∧Upd No T h') (fun R hR=>?_) ?_)
   ·obtain⟨a,J,_,H⟩:=sl121.at0 (g:=fun x=>.int .u32 x) (sh m)
    have hMl:∀y,s.M y→y<T.size:=fun y f=>F.w.v.size f
    refine⟨_,rfl,_,vc F.st 0,jw,a,J,_,H,AR F.w.v ((j:Int)+1) (fun e=>absurd e (by omega)) (fun d hd _ h158 k158=>?_) fun e=>?_,bO fun h161 b161 k161=>?_⟩
    ·cases(g.look j m).symm.trans hd
     refine bO fun h159 b159 k159=>ei (c:=j2 w7) (vs:=j2 ds[j].1) b159 rfl fun h160 b160 u160=>?_
     exact hR _ _ ⟨_,rfl,b160,fun y f=>by have:=hMl y f;have:=k158.size;omega,(k158.tr k159).own u160 k158.size⟩
    ·cases(g.look j m).symm.trans e
    ·have q161:=F.up0 k161
     obtain⟨_,u,_,w⟩:=(sl121.upd k161 fun _ h=>h.elim).at0 (g:=fun x=>.int .u32 x) (sh m)
     cases J.symm.trans u;refine⟨w,vc q161.st 0,AR q161.w.v ((j:Int)+1) (fun e=>absurd e (by omega)) (fun d hd _ h163 k163=>?_) fun e=>?_⟩
     ·cases(g.look j m).symm.trans hd
      refine ei (c:=j2 w7) (vs:=j2 ds[j].1) (k163.get0 b161) rfl fun h164 b164 u164=>?_
      exact hR _ _ ⟨_,rfl,b164,fun y f=>by have:=hMl y f;omega,(k161.tr k163).own u164 (ar _)⟩
     ·cases(g.look j m).symm.trans e
   ·rintro⟨ua,ue⟩ h166 ⟨ub,eu,bu,hub,k166⟩
    obtain⟨rfl,rfl⟩:=Prod.mk.inj eu;simp only;have K:=F.up0 k166;have hgt:(ds.map (·.1))[j]? =some ds[j].1:=by simp[m]
    obtain⟨a2a,ha2,_,V⟩:=(K.o2.sl (W:=No) fun _ _ _ h=>h).at hgt
    obtain⟨i1,i2,i3⟩:=K.w.v.ts _ (tH (g.look j m));obtain⟨S,eS,SM,SD,SL,SB,Sk,Sx⟩:=Fi s (show ds.length<17 by omega) m D ds[j]
    refine⟨_,rfl,_,vc K.st 0,jw2,a2a,ha2,_,V 0 _ rfl,_,V 1 _ rfl,_,V 2 _ rfl,_,V 3 _ rfl,_,V 4 _ rfl,_,V 5 _ rfl,?_⟩;refine pm K.w.v j8 (hd:=(j:Int)+1) rfl (d:=ds[j]) i1 i2 i3 fun h177 u177 v177=>?_
    rw[eS]at v177⊢;have C:=K.ed u177 v177 SM nMs;have B:=u177.get bu fun e=>hub _ e rfl
    refine⟨_,rfl,_,vc C.st 0,qe C.w.v pN ?_⟩;rw[SB];obtain⟨a2b,hb2,_,Z⟩:=(C.o2.sl (W:=No) fun _ _ _ h=>h).at hgt
    have hD:bP S.D ((j:Int)+1)=some ds[j]:=by rw[SD,oY,if_neg (by omega),g.look j m]
    obtain⟨i1,i2,i3⟩:=C.w.v.ts _ (tH hD);have hlen:ds[j].2.length≤60000:=by have:=g.fw _ (List.getElem_mem m);omega
    refine aA.2 ⟨_,vc B 0,_,vc B 1,_,vc B 2,_,vc B 3,_,vc B 4,_,vc B 5,jw2,a2b,hb2,_,Z 0 _ rfl,_,Z 1 _ rfl,_,Z 2 _ rfl,_,Z 3 _ rfl,_,Z 4 _ rfl,_,Z 5 _ rfl,?_⟩;refine Fw i1 i1 i2 i3 hlen i2 i3 hlen fun Q k196=>CondP.intro (fun _=>aA.2 ?_) fun e=>by simp[CD]at e
    have G:=C.up0 k196;have two2:∀v∈S.L,v.2.length*4≤140737488355328:=fun v H=>by have:=C.w.v.inv.good.two v H;omega
    have sl196:Nums No Q X (iL ds.length):=G.o1.sl fun _ _ _ h=>h
    have rd:∀h',Upd No Q h'→∃a,X.a=some a∧bc h' (adr a ((j:Int).toNat*1))=some (.int .u32 ((j:Int)+1))∧bc h' (adr a (((ds.length-1:Nat):Int).toNat*1))=some (.int .u32 (((ds.length-1:Nat):Int)+1)):=fun h' k=>by
     have sl':=sl196.upd k fun _ h=>h.elim
     obtain⟨a,J,_,H⟩:=sl'.at0 (g:=fun x=>.int .u32 x) (sh m)
     obtain⟨a',u,_,w⟩:=sl'.at0 (g:=fun x=>.int .u32 x) (sh (show ds.length-1<ds.length by omega))
     cases J.symm.trans u;exact⟨a,J,H,w⟩
    have ww:IntKind.wrap .i64 ((X.len:Int)-1)=((ds.length-1:Nat):Int):=by rw[l1,pL (by omega)];omega
    have w32:IntKind.wrap .u32 (((ds.length-1:Nat):Int)+1+1)=(ds.length:Int)+1:=by
     rw[show((ds.length-1:Nat):Int)+1+1=(ds.length:Int)+1 by omega]
     exact Go.IntWalk.u32_in _ (by omega)
    have wl:(0:Int)≤((ds.length-1:Nat):Int)∧((ds.length-1:Nat):Int)<((X.len:Nat):Int):=by rw[l1];omega
    obtain⟨a,J,H,_⟩:=rd Q (Upd.refl _ _);rw[ww];have ky:∀{h'},Upd No Q h'→Upd No h h':=fun k=>G.k.tr k
    have hcut:∀{a':Addr},X.a=some a'→a'=a:=fun e=>by cases J.symm.trans e;rfl
    refine⟨_,rfl,_,vc G.st 0,jw,a,J,_,H,uA G.w.v fun h202 E gr=>⟨?_,nD gr ((ds.length:Int)+1) two2 fun s' h204 o k204=>⟨?_,bO fun h205 b205 k205=>?_⟩,bO fun h210 b210 k210=>?_⟩,bO fun h217 b217 P=>⟨vc (G.up0 P).st 0,uA (G.up0 P).w.v fun h219 k219 gr=>?_⟩⟩
    ·obtain⟨a',u,w,_⟩:=rd h202 E
     rw[←hcut u];exact w
    ·obtain⟨a',u,w,_⟩:=rd h204 (E.tr k204)
     rw[←hcut u];exact w
    ·rw[SL]at o
     refine tB (W:=No) (W':=No) ((o.sl fun _ _ _ h=>h).upd k205 fun _ h=>h.elim) ((OwnS.one j1 b205).sl fun _ _ _ h=>h) (by simp) ?_
     rw[decide_eq_true rfl];obtain⟨a',u,_,w⟩:=rd h205 ((E.tr k204).tr k205);refine aA.2 ⟨wl,a',u,_,w,?_⟩;rw[w32,show(((ds.length:Int)+1)==(ds.length:Int)+1)=true from beq_self_eq_true _]
     exact aA.2 (aA.2 ⟨rfl,ky ((E.tr k204).tr k205)⟩)
    ·refine nD (gr.upd0 k210) ((ds.length:Int)+1) two2 fun s' h212 o k212=>?_
     rw[SL]at o;refine tB (W:=No) (W':=No) (o.sl fun _ _ _ h=>h) ((OwnS.one j1 (k212.get0 b210)).sl fun _ _ _ h=>h) (by simp) ?_
     rw[decide_eq_true rfl];obtain⟨a',u,_,w⟩:=rd h212 ((E.tr k210).tr k212);refine aA.2 ⟨wl,a',u,_,w,?_⟩;rw[w32,show(((ds.length:Int)+1)==(ds.length:Int)+1)=true from beq_self_eq_true _]
     exact aA.2 (aA.2 ⟨rfl,ky ((E.tr k210).tr k212)⟩)
    ·refine nD gr ((ds.length:Int)+1) two2 fun s' h221 o k221=>?_
     rw[SL]at o;refine tB (W:=No) (W':=No) (o.sl fun _ _ _ h=>h) ((OwnS.one j1 (k221.get0 (k219.get0 b217))).sl fun _ _ _ h=>h) (by simp) ?_
     rw[decide_eq_true rfl];obtain⟨a',u,_,w⟩:=rd h221 ((P.tr k219).tr k221);refine aA.2 ⟨wl,a',u,_,w,?_⟩;rw[w32,show(((ds.length:Int)+1)==(ds.length:Int)+1)=true from beq_self_eq_true _]
     exact aA.2 (aA.2 ⟨rfl,ky ((P.tr k219).tr k221)⟩)
end Go.Proofs
