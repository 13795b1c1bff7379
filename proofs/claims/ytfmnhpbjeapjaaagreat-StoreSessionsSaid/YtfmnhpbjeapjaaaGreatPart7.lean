/- A part of the proof that the named laws of this program answer true, whatever the input. -/
import Derived.Test.YtfmnhpbjeapjaaaGreatPart6
import Derived.Test.YtfmnhpbjeapjaaaGreatPart2
import Derived.Test.YtfmnhpbjeapjaaaGreatLaw0
import Derived.Test.YtfmnhpbjeapjaaaGreatPart0
import Derived.Test.YtfmnhpbjeapjaaaGreatPart4
import Derived.Sort.AssemblyPlain
open List renaming map_cons→aY,mem_cons→ah,mem_cons_self→aP,mem_cons_of_mem→aQ,length_map→cB,length_nil→eK,map_append→gA,mem_map→aI,length_append→ai,length_cons→aX,filter_cons→ba,mem_append→bo,mem_singleton→ak,nodup_append→kG,length_singleton→dz,map_map→fp,map_congr_left→ef,nodup_cons→du,getElem_of_mem→bW,mem_filter→bG
open Nat renaming lt_of_lt_of_le→aE,le_refl→av,zero_le→cu
namespace Go.Proofs
open Go Go.Lift
structure Se where
 n:Int
 eb:Nat
 tb:Nat
 ti:Int
 lv:Bool
abbrev KI:KeyE Int:=Rd .i64
abbrev pA(a:Option Addr):Value:=.pointer a
abbrev Se.a(e:Se):Int×Option Addr:=(e.n,some ⟨e.eb,0,none⟩)
def WS(M:Nat→Prop)(cb:Nat)(h:ac)(y:Nat):Prop:=M y∨(cb≤y∧y<h.size)
theorem WS.re{h h':ac}{c cb:Nat}{s:VS}{M:Nat→Prop}(v:VaultAt (WS s.M cb h) h c s)(vl:∀y,s.M y→y<cb)(k:Upd M h h')(hM:∀y,M y→cb≤y):VaultAt (WS s.M cb h') h' c s:=by
 have f:=k.size;refine v.re k (fun y b=>?_) (fun y b=>?_) fun y b=>.inl b
 ·by_cases e:y<h.size
  ·exact .inl ⟨.inr ⟨hM y b,e⟩,fun hm=>by have:=vl y hm;have:=hM y b;omega⟩
  ·exact .inr (by omega)
 ·rcases b with b|⟨g,d⟩
  ·exact⟨.inl (.inl b),aE (v.g.lt y (.inl b)) f⟩
  ·by_cases e:y<h.size
   ·exact⟨.inl (.inr ⟨g,e⟩),d⟩
   ·exact⟨.inr (by omega),d⟩
structure SsAt(h:ac)(sp vp sm pb cb:Nat)(s:VS)(last:Int)(ids:List Int)(es:List Se):Prop where
 v:VaultAt (WS s.M cb h) h vp s
 vl:∀y,s.M y→y<cb
 vc:vp<cb
 b:h[sp]? =some (.cells (Mm vp (some sm) last (some ⟨pb,0,none⟩)).toArray dQ (0,0))
 o:cb<pb∧pb<sm∧sm<sp
 m:MapAt KI pA h sm (es.map Se.a)
 p:PoolAt h pb cb 16 ids
 cap:ids.length+(es.filter (·.lv)).length=16
 ed:∀e∈es,EdAt h e.eb pb e.tb s.e∧TokAt h e.tb pb e.ti e.lv∧sp<e.eb∧sp<e.tb
 nde:(es.map (·.eb)).Nodup
 ndt:(es.map (·.tb)).Nodup
 ky:∀e∈es,1≤e.n∧e.n≤last
 ndk:(es.map (·.n)).Nodup
 few:es.length≤16
 l0:0≤last∧last≤1000
theorem NQ{β:Type}{k:Int}{v:β}:∀{l:List (Int×β)},k∉l.map (·.1)→my l k v=l++ [(k,v)]
 | [],_=>rfl
 |(k',u)::l,h=>by
  simp only[aY,ah,not_or]at h;unfold my;rw[if_neg h.1,NQ h.2];rfl
section
variable {h h':ac} {sp vp sm pb cb:Nat} {s:VS} {last:Int} {ids:List Int} {es:List Se}
theorem SsAt.up0(g:SsAt h sp vp sm pb cb s last ids es)(k:Upd No h h'):SsAt h' sp vp sm pb cb s last ids es:=
 ⟨WS.re g.v g.vl k fun _ h=>h.elim,g.vl,g.vc,k.get0 g.b,g.o,g.m.upd k fun h=>h,g.p.upd0 k,g.cap,fun e b=>⟨(g.ed e b).1.upd k fun h=>h,(g.ed e b).2.1.upd k fun h=>h,(g.ed e b).2.2⟩,g.nde,g.ndt,g.ky,g.ndk,g.few,g.l0⟩
theorem SsAt.lt(g:SsAt h sp vp sm pb cb s last ids es):∀e∈es,e.eb<h.size∧e.tb<h.size:=fun e b=>⟨aL (g.ed e b).1,aL (g.ed e b).2.1⟩
theorem Pv{n:Int}:∀{es:List Se},(∀e∈es,e.n≠n)→cz (es.map Se.a) n=none
 | [],_=>rfl
 |e::es,h=>by
  rw[aY];unfold cz;rw[if_neg fun b=>h e aP b.symm]
  exact Pv fun e c=>h e (aQ _ c)
theorem GU(g:SsAt h sp vp sm pb cb s last ids es)(hlast:last≤900){yb:Nat}(k:h[yb]? =some (.cells #[.pointer (some ⟨sp,0,none⟩)] vr (0,0))) (hyb:sp<yb) {K:An→ac→Prop}
  (hk1:es.length=16→∀h',Upd No h h'→K (6,0,0,⟨#[]⟩,false,0,bM,bM,bM,bM,bM) h')
  (X:es.length<16→∀h' j e,e.n=last+1→e.lv=true→h.size≤e.eb∧h.size≤e.tb→Upd (fun y=>y=cb∨y=sp∨y=sm) h h'→SsAt h' sp vp sm pb cb s (last+1) j (es++ [e])→K (0,0,last+1,⟨#[]⟩,false,0,bM,bM,bM,bM,bM) h'):
  HC PG j8 [GO s.e,.pointer (some ⟨yb,0,none⟩)] Bj K h:=by
 refine vK s.e ⟨yb,0,none⟩ ?_;unfold o8 aD ag ad cT xg xi cp aw cI aF dS bJ af bV rl CL;refine bc fun h1 b1 k1=>bc fun h2 b2 k2=>?_
 have v:=k1.tr k2;have w:=g.up0 v;have T:=v.get0 k;have c1:=k2.get0 b1;have s1:=k1.size;have s12:=v.size;have z2:=aL b2;have o1:=g.o;have l0:=g.l0;have zy:=aL k;refine Join.intro (fun t h'=>t=decide (es.length≥16)∧h'=h2) (fun R hR=>⟨_,aC T,_,rfl,_,vc w.b 1,_,w.m.len,ax (fun e=>hR _ _ ⟨?_,rfl⟩) fun e=>⟨_,aC T,_,rfl,_,vc w.b 2,hR _ _ ⟨?_,rfl⟩⟩⟩) ?_
 ·rw[cB]at e;rw[decide_eq_true (by omega)]
 ·rw[cB]at e;rw[decide_eq_decide];omega
 ·rintro _ h12 ⟨rfl,rfl⟩
  refine ax (fun e=>xp fun h14 O=>?_) fun e=>?_
  ·have:=g.few
   exact pL (c:=zd) (e:=(6,0,0,⟨#[]⟩,false,0,bM,bM,bM,bM,bM)) (O.get0 b2) fun V u15=>hk1 (by omega) V ((v.tr O).own u15 s1)
  ·have h16:es.length<16:=by omega
   obtain⟨i,j,rfl⟩:∃i j,ids=i::j:=by
    cases ids with
    |nil=>
     have c:=g.cap;have f:=List.length_filter_le (fun e:Se=>e.lv) es
     simp only[eK]at c;omega
    |cons i j=>exact⟨i,j,rfl⟩
   refine⟨_,aC T,_,rfl,_,vc w.b 3,_,vc c1 0,_,vc c1 1,_,vc c1 2,_,vc c1 3,_,vc c1 4,_,vc c1 5,Jt w.p s.e fun h37 eb tb m U Y Z q1 q2=>?_⟩
   have C:=m.get T (by omega);have P:=m.get w.b (by omega);refine⟨aC C,_,aC C,_,rfl,_,vc P 2,_,rfl,KH (i:=2) P (by simp) rfl fun E z u=>?_⟩
   have D:=u.oth C (by omega);have L:=(w.m.upd m (by omega)).upd u (by omega);rw[dT (by omega)]at z;refine⟨_,aC D,_,rfl,_,vc z 1,_,aC D,_,rfl,_,vc z 2,sm,rfl,L.isMap,wK fun H x=>?_⟩
   have x:H=nJ E sm (KI.enc (last+1)) (pA (some ⟨eb,0,none⟩)):=x;have A:Upd (· =sm) E H:=by rw[x];exact ur E _ _ rfl
   have J:MapAt KI pA H sm (my (es.map Se.a) (last+1) (some ⟨eb,0,none⟩)):=by rw[x];exact L.put (last+1) _
   have W:=A.oth D (by omega);have S:=A.oth z (by omega);have s37:=m.size;have s42:=u.size;have I:=A.oth (u.oth (m.get b2 (by omega)) (by omega)) (by omega);refine⟨_,aC W,_,rfl,_,vc S 2,?_⟩;refine pL (c:=zd) (e:=(0,0,last+1,⟨#[]⟩,false,0,bM,bM,bM,bM,bM)) I fun B G=>?_
   have d:Upd (fun y=>y=sp∨y=sm∨y=h1.size) h37 B:=((u.mono fun y k=>.inl (.inl k)).tr (A.mono fun y k=>.inl (.inr (.inl k)))).tr (G.mono fun y k=>.inl (.inr (.inr k)))
   have o:Upd (fun y=>y=cb∨y=sp∨y=sm∨y=h1.size) h12 B:=(m.mono fun y k=>.inl (.inl k)).tr (d.mono fun y k=>.inl (.inr k))
   have lt:=g.lt;refine X h16 B j ⟨last+1,eb,tb,i,true⟩ rfl rfl ⟨by show h.size≤eb;omega,by show h.size≤tb;omega⟩ ?_ ?_
   ·refine(v.wide.tr (m.mono fun y k=>.inl (.inl k))).trans d fun y k=>?_
    rcases k with k|k|k
    ·exact .inl (.inr (.inl k))
    ·exact .inl (.inr (.inr k))
    ·exact .inr (by omega)
   ·refine⟨WS.re w.v g.vl o fun y k=>by omega,g.vl,g.vc,G.oth S (by omega),g.o,?_,((U.upd d (by omega) (by omega))),?_,?_,?_,?_,?_,?_,?_,?_⟩
    ·rw[NQ fun hm=>?_]at J
     ·rw[gA];exact J.upd G (by omega)
     ·obtain⟨p,hp,e⟩:=aI.1 hm
      obtain⟨q,F,e'⟩:=aI.1 hp;subst e';have:=(g.ky q F).2;simp only at e;omega
    ·have:=g.cap
     rw[List.filter_append,ai];simp only[aX,ba,if_true,List.filter_nil,eK]at this⊢;omega
    ·intro e n
     rcases bo.1 n with n|n
     ·obtain⟨d1,d2,d3,d4⟩:=w.ed e n
      have:=lt e n;exact⟨d1.upd o (by omega),d2.upd o (by omega),d3,d4⟩
     ·rw[ak.1 n]
      exact⟨Z.upd d (by omega),Y.upd d (by omega),by show sp<eb;omega,by show sp<tb;omega⟩
    ·rw[gA,kG]
     exact⟨g.nde,by simp,fun a N b Q=>by obtain⟨q,F,rfl⟩:=aI.1 N;have:=lt q F;simp at Q;omega⟩
    ·rw[gA,kG]
     exact⟨g.ndt,by simp,fun a N b Q=>by obtain⟨q,F,rfl⟩:=aI.1 N;have:=lt q F;simp at Q;omega⟩
    ·intro e n
     rcases bo.1 n with n|n
     ·have:=g.ky e n;omega
     ·rw[ak.1 n];simp only;omega
    ·rw[gA,kG]
     exact⟨g.ndk,by simp,fun a N b Q=>by obtain⟨q,F,rfl⟩:=aI.1 N;have:=g.ky q F;simp at Q;omega⟩
    ·rw[ai,dz];omega
    ·omega
theorem SsAt.own(g:SsAt h sp vp sm pb cb s last ids es){b:Nat}(u:Upd (· =b) h h')(p:sp<b)(c:∀e∈es,e.eb≠b∧e.tb≠b):SsAt h' sp vp sm pb cb s last ids es:=by
 have o:=g.o;refine⟨WS.re g.v g.vl u fun y f=>by have f:y=b:=f;omega,g.vl,g.vc,u.oth g.b (by omega),g.o,g.m.upd u (by omega),g.p.upd u (by omega) (by omega),g.cap,fun e d=>?_,g.nde,g.ndt,g.ky,g.ndk,g.few,g.l0⟩
 obtain⟨m,k,j⟩:=g.ed e d;obtain⟨n,i⟩:=c e d;exact⟨m.upd u n,k.upd u i,j⟩
end
end Go.Proofs
namespace Go.Proofs
open Go Go.Lift
section
variable {W:Nat→Prop} {h:ac} {sp vp sm pb cb:Nat} {s:VS} {last:Int} {ids:List Int} {es:List Se} {o:LQ}
theorem Mo(v:VaultAt W h vp s){m:Option Nat}{j:Option Addr}(b:h[sp]? =some (.cells (Mm vp m last j).toArray dQ (0,0))) {f:FuncId} {cap:Array Value} {id:Int} (u:id=0∨id∈s.L.map (·.1)) {K:An→ac→Prop}
  (hc:∀B i vb,BaseOf s id B→Upd No h i→h.size≤vb→vb<i.size→HC PG f ([GO B.1]++cap.toList) Bj (fun e h'=>∃M:Nat→Prop,Upd M i h'∧¬M vb∧∀k,Upd (· =vb) h' k→K e k) i):
  HC PG je [.pointer (some ⟨sp,0,none⟩),.int .u32 id,.func (.func f) #[] cap] Bj K h:=by
 refine uy (some ⟨sp,0,none⟩) id (.func (.func f) #[] cap) ?_;unfold pq ag ad cT nv xg xi Lf cp aw cI aF bJ af GH rE rl CL;refine bc fun y b1 k1=>⟨_,rfl,_,vc (k1.get0 b) 0,AM (v.upd0 k1) u fun B C i o=>?_⟩
 refine bc fun k b3 t=>cU (c:=jA sQ) (vs:=jA B.1) b3 rfl fun p g x=>aq.2 ?_
 have A:=o.size;have d:Upd No y p:=(o.tr t).own x A;have n:=k1.tr d;have G:=aL b1;have F:=d.size;refine⟨_,vc g 0,_,vc g 1,_,vc g 2,_,vc g 3,_,vc g 4,_,vc g 5,HV.mk' ?_⟩;refine(hc B p h.size C n (av _) (by omega)).mono fun e H ⟨M,z,D,q⟩=>?_
 exact pL (c:=zd) (e:=e) (z.get (d.get0 b1) D) fun E w=>q E w
theorem Ir(g:SsAt h sp vp sm pb cb s last ids es)(j:last≤900)(e0:o.2.2.2.2.2.1=0){K:An→ac→Prop}
  (H:es.length=16→∀h',Upd No h h'→K (6,0,0,⟨#[]⟩,false,0,bM,bM,bM,bM,bM) h')
  (F:es.length<16→∀h' d e,e.n=last+1→e.lv=true→h.size≤e.eb∧h.size≤e.tb→Upd (fun y=>y=cb∨y=sp∨y=sm) h h'→SsAt h' sp vp sm pb cb s (last+1) d (es++ [e])→K (0,0,last+1,⟨#[]⟩,false,0,bM,bM,bM,bM,bM) h'):
  HC PG iX [.pointer (some ⟨sp,0,none⟩),E4 o] Bj K h:=by
 have zs:=aL g.b;have o1:=g.o;refine xE (some ⟨sp,0,none⟩) o ?_;unfold qY ag cT xg xi cp aw cI aF GC;refine bc fun h2 b2 I=>bc fun J b3 z=>bc fun h4 D v=>?_
 have L:=v.get0 (z.get0 b2);have R:=v.get0 b3;have i:=(I.tr z).tr v;have A:=g.up0 i;have s2:=I.size;have s3:=z.size;have z3:=aL b3;have z4:=aL D;refine⟨_,aC L,_,vc R 5,?_⟩;rw[e0];refine Mo (cap:= #[.pointer (some ⟨h.size,0,none⟩)]) A.v A.b (.inl rfl) fun B h5 v5 hB k P O=>?_
 have Z:B=(s.e,[]):=by
  rcases hB with⟨_,e⟩|⟨e,_⟩
  ·exact e
  ·exact absurd rfl e
 subst Z;have U:=A.up0 k;have s5:=k.size;have s4:=v.size;refine GU U j (yb:=h.size) (k.get0 L) (by omega) (fun f h6 N=>⟨No,N,fun h=>h,fun G u=>?_⟩) fun f h6 d e W el ⟨T,Q⟩ C Y=>⟨_,C,by omega,fun G u=>?_⟩
 ·have m:Upd No h4 G:=(k.tr N).own u P
  exact pL (c:=zd) (e:=(6,0,0,⟨#[]⟩,false,0,bM,bM,bM,bM,bM)) (m.get0 D) fun x w=>H f x ((i.tr m).own w (by omega))
 ·have lt:=g.lt
  have t:∀{b:Nat},h.size≤b→b<h5.size→∀q∈es++ [e],q.eb≠b∧q.tb≠b:=fun S hb2 q p=>by
   rcases bo.1 p with p|p
   ·have:=lt q p;omega
   ·rw[ak.1 p];omega
  have V:=Y.own u (by omega) (t (by omega) O);have X:G[J.size]? =some (.cells (Fv zd).toArray bj (0,0)):=u.oth (C.get (k.get0 D) (by omega)) (by omega);refine pL (c:=zd) (e:=(0,0,last+1,⟨#[]⟩,false,0,bM,bM,bM,bM,bM)) X fun x w=>?_
  have g8:=V.own w (by omega) (t (by omega) (by omega));have E:Upd (fun y=>y=cb∨y=sp∨y=sm) h x:=(((i.tr k).wide.tr C).trans u fun y n=>.inr (by have n:y=v5:=n;omega)).trans w fun y n=>.inr (by have n:y=J.size:=n;omega)
  exact F f x d e W el ⟨by omega,by omega⟩ E g8
theorem Jv(g:SsAt h sp vp sm pb cb s last ids es)(d:last≤900)(ek:o.1=14)(C:o.2.2.2.2.2.1=0){K:An→ac→Prop}
  (t:es.length=16→∀h',Upd No h h'→K (6,0,0,⟨#[]⟩,false,0,bM,bM,bM,bM,bM) h')
  (n:es.length<16→∀h' b e,e.n=last+1→e.lv=true→h.size≤e.eb∧h.size≤e.tb→Upd (fun y=>y=cb∨y=sp∨y=sm) h h'→SsAt h' sp vp sm pb cb s (last+1) b (es++ [e])→K (0,0,last+1,⟨#[]⟩,false,0,bM,bM,bM,bM,bM) h'):
  HC PG bH [.pointer (some ⟨sp,0,none⟩),E4 o] Bj K h:=by
 have F:=aL g.b;have H:=g.o;have lt:=g.lt;refine Fm (k:=14) ek (by omega) rfl fun G w k1 B I=>?_
 refine Ir (g.up0 k1) d C (fun c A f=>⟨No,f,fun h=>h,fun p m=>t c p ((k1.tr f).own m B)⟩) fun c A b e z E ⟨x,v⟩ j D=>⟨_,j,by omega,fun p m=>?_⟩
 refine n c p b e z E ⟨by have:=k1.size;omega,by have:=k1.size;omega⟩ ((k1.wide.tr j).trans m fun y u=>.inr (by have u:y=w:=u;omega)) (D.own m (by omega) fun q i=>?_)
 rcases bo.1 i with i|i
 ·have:=lt q i;omega
 ·rw[ak.1 i];omega
end
end Go.Proofs
namespace Go.Proofs
open Go Go.Lift
def frz(tb:Nat)(q:Se):Se:=if q.tb=tb then{q with lv:=false}else q
theorem zL(tb:Nat)(q:Se):(frz tb q).n=q.n∧(frz tb q).eb=q.eb∧(frz tb q).tb=q.tb∧(frz tb q).ti=q.ti:=by unfold frz;split<;>exact⟨rfl,rfl,rfl,rfl⟩
theorem Ko(tb:Nat)(es:List Se):(es.map (frz tb)).map Se.a=es.map Se.a∧(es.map (frz tb)).map (·.n)=es.map (·.n)∧(es.map (frz tb)).map (·.eb)=es.map (·.eb)∧(es.map (frz tb)).map (·.tb)=es.map (·.tb):=by
 simp only[fp];refine⟨ef fun q _=>?_,ef fun q _=>(zL tb q).1,ef fun q _=>(zL tb q).2.1,ef fun q _=>(zL tb q).2.2.1⟩
 simp only[Function.comp_apply,Se.a,(zL tb q).1,(zL tb q).2.1]
theorem M8{tb:Nat}:∀{es:List Se},tb∉es.map (·.tb)→es.map (frz tb)=es
 | [],_=>rfl
 |q::es,h=>by
  simp only[aY,ah,not_or]at h;rw[aY,M8 h.2];unfold frz;rw[if_neg fun e=>h.1 e.symm]
theorem Kp{e:Se}(c:e.lv=true):∀{es:List Se},e∈es→(es.map (·.tb)).Nodup→((es.map (frz e.tb)).filter (·.lv)).length+1=(es.filter (·.lv)).length
 |q::es,hm,b=>by
  have b:=du.1 b;rw[aY];rcases ah.1 hm with rfl|hm
  ·rw[M8 b.1]
   unfold frz;rw[if_pos rfl,ba,ba,if_neg (by simp),if_pos c];rfl
  ·have f:q.tb≠e.tb:=fun d=>b.1 (by show q.tb∈es.map (·.tb);rw[d];exact aI.2 ⟨e,hm,rfl⟩)
   have i:=Kp c hm b.2;rw[show frz e.tb q=q from if_neg f,ba,ba]
   split
   ·rw[aX,aX,i]
   ·exact i
theorem B4{n:Int}:∀{es:List Se},(∀q∈es,q.n=n→q.lv=false)→((es.filter fun q=>decide (q.n≠n)).filter (·.lv)).length=(es.filter (·.lv)).length
 | [],_=>rfl
 |q::es,h=>by
  have i:=B4 (es:=es) fun q c=>h q (aQ _ c)
  by_cases e:q.n=n
  ·have b:=h q aP e
   rw[ba,if_neg (by simp[e]),i,ba,if_neg (by simp[b])]
  ·rw[ba,if_pos (by simp[e]),ba,ba]
   split
   ·rw[aX,aX,i]
   ·exact i
theorem HO{n:Int}:∀{es:List Se},sP (es.map Se.a) n=(es.filter fun q=>decide (q.n≠n)).map Se.a
 | []=>rfl
 |q::es=>by
  have i:=HO (n:=n) (es:=es);unfold sP at i⊢;rw[aY,ba,ba];split
  ·rw[aY,i]
  ·exact i
section
variable {h:ac} {sp vp sm pb cb:Nat} {s:VS} {last:Int} {ids:List Int} {es:List Se} {o:LQ}
theorem SsAt.look(g:SsAt h sp vp sm pb cb s last ids es){e:Se}(b:e∈es):cz (es.map Se.a) e.n=some (some ⟨e.eb,0,none⟩):=by
 have nd:((es.map Se.a).map (·.1)).Nodup:=by rw[fp];exact g.ndk
 exact(Bk nd).2 (aI.2 ⟨e,b,rfl⟩)
theorem J0(g:SsAt h sp vp sm pb cb s last ids es){K:Option Addr→ac→Prop}(b:∀h',Upd No h h'→K ((cz (es.map Se.a) o.2.2.2.2.2.2.2.1).getD none) h'):HC PG lD [.pointer (some ⟨sp,0,none⟩),E4 o] [.c .ptr] K h:=by
 refine Bz (some ⟨sp,0,none⟩) o ?_;unfold uH aD ag GC;refine bc fun c b1 k1=>⟨_,rfl,_,vc (k1.get0 g.b) 1,_,vc b1 7,_,_,(g.up0 k1).m.get o.2.2.2.2.2.2.2.1 none,b c k1⟩
theorem BS(g:SsAt h sp vp sm pb cb s last ids es){e:Se}(v:e∈es){K:Tr×Int→ac→Prop}(w:∀h' t ids',Upd (fun y=>y=cb∨y=e.tb) h h'→SsAt h' sp vp sm pb cb s last ids' (es.map (frz e.tb))→K (t,if e.lv then 0 else 5) h'):
  HC PG eS [.pointer (some ⟨e.eb,0,none⟩)] Oh K h:=by
 obtain⟨G,o,V,Y⟩:=g.ed e v;have o1:=g.o;obtain⟨N,S,O,I⟩:=Ko e.tb es;cases hl:e.lv with
 |true=>
  rw[hl]at o w;have um:=Kp hl v g.ndt;have cap:=g.cap;refine B7 G o g.p (by omega) fun h' u p t d=>w h' s.e (ids++ [e.ti]) u ?_
  have C:∀q∈es,q.tb≠cb∧q.eb≠cb∧q.eb≠e.tb:=fun q f=>by
   obtain⟨c1,E,D,H⟩:=g.ed q f;refine⟨by omega,by omega,fun m=>?_⟩
   have F:h[q.eb]? =some (.cells (Rx pb q.tb s.e).toArray pK (0,0)):=c1;rw[m]at F;have L:h[e.tb]? =some (.cells #[.pointer (some ⟨pb,0,none⟩),.int .i64 e.ti,.bool true] j4 (0,0)):=o;have:=F.symm.trans L;simp at this
  refine⟨WS.re g.v g.vl u fun y T=>by omega,g.vl,g.vc,u.get g.b (by omega),g.o,by rw[N];exact g.m.upd u (by omega),p,by rw[ai,dz];omega,fun q f=>?_,by rw[O];exact g.nde,by rw[I];exact g.ndt,fun q f=>?_,by rw[S];exact g.ndk,by rw[cB];exact g.few,g.l0⟩
  ·obtain⟨r,n,rfl⟩:=aI.1 f
   obtain⟨c1,E,D,H⟩:=g.ed r n;obtain⟨X,U,W⟩:=C r n;obtain⟨Z,R,P,Q⟩:=zL e.tb r;rw[R,P,Q];refine⟨c1.upd u (by omega),?_,D,H⟩;by_cases m:r.tb=e.tb
   ·have x:r=e:=by
     have nd:=g.ndt;obtain⟨i,z,c⟩:=bW n;obtain⟨j,A,b⟩:=bW v;have:(es.map (·.tb))[i]'(by simpa using z)=(es.map (·.tb))[j]'(by simpa using A):=by simp[c,b,m]
     have B:=(List.getElem_inj nd).1 this;subst B;exact c.symm.trans b
    subst x;rw[show(frz r.tb r).lv=false by unfold frz;rw[if_pos rfl]]
    exact t
   ·rw[show(frz e.tb r).lv=r.lv by unfold frz;rw[if_neg m]]
    exact E.upd u (by omega)
  ·obtain⟨r,n,rfl⟩:=aI.1 f
   rw[(zL e.tb r).1];exact g.ky r n
 |false=>
  rw[hl]at o w;refine HF G o fun h' k=>w h' sQ ids k.wide ?_
  have J:es.map (frz e.tb)=es:=by
   have:∀q∈es,frz e.tb q=q:=fun q f=>by
    unfold frz;split
    ·rename_i m
     have x:q=e:=by
      have nd:=g.ndt;obtain⟨i,z,c⟩:=bW f;obtain⟨j,A,b⟩:=bW v;have:(es.map (·.tb))[i]'(by simpa using z)=(es.map (·.tb))[j]'(by simpa using A):=by simp[c,b,m]
      have B:=(List.getElem_inj nd).1 this;subst B;exact c.symm.trans b
     subst x;cases q;simp only at hl;subst hl;rfl
    ·rfl
   rw[ef this,List.map_id']
  rw[J];exact g.up0 k
end
end Go.Proofs
namespace Go.Proofs
open Go Go.Lift
theorem IW{β:Type}{f:Se→β}{es:List Se}(nd:(es.map f).Nodup){q e:Se}(n:q∈es)(d:e∈es)(h:f q=f e):q=e:=by
 obtain⟨i,k,b⟩:=bW n;obtain⟨j,g,c⟩:=bW d;have:(es.map f)[i]'(by simpa using k)=(es.map f)[j]'(by simpa using g):=by simp[b,c,h]
 have m:=(List.getElem_inj nd).1 this;subst m;exact b.symm.trans c
section
variable {h:ac} {sp vp sm pb cb:Nat} {s:VS} {last:Int} {ids:List Int} {es:List Se} {o:LQ}
theorem SsAt.ne(g:SsAt h sp vp sm pb cb s last ids es){b:Nat}(d:h.size≤b):∀e∈es,e.eb≠b∧e.tb≠b:=fun e c=>by have:=g.lt e c;omega
theorem A8{tb b:Nat}(h:∀e∈es,e.eb≠b∧e.tb≠b):∀e∈es.map (frz tb),e.eb≠b∧e.tb≠b:=fun e g=>by
 obtain⟨q,f,rfl⟩:=aI.1 g;obtain⟨_,c,d,_⟩:=zL tb q;rw[c,d];exact h q f
theorem GS(g:SsAt h sp vp sm pb cb s last ids es){e:Se}(j:e∈es)(A:o.2.2.2.2.2.2.2.1=e.n){K:An→ac→Prop}(D:∀h' b er,Upd (fun y=>y=cb∨y=e.tb) h h'→SsAt h' sp vp sm pb cb s last b (es.map (frz e.tb))→K (er,0,0,⟨#[]⟩,false,0,bM,bM,bM,bM,bM) h'):
  HC PG iG [.pointer (some ⟨sp,0,none⟩),E4 o] Bj K h:=by
 have Q:=g.o;have I:=aL g.b;refine wQ (some ⟨sp,0,none⟩) o ?_;unfold qd ag cT nv xg xi cp aw cI aF GC Pi rE rl;refine bc fun q b1 k1=>bc fun J b2 i=>Ow (o:=o) (i.get0 b1) (J0 ((g.up0 k1).up0 i) fun N k=>?_)
 have f:=(k1.tr i).tr k;have H:=g.up0 f;have v:=k1.size;have O:=i.size;have L:=aL b2;have S:=k.size;have lt:=g.lt e j;rw[A,g.look j];refine BS H j fun F t b p x=>bc fun R G E=>cU (c:=jA sQ) (vs:=jA t) G rfl fun P T z=>xp fun u w=>?_
 have d:Upd No F u:=(E.own z (av _)).tr w;have B:u[q.size]? =some (.cells (Fv zd).toArray bj (0,0)):=d.get0 (p.get (k.get0 b2) (by omega));refine pL (c:=zd) (e:=(if e.lv then 0 else 5,0,0,⟨#[]⟩,false,0,bM,bM,bM,bM,bM)) B fun C n=>D C b _ ?_ ((x.up0 d).own n (by omega) (A8 (g.ne v)))
 exact((f.wide.tr p).tr d.wide).trans n fun y m=>.inr (by have m:y=q.size:=m;omega)
theorem HH(g:SsAt h sp vp sm pb cb s last ids es)(ek:o.1=18){e:Se}(d:e∈es)(n:o.2.2.2.2.2.2.2.1=e.n){K:An→ac→Prop}(t:∀h' b c,Upd (fun y=>y=cb∨y=e.tb) h h'→SsAt h' sp vp sm pb cb s last b (es.map (frz e.tb))→K (c,0,0,⟨#[]⟩,false,0,bM,bM,bM,bM,bM) h'):
  HC PG bH [.pointer (some ⟨sp,0,none⟩),E4 o] Bj K h:=by
 have v:=g.o;have z:=aL g.b;have lt:=g.lt e d;refine Fm (k:=18) ek (by omega) rfl fun A q k1 p x=>?_
 refine GS (g.up0 k1) d n fun w b c f m=>⟨_,f,by omega,fun u i=>t u b c ((k1.wide.tr f).trans i fun y j=>.inr (by have j:y=q:=j;omega)) (m.own i (by omega) (A8 (g.ne p)))⟩
theorem SsAt.del{h':ac}(g:SsAt h sp vp sm pb cb s last ids es){n:Int}(d:∀q∈es,q.n=n→q.lv=false)(u:Upd (· =sm) h h')(m:MapAt KI pA h' sm (sP (es.map Se.a) n)):SsAt h' sp vp sm pb cb s last ids (es.filter fun q=>decide (q.n≠n)):=by
 have k:=g.o;have sub:(es.filter fun q=>decide (q.n≠n)).Sublist es:=List.filter_sublist
 have o:=aL g.b;refine⟨WS.re g.v g.vl u fun y c=>by have c:y=sm:=c;omega,g.vl,g.vc,u.oth g.b (by omega),g.o,by rw[←HO];exact m,g.p.upd u (by omega) (by omega),by rw[B4 d];exact g.cap,fun e b=>?_,g.nde.sublist (sub.map _),g.ndt.sublist (sub.map _),fun e b=>g.ky e (sub.subset b),g.ndk.sublist (sub.map _),Nat.le_trans sub.length_le g.few,g.l0⟩
 obtain⟨c1,i,f,j⟩:=g.ed e (sub.subset b);exact⟨c1.upd u (by omega),i.upd u (by omega),f,j⟩
theorem Iq(g:SsAt h sp vp sm pb cb s last ids es){K:An→ac→Prop}(C:(∀q∈es,q.n≠o.2.2.2.2.2.2.2.1)→∀h',Upd No h h'→K (4,0,0,⟨#[]⟩,false,0,bM,bM,bM,bM,bM) h')
  (J:∀e∈es,e.n=o.2.2.2.2.2.2.2.1→∀h' b,Upd (fun y=>y=cb∨y=e.tb∨y=sm) h h'→SsAt h' sp vp sm pb cb s last b ((es.map (frz e.tb)).filter fun q=>decide (q.n≠o.2.2.2.2.2.2.2.1))→K zd h'):
  HC PG iW [.pointer (some ⟨sp,0,none⟩),E4 o] Bj K h:=by
 have Y:=g.o;have R:=aL g.b;refine xD (some ⟨sp,0,none⟩) o ?_;unfold qX aD ag cT xg xi cp aw cI aF GC Pi;refine bc fun G b1 k1=>bc fun T b2 p=>Ow (o:=o) (p.get0 b1) (J0 ((g.up0 k1).up0 p) fun V k=>?_)
 have d:=(k1.tr p).tr k;have N:=g.up0 d;have D:=k1.size;have X:=p.size;have S:=aL b1;have U:=aL b2;have Z:=k.size;by_cases hx:∃e∈es,e.n=o.2.2.2.2.2.2.2.1
 ·obtain⟨e,f,z⟩:=hx
  have lt:=g.lt e f;have v:=z;rw[←z,g.look f];refine aq.2 (BS N f fun j t b A x=>Join.plain ?_)
  obtain⟨c1,W,Q,c4⟩:=g.ed e f;have B:j[h.size]? =some (.cells (QG o).toArray eO (0,0)):=A.get (k.get0 (p.get0 b1)) (by omega);refine⟨_,rfl,_,vc x.b 1,_,vc B 7,.inr ⟨sm,rfl,x.m.isMap,?_⟩⟩;rw[←z];have u:Upd (· =sm) j (qJ j sm (KI.enc e.n)):=AN j _ rfl
  have I:=x.del (n:=e.n) (fun q m w=>by
   obtain⟨r,H,rfl⟩:=aI.1 m
   rw[(zL e.tb r).1]at w
   have:=IW g.ndk H f w
   subst this
   unfold frz;rw[if_pos rfl]) u (x.m.del e.n)
  have P:(qJ j sm (KI.enc e.n))[G.size]? =some (.cells (Fv zd).toArray bj (0,0)):=u.oth (A.get (k.get0 b2) (by omega)) (by omega);refine pL (c:=zd) (e:=zd) P fun L F=>J e f v L b ?_ ?_
  ·exact(((d.wide.tr (A.mono fun y i=>.inl (i.imp id .inl))).trans u fun y i=>.inl (.inr (.inr i)))).trans F fun y i=>.inr (by have i:y=G.size:=i;omega)
  ·rw[←v]
   exact I.own F (by omega) fun q m=>A8 (g.ne D) q (bG.1 m).1
 ·have w:∀q∈es,q.n≠o.2.2.2.2.2.2.2.1:=fun q m e=>hx ⟨q,m,e⟩
  rw[Pv w];exact aK.2 (xp fun j E=>pL (c:=zd) (e:=(4,0,0,⟨#[]⟩,false,0,bM,bM,bM,bM,bM)) (E.get0 (k.get0 b2)) fun O u=>C w O ((d.tr E).own u D))
theorem Ju(g:SsAt h sp vp sm pb cb s last ids es)(ek:o.1=20){K:An→ac→Prop}(f:(∀q∈es,q.n≠o.2.2.2.2.2.2.2.1)→∀h',Upd No h h'→K (4,0,0,⟨#[]⟩,false,0,bM,bM,bM,bM,bM) h')
  (x:∀e∈es,e.n=o.2.2.2.2.2.2.2.1→∀h' b,Upd (fun y=>y=cb∨y=e.tb∨y=sm) h h'→SsAt h' sp vp sm pb cb s last b ((es.map (frz e.tb)).filter fun q=>decide (q.n≠o.2.2.2.2.2.2.2.1))→K zd h'):
  HC PG bH [.pointer (some ⟨sp,0,none⟩),E4 o] Bj K h:=by
 have D:=g.o;have B:=aL g.b;refine Fm (k:=20) ek (by omega) rfl fun C t k1 p E=>?_
 refine Iq (g.up0 k1) (fun z w j=>⟨No,j,fun h=>h,fun d c=>f z d ((k1.tr j).own c p)⟩) fun e i v w b n A=>⟨_,n,by have:=g.lt e i;omega,fun d c=>x e i v d b ((k1.wide.tr n).trans c fun y m=>.inr (by have m:y=t:=m;omega)) (A.own c (by omega) fun q u=>A8 (g.ne p) q (bG.1 u).1)⟩
end
end Go.Proofs
namespace Go.Proofs
open Go Go.Lift
def H9(eb tb:Nat)(ti:Int)(q:Se):Se:=if q.eb=eb then{q with tb:=tb,ti:=ti}else q
theorem Dj(eb tb:Nat)(ti:Int)(q:Se):(H9 eb tb ti q).n=q.n∧(H9 eb tb ti q).eb=q.eb∧(H9 eb tb ti q).lv=q.lv:=by unfold H9;split<;>exact⟨rfl,rfl,rfl⟩
theorem Ov(eb tb:Nat)(ti:Int)(es:List Se):(es.map (H9 eb tb ti)).map Se.a=es.map Se.a∧(es.map (H9 eb tb ti)).map (·.n)=es.map (·.n)∧(es.map (H9 eb tb ti)).map (·.eb)=es.map (·.eb)∧((es.map (H9 eb tb ti)).filter (·.lv)).length=(es.filter (·.lv)).length:=by
 refine⟨?_,?_,?_,?_⟩
 ·rw[fp]
  exact ef fun q _=>by simp only[Function.comp_apply,Se.a,(Dj eb tb ti q).1,(Dj eb tb ti q).2.1]
 ·rw[fp];exact ef fun q _=>(Dj eb tb ti q).1
 ·rw[fp];exact ef fun q _=>(Dj eb tb ti q).2.1
 ·rw[List.filter_map,cB]
  congr 1
  exact List.filter_congr fun q _=>(Dj eb tb ti q).2.2
theorem My{eb tb:Nat}{ti:Int}:∀{es:List Se},(es.map (·.eb)).Nodup→(es.map (·.tb)).Nodup→(∀q∈es,q.tb≠tb)→((es.map (H9 eb tb ti)).map (·.tb)).Nodup
 | [],_,_,_=>List.nodup_nil
 |q::es,b,c,hn=>by
  have b:=du.1 b;have c:=du.1 c;have i:=My (eb:=eb) (tb:=tb) (ti:=ti) b.2 c.2 fun q m=>hn q (aQ _ m)
  rw[aY,aY,du];refine⟨fun hm=>?_,i⟩
  obtain⟨p,f,e⟩:=aI.1 hm;obtain⟨r,g,rfl⟩:=aI.1 f;have n:q.eb≠r.eb:=fun j=>b.1 (by show q.eb∈es.map (·.eb);rw[j];exact aI.2 ⟨r,g,rfl⟩)
  have d:q.tb≠r.tb:=fun j=>c.1 (by show q.tb∈es.map (·.tb);rw[j];exact aI.2 ⟨r,g,rfl⟩)
  have o:=hn q aP;have k:=hn r (aQ _ g);unfold H9 at e;split at e<;>split at e
  ·omega
  ·exact o e.symm
  ·exact k e
  ·exact d e.symm
section
variable {h:ac} {sp vp sm pb cb:Nat} {s:VS} {last:Int} {ids:List Int} {es:List Se}
theorem PY(g:SsAt h sp vp sm pb cb s last ids es){e:Se}(x:e∈es){K:Tr→ac→Prop}(hk:∀h' t ids' es',es'.map Se.a=es.map Se.a→(∀b,b<h.size→b≠cb→(∀q∈es,q.eb≠b∧q.tb≠b)→h'[b]? =h[b]?∧∀q∈es',q.eb≠b∧q.tb≠b)→Upd (fun y=>cb≤y) h h'→SsAt h' sp vp sm pb cb s last ids' es'→K t h'):
  HC PG tc [.pointer (some ⟨e.eb,0,none⟩)] [.agg [.int .i64,.int .u64,.int .u64,.int .u64,.ptr,.ptr]] K h:=by
 obtain⟨U,H,d3,d4⟩:=g.ed e x;have o1:=g.o;refine HS _ ?_;unfold Cf ag ad cT nv af rE rl C4;refine bc fun C b1 k1=>Ge (U.upd k1 fun h=>h) (H.upd k1 fun h=>h) fun A F=>?_
 have s1:=k1.size;have z1:=aL b1;have s2:=F.size;cases hl:e.lv with
 |false=>
  refine bc fun h3 b3 N=>cU (c:=jA sQ) (vs:=jA s.e) b3 rfl fun T v Q=>aK.2 ⟨_,vc v 0,_,vc v 1,_,vc v 2,_,vc v 3,_,vc v 4,_,vc v 5,?_⟩
  have m:Upd No A T:=N.own Q (av _);refine cU (c:=jA sQ) (vs:=jA s.e) (m.get0 (F.get0 b1)) rfl fun G D J=>⟨_,vc D 0,_,vc D 1,_,vc D 2,_,vc D 3,_,vc D 4,_,vc D 5,?_⟩
  have u:Upd No h G:=((k1.tr F).tr m).own J (av _);exact hk G s.e ids es rfl (fun b W _ L=>⟨u.same b W fun h=>h,L⟩) u.wide (g.up0 u)
 |true=>
  rw[hl]at H;refine bc fun h3 b3 N=>cU (c:=jA sQ) (vs:=jA sQ) b3 rfl fun T v Q=>aq.2 ?_
  have m:Upd No A T:=N.own Q (av _);have n:=(k1.tr F).tr m;have g4:=g.up0 n;have um:1≤(es.filter (·.lv)).length:=List.length_pos_of_mem (bG.2 ⟨x,hl⟩)
  have cap:=g.cap;obtain⟨i,k,Y⟩:∃i k,ids++ [e.ti]=i::k:=by
   cases ids with
   |nil=>exact⟨_,[],rfl⟩
   |cons a l=>exact⟨a,l++ [e.ti],rfl⟩
  have hil:k.length=ids.length:=by have:=congrArg List.length Y;simpa using this.symm
  refine Lo (U.upd n fun h=>h) (H.upd n fun h=>h) g4.p (by omega) Y fun G d J X t5 V e5 q5=>?_
  have lt:=g.lt;have lte:=lt e x;have Pn:=n.size;have s24:=m.size;refine bc fun h6 b6 k6=>cU (c:=jA sQ) (vs:=jA s.e) b6 rfl fun h7 B u7=>⟨_,vc B 0,_,vc B 1,_,vc B 2,_,vc B 3,_,vc B 4,_,vc B 5,?_⟩
  have E:Upd No G h7:=k6.own u7 (av _);have d7:h7[h.size]? =some (.cells (jA sQ).toArray aR (0,0)):=E.get0 (J.get (m.get0 (F.get0 b1)) (by omega));refine cU (c:=jA sQ) (vs:=jA s.e) d7 rfl fun I z u8=>⟨_,vc z 0,_,vc z 1,_,vc z 2,_,vc z 3,_,vc z 4,_,vc z 5,?_⟩
  have o:Upd (fun y=>y=h.size) G I:=E.wide.tr u8
  have f:Upd (fun y=>y=cb∨y=e.tb∨y=e.eb∨y=h.size) h I:=(n.wide.tr (J.mono fun y P=>.inl (by omega))).tr (o.mono fun y P=>.inl (by omega))
  obtain⟨Z,m2,m3,m4⟩:=Ov e.eb d i es;refine hk I s.e k (es.map (H9 e.eb d i)) Z (fun b W hcb L=>⟨f.same b W fun hh=>?_,fun q p=>?_⟩) (f.mono fun y P=>.inl (by omega)) ?_
  ·have:=L e x;omega
  ·obtain⟨r,j,rfl⟩:=aI.1 p
   have:=L r j;refine⟨by rw[(Dj e.eb d i r).2.1];exact this.1,?_⟩;unfold H9;split
   ·show d≠b;omega
   ·exact this.2
  ·have S:∀r∈es,r.eb≠cb∧r.tb≠cb:=fun r j=>by obtain⟨_,_,O,c4⟩:=g.ed r j;omega
   have hx:∀r∈es,r.eb≠e.tb∧r.tb≠e.eb:=fun r j=>by
    obtain⟨c1,R,_,_⟩:=g.ed r j;refine⟨fun w=>?_,fun w=>?_⟩
    ·have C:h[r.eb]? =some (.cells (Rx pb r.tb s.e).toArray pK (0,0)):=c1
     rw[w]at C;have A:h[e.tb]? =some (.cells #[.pointer (some ⟨pb,0,none⟩),.int .i64 e.ti,.bool true] j4 (0,0)):=H;have:=C.symm.trans A;simp at this
    ·have C:h[r.tb]? =some (.cells #[.pointer (some ⟨pb,0,none⟩),.int .i64 r.ti,.bool r.lv] j4 (0,0)):=R
     rw[w]at C;have A:h[e.eb]? =some (.cells (Rx pb e.tb s.e).toArray pK (0,0)):=U;have:=C.symm.trans A;simp at this
   have zsp:=aL g.b;refine⟨WS.re g.v g.vl f fun y P=>by omega,g.vl,g.vc,f.get g.b (by omega),g.o,by rw[Z];exact g.m.upd f (by have:=g.m.lt;omega),X.upd o (by have:=aL X.2.1;omega) (by omega),by rw[m4];omega,fun q p=>?_,by rw[m3];exact g.nde,My g.nde g.ndt fun q p=>by have:=lt q p;omega,fun q p=>?_,by rw[m2];exact g.ndk,by rw[cB];exact g.few,g.l0⟩
   ·obtain⟨r,j,rfl⟩:=aI.1 p
    obtain⟨c1,R,O,c4⟩:=g.ed r j;have l1:=lt r j;obtain⟨n1,n2⟩:=S r j;obtain⟨x1,x2⟩:=hx r j;by_cases w:r.eb=e.eb
    ·have er:=IW g.nde j x w
     subst er;rw[show H9 r.eb d i r={r with tb:=d,ti:=i} by unfold H9;rw[if_pos rfl]]
     refine⟨e5.upd o (by omega),?_,O,by show sp<d;omega⟩
     show TokAt I d pb i r.lv
     rw[hl];exact V.upd o (by omega)
    ·rw[show H9 e.eb d i r=r by unfold H9;rw[if_neg w]]
     have tt:r.tb≠e.tb:=fun h=>w (by rw[IW g.ndt j x h])
     exact⟨c1.upd f (by omega),R.upd f (by omega),O,c4⟩
   ·obtain⟨r,j,rfl⟩:=aI.1 p
    rw[(Dj e.eb d i r).1];exact g.ky r j
end
end Go.Proofs
namespace Go.Proofs
open Go Go.Lift
theorem Pb{M:Nat→Prop}{h:ac}{c:SliceV}{out:List Int}{x:Int}{K:SliceV→ac→Prop}(g:OwnS u32 1 iQ M h c out)(hM:∀b,h.size≤b→M b)(i:out.length≤1000000000)
  (f:∀s' h',OwnS u32 1 iQ M h' s' (out++ [x])→Upd M h h'→K s' h'):
  ∃xs,SRow (hnew h [.int .u32 x] iQ) (some (aV h)) (1*1) xs∧AppP (some [.int .u32 0]) 1 4 iQ c.a c.len c.cap 1 xs (hnew h [.int .u32 x] iQ) K:=by
 have k:=Upd.hnew No h [.int .u32 x] iQ;refine⟨_,((PM (M:=fun _=>True) h x trivial).sl (W:=No) fun _ _ _ h=>h).srow,?_⟩
 refine AppP.own (ys:= [x]) (g.upd k fun _ _ h=>h) rfl rfl rfl rfl (by omega) (by simp only[dz];omega) (hM _ (by rw[gg];omega)) fun s' h' d e=>?_
 exact f s' h' d ((Upd.hnew M h _ _).tr e)
theorem MZ{h:ac}{r:Nat}{m:List (Int×SliceV)}(hm:MapAt KE sv h r m){K:Value→ac→Prop}
  (o:∀fv h',Gives PG fv u32 m.length (fun xs=>xs.Perm (m.map (·.1))) (fun b=>b=r∨b=h.size) h'→Upd No h h'→K fv h'):HC PG fa [.map (some r)] [.c .raw] K h:=by
 refine nQ (some r) ?_;unfold iu;have k:=Upd.hnew No h [.map (some r)] pC;refine o _ _ ?_ k;refine Dx (hm.upd k id) (bx:=h.size) (be ..) fun y s K p d=>l7 y ⟨h.size,0,none⟩ ?_
 unfold eD;obtain⟨c,⟨es,f⟩,d⟩:=d;refine⟨some r,by rw[aC p];rfl,c,.inr ⟨r,es,rfl,f⟩,?_⟩
 refine(d _ rfl).imp fun I t h n=>n.imp id fun e u ⟨x,v,j,g,i,q⟩=>⟨rfl,e,x,v,j,g,i,q⟩
theorem Gp{h:ac}{fv:Value}{N:Nat}{S:List Int→Prop}{Q:Nat→Prop}(hg:Gives PG fv u32 N S Q h)(hN:N≤1000000000){K:SliceV→ac→Prop}
  (hk:∀s' h' xs,S xs→OwnS u32 1 iQ (fun b=>h.size≤b) h' s' xs→Upd No h h'→K s' h'):HC PG gv [.slice none 0 0,fv] [.c .slice] K h:=by
 refine qy ⟨none,0,0⟩ fv ?_;unfold jW P2;have k0:=Upd.hnew No h [.slice none 0 0] sR;have b0:=be h [.slice none 0 0] sR;have Y:(hnew h [.slice none 0 0] sR).size=h.size+1:=gg ..;have O:=hg.upd k0 fun _ _=>id
 simp only[At];generalize hnew h [.slice none 0 0] sR=h1 at O k0 b0 Y;refine⟨fun lo hlo k=>?_⟩
 obtain⟨f,first,cap,rfl,E⟩:=O.run
 refine⟨f,first,cap,rfl,?_⟩
 have k1:Upd No h1 ((h1.push (.deferred (some []))).push (lo .ready none)):=(Upd.push No _ _).tr (Upd.push No _ _);have l2:((h1.push (.deferred (some []))).push (lo .ready none))[h1.size+1]? =some (lo .ready none):=by
  have:=jN (h1.push (.deferred (some []))) (lo .ready none);rwa [Array.size_push]at this
 have l1:((h1.push (.deferred (some []))).push (lo .ready none))[h1.size]? =some (.deferred (some [])):=(Upd.push No _ _).get0 (jN h1 _);refine E (.func (.yield (h1.size+1)) #[] #[]) (fun j A h'=>(∀b,A b→b<h'.size∧h.size≤b)∧A h.size∧A h1.size∧A (h1.size+1)∧h'[h1.size]? =some (.deferred (some []))∧h'[h1.size+1]? =some (lo .ready none)∧
   ∃s:SliceV,h'[h.size]? =some (.cells #[sv s] sR (0,0))∧OwnS u32 1 iQ (fun b=>A b∧h1.size+1<b) h' s j∧j.length≤N)
  (fun b=>b=h.size∨b=h1.size∨b=h1.size+1) No _ _ ⟨fun _ _ _ G b c=>(G.1 b c).1,fun j A h' h'' B G u R=>?_,fun j A h' x K' G hlen hK=>?_⟩ ?_ k1 (fun _ _=>id) (fun b c hq=>?_) ?_
 ·obtain⟨C,D,m,n,U,h6,s,h7,h8,h9⟩:=G
  exact⟨fun b c=>⟨aE (C b c).1 u.size,(C b c).2⟩,D,m,n,u.get U (R _ m),u.get h6 (R _ n),s,u.get h7 (R _ D),h8.upd u fun b c=>R b c.1,h9⟩
 ·obtain⟨p,g,q,d,hd,H,s,T,X,Z⟩:=G
  refine k x h' K' H ⟨H,?_⟩;have t:Upd (· =h1.size+1) h' (h'.setIfInBounds (h1.size+1) (lo .busy none)):=Upd.set _ _ rfl
  have V:=dU (o:=lo .busy none) H;have sb:=t.size;generalize h'.setIfInBounds (h1.size+1) (lo .busy none)=D at t V sb;refine⟨s,by rw[bN,aC (t.get T (by omega))];rfl,?_⟩
  refine Pb (M:=fun b=>(A b∨D.size≤b)∧h1.size+1<b) ((X.upd t fun b c=>by omega).more fun b c=>⟨.inl c.1,c.2⟩) (fun b c=>⟨.inr c,by have:=aL V;omega⟩) (by omega) fun s' m ho3 i=>?_
  have w:m[h.size]? =some (.cells #[sv s] sR (0,0)):=i.get (t.get T (by omega)) (by omega);refine⟨by rw[bN];exact fR w (by simp),?_⟩;have y:Upd (· =h.size) m (hset m (aV h) (.slice s'.a s'.len s'.cap)):=Upd.hset _ _ rfl
  have J:(hset m (aV h) (.slice s'.a s'.len s'.cap))[h.size]? =some (.cells #[sv s'] sR (0,0)):=by
   rw[bN,mq w,dU w];rfl
  generalize hset m (aV h) (.slice s'.a s'.len s'.cap)=n at y J;have P:n[h1.size+1]? =some (lo .busy none):=y.get (i.get V (by omega)) (by omega);refine⟨P,?_⟩;have e:Upd (· =h1.size+1) n (n.setIfInBounds (h1.size+1) (lo .ready none)):=Upd.set _ _ rfl
  have W:=dU (o:=lo .ready none) P;have z:Upd A h' n:=((t.mono (M':=A) fun b c=>.inl (c▸d)).trans i fun b c=>c.1.imp id fun h=>by omega).trans y fun b c=>.inl (c▸g)
  have z3:=i.size;have z4:=y.size;have z5:=e.size;refine hK _ (fun b=>(A b∨D.size≤b)∧b<n.size) ⟨fun b c=>⟨aE c.2 z5,c.1.elim (fun h=>(p b h).2) fun h=>by have:=(p _ g).1;omega⟩,⟨.inl g,by have:=(p _ g).1;omega⟩,⟨.inl q,by have:=(p _ q).1;omega⟩,⟨.inl d,by have:=(p _ d).1;omega⟩,
   e.get (y.get (i.get (t.get hd (by omega)) (by omega)) (by omega)) (by omega),W,s',e.get J (by omega),?_,by simp;omega⟩ (z.trans e fun b c=>.inl (c▸d)) fun b c=>c.1.imp id fun h=>by omega
  exact(((ho3.upd y fun b c=>by omega).within).more fun b c=>⟨⟨c.1.1,c.2⟩,c.1.2⟩).upd e fun b c=>by omega
 ·refine⟨fun b c=>?_,.inl rfl,.inr (.inl rfl),.inr (.inr rfl),l1,l2,⟨none,0,0⟩,k1.get0 b0,OwnS.nil uT,cu _⟩
  have:=aL l2;rcases c with rfl|rfl|rfl<;>omega
 ·have:=hg.lt b hq
  rcases c with rfl|rfl|rfl<;>omega
 ·rintro xs A' h' hS ⟨p,g,q,d,hd,H,s,T,X,Z⟩ u hA'
  refine⟨.ready,none,by decide,H,?_⟩
  have e:Upd (· =h1.size+1) h' (h'.setIfInBounds (h1.size+1) (lo .exhausted none)):=Upd.set _ _ rfl
  show∃v:SliceV,aB (h'.setIfInBounds (h1.size+1) (lo .exhausted none)) (aV h)=some (.slice v.a v.len v.cap)∧_
  have L:=e.get hd (show ¬h1.size=h1.size+1 by omega)
  have I:=e.get T (show ¬h.size=h1.size+1 by omega)
  have F:=X.upd e fun b c=>by omega
  generalize h'.setIfInBounds (h1.size+1) (lo .exhausted none)=U at e L I F;refine⟨s,by rw[bN,aC I];rfl,L,?_⟩
  have k6:Upd (· =h1.size) U (U.setIfInBounds h1.size (.deferred none)):=Upd.set _ _ rfl
  refine hk s _ xs hS ((F.upd k6 fun b c=>by omega).more fun b c=>(p b c.1).2) ?_
  refine(((k0.tr k1).trans u fun b c=>?_).trans e fun b c=>.inr (by omega)).trans k6 fun b c=>.inr (by omega)
  rcases c with rfl|rfl|rfl<;>(right;omega)
theorem Jy{h:ac}{c:Value}{N:Nat}{S:List Int→Prop}{Q:Nat→Prop}(d:Gives PG c u32 N S Q h)(f:N≤1000000000){K:SliceV→ac→Prop}
  (e:∀s' h' xs,S xs→OwnS u32 1 iQ (fun b=>h.size≤b) h' s' xs→Upd No h h'→K s' h'):HC PG kX [c] [.c .slice] K h:=by
 refine wS c ?_;unfold qf;exact Gp d f e
end Go.Proofs
namespace Go.Proofs
open Go Go.Lift Go.Sort
abbrev F9(x:Int):List Value:= [.int .i64 x]
theorem M3(x:Int):(F9 x).length=1∧0<1:=⟨rfl,Nat.one_pos⟩
abbrev Ro(W:Nat→Prop)(h:ac)(s:SliceV)(xs:List Int):Prop:=Sl F9 1 W h s xs
theorem Lg{x:Int}{h:ac}{K:Bool→ac→Prop}(b:K false h):HC PG mL [.int .i64 x] [.c .bool] K h:=by
 refine CH x ?_;unfold vF;rw[show(x !=x)=false by simp];exact b
theorem MS{x y:Int}{h:ac}{K:Bool→ac→Prop}(b:K (decide (x<y)) h):HC PG ce [.int .i64 x,.int .i64 y] [.c .bool] K h:=by
 refine D8 x y ?_;unfold xe;refine Lg ?_;exact aq.2 b
theorem NR{M:Nat→Prop}{h:ac}{c:SliceV}{out:List Int}{x:Int}{K:SliceV→ac→Prop}(g:OwnS F9 1 ig M h c out)(hM:∀b,h.size≤b→M b)(i:out.length≤1000000000)
  (f:∀s' h',OwnS F9 1 ig M h' s' (out++ [x])→Upd M h h'→K s' h'):
  ∃xs,SRow (hnew h [.int .i64 x] ig) (some (aV h)) (1*1) xs∧AppP (some [.int .i64 0]) 1 8 ig c.a c.len c.cap 1 xs (hnew h [.int .i64 x] ig) K:=by
 have k:=Upd.hnew No h [.int .i64 x] ig;refine⟨_,((OwnS.one M3 (be ..)).sl (W:=No) fun _ _ _ h=>h).srow,?_⟩
 refine AppP.own (ys:= [x]) (g.upd k fun _ _ h=>h) rfl rfl rfl rfl (by omega) (by simp only[dz];omega) (hM _ (by rw[gg];omega)) fun s' h' d e=>?_
 exact f s' h' d ((Upd.hnew M h _ _).tr e)
theorem Ey{h:ac}{fv:Value}{N:Nat}{S:List Int→Prop}{Q:Nat→Prop}(hg:Gives PG fv F9 N S Q h)(hN:N≤1000000000){K:SliceV→ac→Prop}
  (hk:∀s' h' xs,S xs→OwnS F9 1 ig (fun b=>h.size≤b) h' s' xs→Upd No h h'→K s' h'):HC PG gw [.slice none 0 0,fv] [.c .slice] K h:=by
 refine qz ⟨none,0,0⟩ fv ?_;unfold jX uu;have k0:=Upd.hnew No h [.slice none 0 0] sS;have b0:=be h [.slice none 0 0] sS;have Y:(hnew h [.slice none 0 0] sS).size=h.size+1:=gg ..;have O:=hg.upd k0 fun _ _=>id
 simp only[At];generalize hnew h [.slice none 0 0] sS=h1 at O k0 b0 Y;refine⟨fun lo hlo k=>?_⟩
 obtain⟨f,first,cap,rfl,E⟩:=O.run
 refine⟨f,first,cap,rfl,?_⟩
 have k1:Upd No h1 ((h1.push (.deferred (some []))).push (lo .ready none)):=(Upd.push No _ _).tr (Upd.push No _ _);have l2:((h1.push (.deferred (some []))).push (lo .ready none))[h1.size+1]? =some (lo .ready none):=by
  have:=jN (h1.push (.deferred (some []))) (lo .ready none);rwa [Array.size_push]at this
 have l1:((h1.push (.deferred (some []))).push (lo .ready none))[h1.size]? =some (.deferred (some [])):=(Upd.push No _ _).get0 (jN h1 _);refine E (.func (.yield (h1.size+1)) #[] #[]) (fun j A h'=>(∀b,A b→b<h'.size∧h.size≤b)∧A h.size∧A h1.size∧A (h1.size+1)∧h'[h1.size]? =some (.deferred (some []))∧h'[h1.size+1]? =some (lo .ready none)∧
   ∃s:SliceV,h'[h.size]? =some (.cells #[sv s] sS (0,0))∧OwnS F9 1 ig (fun b=>A b∧h1.size+1<b) h' s j∧j.length≤N)
  (fun b=>b=h.size∨b=h1.size∨b=h1.size+1) No _ _ ⟨fun _ _ _ G b c=>(G.1 b c).1,fun j A h' h'' B G u R=>?_,fun j A h' x K' G hlen hK=>?_⟩ ?_ k1 (fun _ _=>id) (fun b c hq=>?_) ?_
 ·obtain⟨C,D,m,n,U,h6,s,h7,h8,h9⟩:=G
  exact⟨fun b c=>⟨aE (C b c).1 u.size,(C b c).2⟩,D,m,n,u.get U (R _ m),u.get h6 (R _ n),s,u.get h7 (R _ D),h8.upd u fun b c=>R b c.1,h9⟩
 ·obtain⟨p,g,q,d,hd,H,s,T,X,Z⟩:=G
  refine k x h' K' H ⟨H,?_⟩;have t:Upd (· =h1.size+1) h' (h'.setIfInBounds (h1.size+1) (lo .busy none)):=Upd.set _ _ rfl
  have V:=dU (o:=lo .busy none) H;have sb:=t.size;generalize h'.setIfInBounds (h1.size+1) (lo .busy none)=D at t V sb;refine⟨s,by rw[bN,aC (t.get T (by omega))];rfl,?_⟩
  refine NR (M:=fun b=>(A b∨D.size≤b)∧h1.size+1<b) ((X.upd t fun b c=>by omega).more fun b c=>⟨.inl c.1,c.2⟩) (fun b c=>⟨.inr c,by have:=aL V;omega⟩) (by omega) fun s' m ho3 i=>?_
  have w:m[h.size]? =some (.cells #[sv s] sS (0,0)):=i.get (t.get T (by omega)) (by omega);refine⟨by rw[bN];exact fR w (by simp),?_⟩;have y:Upd (· =h.size) m (hset m (aV h) (.slice s'.a s'.len s'.cap)):=Upd.hset _ _ rfl
  have J:(hset m (aV h) (.slice s'.a s'.len s'.cap))[h.size]? =some (.cells #[sv s'] sS (0,0)):=by
   rw[bN,mq w,dU w];rfl
  generalize hset m (aV h) (.slice s'.a s'.len s'.cap)=n at y J;have P:n[h1.size+1]? =some (lo .busy none):=y.get (i.get V (by omega)) (by omega);refine⟨P,?_⟩;have e:Upd (· =h1.size+1) n (n.setIfInBounds (h1.size+1) (lo .ready none)):=Upd.set _ _ rfl
  have W:=dU (o:=lo .ready none) P;have z:Upd A h' n:=((t.mono (M':=A) fun b c=>.inl (c▸d)).trans i fun b c=>c.1.imp id fun h=>by omega).trans y fun b c=>.inl (c▸g)
  have z3:=i.size;have z4:=y.size;have z5:=e.size;refine hK _ (fun b=>(A b∨D.size≤b)∧b<n.size) ⟨fun b c=>⟨aE c.2 z5,c.1.elim (fun h=>(p b h).2) fun h=>by have:=(p _ g).1;omega⟩,⟨.inl g,by have:=(p _ g).1;omega⟩,⟨.inl q,by have:=(p _ q).1;omega⟩,⟨.inl d,by have:=(p _ d).1;omega⟩,
   e.get (y.get (i.get (t.get hd (by omega)) (by omega)) (by omega)) (by omega),W,s',e.get J (by omega),?_,by simp;omega⟩ (z.trans e fun b c=>.inl (c▸d)) fun b c=>c.1.imp id fun h=>by omega
  exact(((ho3.upd y fun b c=>by omega).within).more fun b c=>⟨⟨c.1.1,c.2⟩,c.1.2⟩).upd e fun b c=>by omega
 ·refine⟨fun b c=>?_,.inl rfl,.inr (.inl rfl),.inr (.inr rfl),l1,l2,⟨none,0,0⟩,k1.get0 b0,OwnS.nil M3,cu _⟩
  have:=aL l2;rcases c with rfl|rfl|rfl<;>omega
 ·have:=hg.lt b hq
  rcases c with rfl|rfl|rfl<;>omega
 ·rintro xs A' h' hS ⟨p,g,q,d,hd,H,s,T,X,Z⟩ u hA'
  refine⟨.ready,none,by decide,H,?_⟩
  have e:Upd (· =h1.size+1) h' (h'.setIfInBounds (h1.size+1) (lo .exhausted none)):=Upd.set _ _ rfl
  show∃v:SliceV,aB (h'.setIfInBounds (h1.size+1) (lo .exhausted none)) (aV h)=some (.slice v.a v.len v.cap)∧_
  have L:=e.get hd (show ¬h1.size=h1.size+1 by omega)
  have I:=e.get T (show ¬h.size=h1.size+1 by omega)
  have F:=X.upd e fun b c=>by omega
  generalize h'.setIfInBounds (h1.size+1) (lo .exhausted none)=U at e L I F;refine⟨s,by rw[bN,aC I];rfl,L,?_⟩
  have k6:Upd (· =h1.size) U (U.setIfInBounds h1.size (.deferred none)):=Upd.set _ _ rfl
  refine hk s _ xs hS ((F.upd k6 fun b c=>by omega).more fun b c=>(p b c.1).2) ?_
  refine(((k0.tr k1).trans u fun b c=>?_).trans e fun b c=>.inr (by omega)).trans k6 fun b c=>.inr (by omega)
  rcases c with rfl|rfl|rfl<;>(right;omega)
theorem HJ{h:ac}{c:Value}{N:Nat}{S:List Int→Prop}{Q:Nat→Prop}(d:Gives PG c F9 N S Q h)(f:N≤1000000000){K:SliceV→ac→Prop}
  (e:∀s' h' xs,S xs→OwnS F9 1 ig (fun b=>h.size≤b) h' s' xs→Upd No h h'→K s' h'):HC PG kY [c] [.c .slice] K h:=by
 refine wT c ?_;unfold qg;exact Ey d f e
end Go.Proofs
