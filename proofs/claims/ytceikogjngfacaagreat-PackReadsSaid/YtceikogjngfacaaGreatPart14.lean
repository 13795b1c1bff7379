/- A part of the proof that the named laws of this program answer true, whatever the input. -/
import Derived.Test.YtceikogjngfacaaGreatPart13
import Derived.Test.YtceikogjngfacaaGreatPart10
import Derived.Shelf.SlLaysF0
import Derived.Test.YtceikogjngfacaaGreatTreeF
import Derived.Shelf.Lays
import Derived.Shelf.Lays2
import Derived.Test.YtceikogjngfacaaGreatPart7
import Derived.Shelf.Sort.Plain
import Derived.Shelf.Slices.In.SortNone
import Derived.Shelf.SlSortCmp.NoneTotal
import Derived.Test.YtceikogjngfacaaGreatPart9
import Derived.Shelf.Spec.SearchS
import Derived.Laws.Cover1
import Derived.Test.YtceikogjngfacaaGreatPart8
import Derived.Sort.AssemblyPlain
open Array renaming ext_getElem?→ly,length_toList→iY,getElem?_modify→mg
open Bool renaming and_eq_true→aO
open Eq renaming symm→jH
open Go.IntKind renaming wrap→ac
open Int renaming tdiv→pM
open List renaming length_append→af,length_singleton→aI,map_append→cj,mem_map→bI,mem_append→be,mem_singleton→aq,nodup_append→mo,ext_getElem?→mw,getElem?_set_self→jg,length_map→aX,getElem_map→cH,getElem?_eq_getElem→ag,length_take→aL,getElem_mem→bR,all_eq_true→gU,mem_iff_getElem→dP,pairwise_iff_getElem→df,set_cons_succ→fk,take_succ_eq_append_getElem→bd,nodup_nil→fp,getElem?_toArray→eX,getElem?_append_left→bw,getElem?_append_right→aH,getElem?_eq_none→me,length_eq_zero_iff→ax,mem_cons→ar,flatMap_cons→aZ
open List.Pairwise renaming nil→dh
open List.Perm renaming refl→mR
open Nat renaming zero_le→aY,not_lt→eW,lt_of_lt_of_le→aC,lt_irrefl→fx,beq→aM,zero_add→bK,le_refl→ai
namespace Go.Proofs
open Go Go.Lift
def TsOk(s:VS)(ds:List TD)(W:Nat→Prop)(h:ae):Prop:=∀d∈ds,TreeIs W h s.kind s.x d.1 d.2∧fE d.2∧Fit d.2
theorem TsOk.stab{s:VS}{ds:List TD}:Stab (TsOk s ds):=fun _ _ _ _ _ i u hm e d hd=>⟨(i d hd).1.re u hm fun b c=>(e b c).1,(i d hd).2⟩
section
variable {h h0:ae} {sp vp sm pb cb eb tb:Nat} {last n ti:Int} {ids ids':List Int} {es:List Sg} {lv:Bool} {d:TD}
theorem StoQ.add(q:StoQ sp vp sm pb cb last ids es h0)(u:Upd (fun y=>y=cb∨y=sm) h0 h)(m:MapAt KI pA h sm (oE (es.map Sg.a) n (some ⟨eb,0,none⟩)))(p:PoolAt h pb cb 16 ids')(ed:EdAt h eb pb tb d.1)(tk:TokAt h tb pb ti lv)(A:h0.size≤eb∧h0.size≤tb)(j:n∉es.map (·.n))(hc:ids'.length+((es++ [(⟨n,eb,tb,ti,lv,d⟩:Sg)]).filter fun e:Sg=>e.lv).length=16)(s:es.length<16):StoQ sp vp sm pb cb last ids' (es++ [⟨n,eb,tb,ti,lv,d⟩]) h:=by
 have z:=q.o;have lt:=q.lt;have B:=bc q.b;refine⟨u.get q.b (by omega),q.o,?_,p,hc,fun e g=>?_,?_,?_,?_,by rw[af,aI];omega⟩
 ·rw[X5 fun hm=>?_]at m
  ·rw[cj];exact m
  ·obtain⟨a,c,e⟩:=bI.1 hm
   obtain⟨r,i,rfl⟩:=bI.1 c;exact j (bI.2 ⟨r,i,e⟩)
 ·rcases be.1 g with g|g
  ·obtain⟨x,v,w,o⟩:=q.ed e g
   exact⟨x.upd u (by omega),v.upd u (by omega),w,o⟩
  ·rw[aq.1 g]
   exact⟨ed,tk,by show sp<eb;omega,by show sp<tb;omega⟩
 ·rw[cj,mo]
  exact⟨q.nde,by simp,fun a c b f=>by obtain⟨r,i,rfl⟩:=bI.1 c;have:=lt _ (.inr ⟨r,i,.inl rfl⟩);simp at f;omega⟩
 ·rw[cj,mo]
  exact⟨q.ndt,by simp,fun a c b f=>by obtain⟨r,i,rfl⟩:=bI.1 c;have:=lt _ (.inr ⟨r,i,.inr rfl⟩);simp at f;omega⟩
 ·rw[cj,mo]
  exact⟨q.ndk,by simp,fun a c b f e=>by simp at f;subst f;subst e;exact j c⟩
end
section
variable {Ss:List Sp} {z h:ae} {sp vp sm pb cb j:Nat} {ids0:List Int} {s:VS} {X Y:(Nat→Prop)→ae→Prop} {u:Pt} {p:RParts}
theorem Fm.addX(g:Fm Ss (Fv z vp s X) h)(b:Stab Y)(y:Y (fun y=>s.M y∨AL Ss y) h):Fm Ss (Fv z vp s fun W h=>X W h∧Y W h) h:=
 ⟨g.o,Fv.stab,g.f.k,g.f.lo,g.f.v,g.f.ap,g.f.sx.and b,g.f.x,y⟩
theorem Fm.lessX(g:Fm Ss (Fv z vp s X) h)(b:Stab Y)(f:∀{W h},X W h→Y W h):Fm Ss (Fv z vp s Y) h:=
 ⟨g.o,Fv.stab,g.f.k,g.f.lo,g.f.v,g.f.ap,b,f g.f.x⟩
abbrev Sg.t(e:Sg):Int×Bool×List Pr:=(e.n, !e.lv,e.d.2)
set_option maxHeartbeats 1000000 in
theorem K9(g:Fm Ss (Fv z vp s X) h)(hj:Ss[j]? =some (nR sp vp sm pb cb 0 ids0 [])) (pj:∀{W h},X W h→PtIs W h u p) (pi:PtsI p) (O:s.kind=p.kind∧s.x=p.x) (hl:p.ss.length≤100000) {K:Bool→ae→Prop}
  (hk:∀E b last ids es,b=tf p.last p.ss→(b=true→last=p.last∧es.map Sg.t=p.ss)→Fm (Ss.set j (nR sp vp sm pb cb last ids es)) (Fv z vp s fun W h=>X W h∧TsOk s (es.map (·.d)) W h) E→K b E):f5 47 [gF sp,.agg (zR u).toArray] K h:=by
 have hjl:j<Ss.length:=(List.getElem?_eq_some_iff.1 hj).1;have Q:Ss.set j (nR sp vp sm pb cb 0 ids0 [])=Ss:=by
  apply mw;intro i;by_cases e:i=j
  ·subst e;rw[jg hjl,hj]
  ·rw[List.getElem?_set_ne (Ne.symm e)]
 refine eM (oT (some ⟨sp,0,none⟩) u) wY Tryz.func47 Tryz.call47 ?_;dsimp only[oT,cg,aR,cq,QN,dg,db,jO,dy,ce,yj,Sz,dq,mH,Bu,MB,kR,XC,nv,jI,Ir,MH,ic,ji,I0];have g':=g.addX (Y:=TsOk s []) TsOk.stab fun _ h=>by cases h
 refine g'.var fun h1 g1=>⟨u.2.2.2.2.2.2.2.2.2,g1.cl 0 rfl 9,?_⟩
 have P:=pj g1.f.x.1;have pl:=P.l;obtain⟨SS,hs,J⟩:=P.s;have ls:=hs.len;have ls2:=J.1;have H:SS.map (·.1)=p.ss.map (·.1):=List.ext_getElem (by simp[ls2]) fun i hi hi2=>by
  rw[aX]at hi hi2;rw[cH,cH];exact(J.2 i _ _ (ag hi) (ag hi2)).1
 have nl:=pi.l;refine Join.intro (fun t E=>t= !(decide (p.ss.length≤16)&&qS GX (p.ss.map (·.1)))∧Upd No h1 E) (fun R N=>?_) ?_
 ·refine Sh hs (by omega) fun h2 b1 eb Z=>?_
  rw[H]at eb;cases hb:b1 with
  |false=>
   rw[hb]at eb;exact aV.2 (N _ _ ⟨by rw[←eb];simp,Z⟩)
  |true=>
   rw[hb]at eb;have g2:=g1.up0 Z;refine ay.2 (ak (fun c=>N _ _ ⟨by rw[decide_eq_false (by omega)];rfl,Z⟩) fun c=>⟨_,g2.cl 0 rfl 8,ak (fun c2=>absurd c2 (by omega)) fun _=>⟨_,g2.cl 0 rfl 8,N _ _ ⟨?_,Z⟩⟩⟩)
   rw[←eb,decide_eq_true (show p.ss.length≤16 by omega),decide_eq_false (by omega)];rfl
 rintro t h2 ⟨rfl,Z⟩;have g2:=g1.up0 Z;refine CondP.intro (fun c=>?_) fun c=>?_
 ·refine hk h2 false 0 ids0 [] (jH ?_) (fun e=>by cases e) (by rw[Q];exact g2.tail)
  unfold tf;have c:(decide (p.ss.length≤16)&&qS GX (p.ss.map (·.1)))=false:=(Bool.not_eq_true' _).mp c
  rw[c];rfl
 have c:(decide (p.ss.length≤16)&&qS GX (p.ss.map (·.1)))=true:=by simpa using c
 have sB:tf p.last p.ss=p.ss.all fun s=>decide (1≤s.1∧s.1≤p.last):=by unfold tf;rw[c,Bool.true_and]
 rw[aO,decide_eq_true_iff]at c;obtain⟨h16,adj⟩:=c;have pw:(p.ss.map (·.1)).Pairwise fun a b=>GX a b=true:=xu (fun a b c h k=>by unfold GX at*;simp only[decide_eq_true_iff]at*;omega) adj
 refine LoopP.ghost (fun(w:Nat×List Int×List Sg) (t:Int) E=>t=(w.1:Int)∧w.1≤p.ss.length∧w.2.2.map Sg.t=p.ss.take w.1∧(∀s∈p.ss.take w.1,1≤s.1∧s.1≤p.last)∧Fm (bU h.size (zR u) 53::Ss.set j (nR sp vp sm pb cb 0 w.2.1 w.2.2)) (Fv z vp s fun W h=>X W h∧TsOk s (w.2.2.map (·.d)) W h) E) (fun w=>p.ss.length-w.1) (0,ids0,[]) ⟨rfl,aY _,rfl,fun _ h=>by simp at h,by rw[Q];exact g2⟩ ?_
 rintro I ⟨i,ids,es⟩ t h3 ⟨rfl,hi,F,hp,T⟩ hI;(try simp only at hi F hp T)
 have G:(Ss.set j (nR sp vp sm pb cb 0 ids es))[j]? =some (nR sp vp sm pb cb 0 ids es):=jg hjl;have hel:es.length=i:=by have:=congrArg List.length F;simp only[aX,aL]at this;omega
 refine ak (fun c=>?_) fun c=>?_
 ·have B:i<p.ss.length:=by omega
  obtain⟨SS,hs,J⟩:=(pj T.f.x.1).s;have ls2:=J.1;have U:=J.2 i _ _ (ag (show i<SS.length by omega)) (ag B)
  have st:Stab fun W h=>SesOk W h p.kind p.x SS[i] p.ss[i]:=fun _ _ _ _ _ o u hm hw=>o.re u hm fun b hb=>(hw b hb).1
  obtain⟨a,ha,_,hc⟩:=hs.at (ag (show i<SS.length by omega))
  obtain⟨v1,v2,v3⟩:=pi.s _ (bR B);refine⟨⟨by omega,by omega⟩,a,ha,_,hc 0 _ rfl,_,hc 1 _ rfl,_,hc 2 _ rfl,_,hc 3 _ rfl,_,hc 4 _ rfl,_,hc 5 _ rfl,_,hc 6 _ rfl,_,hc 7 _ rfl,(T.addX st U).var fun h4 g4=>g4.fill (vs:=La SS[i]) 0 rfl rfl fun h5 D=>?_⟩
  have e1:=U.1;refine Join.intro (fun t E=>t= !decide (1≤p.ss[i].1∧p.ss[i].1≤p.last)∧Upd No h5 E) (fun R N=>⟨_,D.cl 0 rfl 0,ak (fun c=>N _ _ ⟨?_,Upd.refl _ _⟩) fun c=>⟨_,D.cl 0 rfl 0,_,D.cl 1 rfl 8,ak (fun c=>N _ _ ⟨?_,Upd.refl _ _⟩) fun c2=>?_⟩⟩) ?_
  ·rw[decide_eq_false (by omega)];rfl
  ·rw[decide_eq_false (by omega)];rfl
  ·have q5:StoQ sp vp sm pb cb 0 ids es h5:=D.o.get (i:=j+2) (by simpa using G)
   refine⟨_,D.cl 0 rfl 2,_,D.cl 0 rfl 3,_,D.cl 0 rfl 4,_,D.cl 0 rfl 5,_,D.cl 0 rfl 6,_,D.cl 0 rfl 7,_,rfl,_,vc q5.b 0,Dx D.f.v fun h6 k6=>?_⟩
   have v:=D.up0 k6;refine⟨⟨v.cl 0 rfl 2,v.cl 0 rfl 3,v.cl 0 rfl 4,v.cl 0 rfl 5,v.cl 0 rfl 6,v.cl 0 rfl 7⟩,v.cl 1 rfl 8,v.cl 0 rfl 0,v.cl 0 rfl 0,MN (t:=SS[i].2.2) (u:=s.e) fun h7 k7=>?_⟩
   have g7:=v.up0 k7;refine⟨g7.cl 1 rfl 8,g7.cl 0 rfl 0,g7.cl 0 rfl 0,?_⟩;have tl:=g7.f.x.2.2.2;rw[←O.1,←O.2]at tl;rw[Kb tl g7.f.v.em];exact N _ _ ⟨by rw[decide_eq_true (by omega)],k6.tr k7⟩
  rintro t h6 ⟨rfl,k6⟩;have v:=D.up0 k6;refine CondP.intro (fun c=>?_) fun c=>?_
  ·have c:¬(1≤p.ss[i].1∧p.ss[i].1≤p.last):=fun h=>by rw[decide_eq_true h]at c;cases c
   refine hk h6 false 0 ids es (jH ?_) (fun e=>by cases e) ((v.lessX (T.f.sx) fun f=>f.1).tail.tail)
   rw[sB];cases e:p.ss.all fun s=>decide (1≤s.1∧s.1≤p.last)with
   |false=>rfl
   |true=>exact absurd (of_decide_eq_true (gU.1 e _ (bR B))) c
  have c1:1≤p.ss[i].1∧p.ss[i].1≤p.last:=by simpa using c
  have S:StoQ sp vp sm pb cb 0 ids es h6:=v.o.get (i:=j+2) (by simpa using G);have fl:=List.length_filter_le (fun e:Sg=>e.lv) es
  have cap:=S.cap;obtain⟨ti,x,rfl⟩:∃ti x,ids=ti::x:=by
   cases ids with
   |nil=>simp only[List.length_nil]at cap;omega
   |cons a l=>exact⟨a,l,rfl⟩
  simp only[List.length_cons]at cap;have o1:=S.o;have zs:=bc S.b;refine⟨_,rfl,_,vc S.b 3,_,v.cl 0 rfl 2,_,v.cl 0 rfl 3,_,v.cl 0 rfl 4,_,v.cl 0 rfl 5,_,v.cl 0 rfl 6,_,v.cl 0 rfl 7,P1 S.p SS[i].2.2 fun h7 eb tb u7 p7 t7 e7 z7 z7'=>?_⟩
  have b6:=v.blk 0 rfl;have s7:=u7.size;have ne6:h3.size≠cb:=fun e=>(v.o.hd h3.size rfl).2 ⟨nR sp vp sm pb cb 0 (ti::x) es,List.mem_of_getElem? (i:=j+1) (by simpa using G),.inl (.inr (.inr (.inr e)))⟩
  refine Join.intro (fun _ E=>∃A,Upd (fun y=>y=cb) h6 E∧PoolAt E pb cb 16 A∧TokAt E tb pb ti (!SS[i].2.1)∧EdAt E eb pb tb SS[i].2.2∧A.length+(if SS[i].2.1 then 0 else 1)=x.length+1) (fun R N=>⟨_,vc (u7.get b6 ne6) 1,CondP.intro (fun e=>?_) fun e=>?_⟩) ?_
  ·refine EV e7 t7 p7 (by omega) fun h8 V p8 t8 e8=>N _ _ ⟨_,u7.trans V fun y m=>?_,p8,by rw[e];exact t8,e8,by rw[e,af];simp⟩
   rcases m with m|m
   ·exact .inl m
   ·exact .inr (by omega)
  ·exact N _ _ ⟨_,u7,p7,by rw[e];exact t7,e7,by rw[e];simp⟩
  rintro _ h8 ⟨A,V,p8,t8,e8,hc8⟩;have m8:=S.m.upd V (show ¬sm=cb by omega)
  refine⟨_,rfl,_,vc (V.get S.b (show ¬sp=cb by omega)) 1,_,vc (V.get b6 ne6) 0,sm,rfl,m8.isMap,L0 fun h9 e9=>?_⟩
  have e9:h9=qM h8 sm (KI.enc SS[i].1) (pA (some ⟨eb,0,none⟩)):=e9;have u9:Upd (· =sm) h8 h9:=by rw[e9];exact BU h8 _ _ rfl
  have m9:MapAt KI pA h9 sm (oE (es.map Sg.a) SS[i].1 (some ⟨eb,0,none⟩)):=by rw[e9];exact m8.put SS[i].1 _
  rw[e1]at m9;have u69:Upd (fun y=>y=cb∨y=sm) h6 h9:=(V.mono fun y m=>.inl (.inl m)).tr (u9.mono fun y m=>.inl (.inr m))
  have en:es.map (·.n)=(p.ss.take i).map (·.1):=by rw[←F,List.map_map];rfl
  have q9:=S.add (n:=p.ss[i].1) (eb:=eb) (tb:=tb) (ti:=ti) (lv:= !SS[i].2.1) (d:=(SS[i].2.2,p.ss[i].2.2)) u69 m9 (p8.upd u9 (show ¬pb=sm by omega) (show ¬cb=sm by omega)) (e8.upd u9 (show ¬eb=sm by omega)) (t8.upd u9 (show ¬tb=sm by omega)) ⟨z7,z7'⟩ (fun hm=>by
   rw[en]at hm
   obtain⟨q,L,e⟩:=bI.1 hm
   obtain⟨k,hk,rfl⟩:=dP.1 L
   rw[aL]at hk
   have:=df.1 pw k i (by rw[aX];omega) (by rw[aX];omega) (by omega)
   rw[cH,cH]at this
   rw[List.getElem_take]at e
   unfold GX at this
   simp only[decide_eq_true_iff]at this
   omega) (by
   rw[List.filter_append,af]
   cases hb:SS[i].2.1<;>rw[hb]at hc8<;>simp at hc8⊢<;>omega) (by omega)
  have g9:=v.set (j:=j+2) (a:=nR sp vp sm pb cb 0 (ti::x) es) (a':=nR sp vp sm pb cb 0 A (es++ [(⟨p.ss[i].1,eb,tb,ti, !SS[i].2.1,(SS[i].2.2,p.ss[i].2.2)⟩:Sg)])) (by simpa using G) u69 (fun y m=>.inl (m.elim (fun e=>.inl (.inr (.inr (.inr e)))) fun e=>.inl (.inr (.inl e)))) q9 (fun y m=>⟨by
   rcases m with m|⟨r,hr,m⟩
   ·exact .inl (.inl m)
   ·rcases be.1 hr with hr|hr
    ·exact .inl (.inr ⟨r,hr,m⟩)
    ·rw[aq.1 hr]at m
     rcases m with rfl|rfl
     ·exact .inr z7
     ·exact .inr z7',q9.lt y m⟩)
  rw[List.set_cons_zero,show j+2=(j+1)+1 from rfl,fk,fk,List.set_set]at g9
  have sx:Stab X:=g.f.sx;have gA:=(g9.lessX (Y:=fun W h=>X W h∧TsOk s ((es++ [(⟨p.ss[i].1,eb,tb,ti, !SS[i].2.1,(SS[i].2.2,p.ss[i].2.2)⟩:Sg)]).map (·.d)) W h) (sx.and TsOk.stab) fun{W h} f=>⟨f.1.1,fun d hd=>by
   rw[cj]at hd
   rcases be.1 hd with hd|hd
   ·exact f.1.2 d hd
   ·rw[aq.1 hd]
    have:=f.2.2.2
    rw[vX v2,←O.1,←O.2]at this
    exact⟨this,v2,v3⟩⟩).tail
  rw[cX B (by omega)];refine hI (i+1,A,_) _ _ ⟨rfl,B,?_,fun q L=>?_,gA⟩ (by(try simp only);omega)
  ·(try simp only)
   rw[cj,F,bd B];congr 1
   show[(p.ss[i].1, !(!SS[i].2.1),p.ss[i].2.2)]=_
   rw[Bool.not_not,U.2.1]
  ·(try simp only at L)
   rw[bd B]at L;rcases be.1 L with L|L
   ·exact hp q L
   ·rw[aq.1 L];exact c1
 ·have:i=p.ss.length:=by omega
  subst this;rw[List.take_length]at F hp;have C:StoQ sp vp sm pb cb 0 ids es h3:=T.o.get (i:=j+1) (by simpa using G);refine⟨_,T.cl 0 rfl 8,_,rfl,nJ (i:=2) C.b (by simp) rfl fun h4 b4 u4=>?_⟩
  have o1:=C.o;have ne:∀y,y<sp∨sp<y→¬y=sp:=fun y h e=>by omega
  have q4:StoQ sp vp sm pb cb u.2.2.2.2.2.2.2.2.1 ids es h4:=⟨b4,C.o,C.m.upd u4 (ne _ (.inl (by omega))),C.p.upd u4 (ne _ (.inl (by omega))) (ne _ (.inl (by omega))),C.cap,fun e he=>⟨(C.ed e he).1.upd u4 (ne _ (.inr (C.ed e he).2.2.1)),(C.ed e he).2.1.upd u4 (ne _ (.inr (C.ed e he).2.2.2)),(C.ed e he).2.2⟩,C.nde,C.ndt,C.ndk,C.few⟩
  have g4:=T.set (j:=j+1) (a:=nR sp vp sm pb cb 0 ids es) (a':=nR sp vp sm pb cb u.2.2.2.2.2.2.2.2.1 ids es) (by simpa using G) u4 (fun y m=>.inl (.inl (.inl m))) q4 fun y m=>⟨.inl m,q4.lt y m⟩
  rw[fk,List.set_set]at g4;refine hk h4 true _ ids es (jH ?_) (fun _=>⟨pl,F⟩) g4.tail
  rw[sB,gU];exact fun q L=>decide_eq_true (hp q L)
end
end Go.Proofs
namespace Go.Proofs
open Go Go.Lift
def cellX(b:Nat)(cs:List Value)(t:TypeId)(W:Nat→Prop)(h:ae):Prop:=h[b]? =some (.cells cs.toArray t (0,0))∧¬W b
theorem cellX.stab{b:Nat}{cs:List Value}{t:TypeId}:Stab (cellX b cs t):=fun _ _ _ _ _ f u hm c=>
 ⟨u.get f.1 fun e=>(hm _ e).elim f.2 fun e=>absurd (bc f.1) (eW.2 e),fun e=>(c _ e).1.elim f.2 fun e=>absurd (bc f.1) (eW.2 e)⟩
abbrev ER:List Int:=(List.range 16).map fun j=>((j:Nat):Int)+1
theorem JD{kind:Int}(B:kind=0∨kind=1){x:Hs}{W:Nat→Prop}{z h:ae}(H:Upd No z h){X:(Nat→Prop)→ae→Prop}(sx:Stab X)(I:X W h){K:Option Addr×Int→ae→Prop}
  (O:∀h' sp vp sm pb cb gp gm tm bm nm t,Fm [nR sp vp sm pb cb 0 ER []] (Fv z vp ⟨gp,gm,tm,bm,nm,kind,x,t,[],1,[],[],[]⟩ X) h'→K (some ⟨sp,0,none⟩,0) h'):
  Hd 12 [.int .i64 kind,.agg #[.int .u64 x.k0,.int .u64 x.k1,.int .u64 x.mask]] K h:=by
 refine eM (E3 kind (x.k0,x.k1,x.mask)) .nil Tryz.func12 Tryz.call12 ?_;dsimp only[E3,BR,EL,pR,au];refine bj fun S b1 k1=>⟨_,vc b1 0,_,vc b1 1,_,vc b1 2,?_⟩
 have U:=k1.size;refine Wq (W:=No) (x:=x) (fun _ h=>h.elim) B fun d vp gp gm tm bm nm t v T L F=>ay.2 ?_
 refine PF (n:=16) (by omega) (by omega) fun m P G=>?_
 have A:=Upd.push No m (.map #[] 0);have D:=lD m (.map #[] 0);refine L0 fun p E=>?_
 have E:p=m.push (.map #[] 0):=E;rw[←E]at A D;have J:=F.size;have N:=bc G.2.1;have Q:=bc D;have sz:=H.size;refine bj fun f C i=>O f p.size vp m.size (d.size+1) d.size gp gm tm bm nm t ?_
 have g:Upd No d f:=(P.tr A).tr i;have s:=g.size;have V5:=i.size;have q:StoQ p.size vp m.size (d.size+1) d.size 0 ER [] f:=by
  refine⟨C,⟨by omega,N,Q⟩,?_,G.upd0 (A.tr i),by simp,fun e R=>(by cases R),fp,fp,fp,aY _⟩
  exact⟨[],0,⟨i.get0 D,fp,fp,fun _ h=>by cases h⟩,rfl⟩
 have o:Own [nR p.size vp m.size (d.size+1) d.size 0 ER []] f:=Own.nil.cons q fun y c=>⟨q.lt y c,fun⟨_,h,_⟩=>by cases h⟩
 have al:∀{y},AL [nR p.size vp m.size (d.size+1) d.size 0 ER []] y→d.size≤y:=fun{y} c=>by
  rcases qw c with c|⟨_,h,_⟩
  ·rcases c with c|⟨_,h,_⟩
   ·omega
   ·cases h
  ·cases h
 have w:∀b,(VS.M ⟨gp,gm,tm,bm,nm,kind,x,t,[],1,[],[],[]⟩ b∨AL [nR p.size vp m.size (d.size+1) d.size 0 ER []] b)→S.size≤b∧b<f.size:=fun b u=>u.elim (fun e=>⟨L b e,aC (v.size e) s⟩) fun e=>⟨Nat.le_trans J (al e),o.al e⟩
 have j:=F.tr g;refine⟨o,Fv.stab,⟨(H.tr k1).tr j,fun y c=>by have:=(w y c).1;omega,v.re g (fun _ h=>h.elim) (fun y c=>?_) (fun y c=>.inl c),fun y c hM=>?_,sx,sx _ _ _ _ _ I (k1.tr j) (fun _ h=>h.elim) fun b u=>⟨.inr (by have:=(w b u).1;omega),(w b u).2⟩⟩⟩
 ·exact⟨c.elim (fun e=>.inl (.inr e)) fun e=>.inr (al e),(w y c).2⟩
 ·have:=al c
  have:=v.size hM;omega
structure StPt(s:VS)(last:Int)(es:List Sg)(p:RParts):Prop where
 v:VsOk s p
 b:s.B=p.bs
 g:s.G=p.ts
 kd:s.kind=p.kind∧s.x=p.x
 l:last=p.last
 t:es.map Sg.t=p.ss
theorem VsOk.nam{s:VS}{p:RParts}(v:VsOk s p)(b:Bool)(C:List (ByteArray×Int)):VsOk (K8 b s C) p:=by cases b<;>exact⟨v.l,v.n,v.d⟩
set_option maxHeartbeats 1000000 in
theorem Pf{W:Nat→Prop}{z h:ae}(hW:∀y,W y→y<h.size)(kz:Upd No z h){X:(Nat→Prop)→ae→Prop}(sx:Stab X)(x0:X W h){u:Pt}{p:RParts}(U:∀{W h},X W h→PtIs W h u p)(I:PtsI p)(G:p.vs.length≤100000∧p.bs.length≤100000∧p.ts.length≤100000∧p.ss.length≤100000){K:Option Addr×Int→ae→Prop}
  (O:kX p=false→∀c,Upd No z c→K (none,9) c)
  (Z:kX p=true→∀c sp vp sm pb cb s last ids es,StPt s last es p→Fm [nR sp vp sm pb cb last ids es] (Fv z vp s fun W h=>X W h∧TsOk s (es.map (·.d)) W h) c→K (some ⟨sp,0,none⟩,0) c):
  Hd 13 [.agg (zR u).toArray] K h:=by
 refine eM (xT u) FL Tryz.func13 Tryz.call13 ?_;dsimp only[xT,cq,QN,Yi,BR,ce,MC,aR,au,du,vJ,db,mH,dq,kR];have P:=U x0;have pk:=P.k;have A:=P.x;refine bj fun h1 b1 k1=>⟨_,vc b1 0,_,vc b1 1,_,vc b1 2,_,vc b1 3,?_⟩
 have x1:X W h1:=sx _ _ _ _ _ x0 k1 (fun _ h=>h.elim) fun y N=>⟨.inl N,aC (hW y N) k1.size⟩
 have S:p.kind=0∨p.kind=1:=I.k.imp (·.1) (·.1)
 rw[pk,A.1,A.2.1,A.2.2];have n:∀{W h},(X W h∧cellX h.size (zR u) 53 W h)→PtIs W h u p:=fun f=>U f.1
 refine JD S (x:=p.x) (kz.tr k1) (X:=fun W c=>X W c∧cellX h.size (zR u) 53 W c) (sx.and cellX.stab) ⟨x1,b1,fun N=>absurd (hW _ N) (fx _)⟩ fun h7 sp vp sm pb cb gp gm tm bm nm t g7=>ay.2 ?_
 have n:∀{W c},(X W c∧cellX h.size (zR u) 53 W c)→PtIs W c u p:=fun f=>U f.1
 have d:=g7.f.x.2.1;refine Join.intro (fun t c=>t=false∧c=h7) (fun R v=>⟨_,vc d 0,CondP.intro (fun e=>?_) fun e=>v _ _ ⟨rfl,rfl⟩⟩) ?_
 ·refine⟨_,vc d 1,_,vc d 2,_,vc d 3,v _ _ ⟨?_,rfl⟩⟩
  have e:u.1=1:=by simpa using e
  rcases I.k with⟨e2,_⟩|⟨_,e2⟩
  ·omega
  ·rw[A.1,A.2.1,A.2.2,e2];rfl
 rintro _ _ ⟨rfl,rfl⟩;refine Join.intro (fun t c=>(t=true∧kX p=false∧Upd No z c)∨(t=false∧kX p=true∧∃s last ids es,StPt s last es p∧Fm [nR sp vp sm pb cb last ids es] (Fv z vp s fun W h=>X W h∧TsOk s (es.map (·.d)) W h) c)) (fun R v=>?_) ?_
 ·refine ay.2 ⟨_,vc d 0,_,vc d 1,_,vc d 2,_,vc d 3,_,vc d 4,u.2.2.2.2.2.1,vc d 5,u.2.2.2.2.2.2.1,vc d 6,u.2.2.2.2.2.2.2.1,vc d 7,_,vc d 8,u.2.2.2.2.2.2.2.2.2,vc d 9,?_⟩
  refine K3 (s:=⟨gp,gm,tm,bm,nm,p.kind,p.x,t,[],1,[],[],[]⟩) g7 (j:=0) rfl n I ⟨rfl,rfl,rfl⟩ ⟨rfl,rfl⟩ G.1 fun h8 b L nx D eb ok F=>?_
  refine CondP.intro (fun e=>v _ _ (.inl ⟨rfl,?_,F.f.k⟩)) fun e=>?_
  ·have e:b=false:=by simpa using e
   rw[e]at eb;unfold kX;cases hv:nz p with
   |none=>rfl
   |some _=>rw[hv]at eb;cases eb
  have e:b=true:=by simpa using e
  have ok:=ok e;have Q:kX p=(iU L false p.bs&&iU L true p.ts&&tf p.last p.ss):=by unfold kX;rw[ok.l];rfl
  have c8:=F.f.x.2.1;have q8:StoQ sp vp sm pb cb 0 ER [] h8:=F.o.get (i:=0) rfl;refine⟨u.2.2.2.2.2.2.1,vc c8 6,_,rfl,_,vc q8.b 0,?_⟩;refine Nr false (s:=sw ⟨gp,gm,tm,bm,nm,p.kind,p.x,t,[],1,[],[],[]⟩ L nx D) F (fun f=>(n f).b) G.2.1 fun h9 b9 C q w B=>?_
  have q9:StoQ sp vp sm pb cb 0 ER [] h9:=B.o.get (i:=0) rfl;refine⟨vc q9.b 0,CondP.intro (fun e=>v _ _ (.inl ⟨rfl,?_,B.f.k⟩)) fun e=>?_⟩
  ·have e:b9=false:=by simpa using e
   rw[e]at q;rw[Q,show iU L false p.bs=false from q.symm];rfl
  have e:b9=true:=by simpa using e
  have w:=w e;rw[e]at q;rw[w]at B;have c9:=B.f.x.2.1;refine⟨u.2.2.2.2.2.2.2.1,vc c9 7,_,rfl,_,vc q9.b 0,?_⟩;refine Nr true (s:=K8 false (sw ⟨gp,gm,tm,bm,nm,p.kind,p.x,t,[],1,[],[],[]⟩ L nx D) p.bs) B (fun f=>(n f).t) G.2.2.1 fun hA bA C J w m=>?_
  have qA:StoQ sp vp sm pb cb 0 ER [] hA:=m.o.get (i:=0) rfl;refine⟨vc qA.b 0,vc qA.b 0,CondP.intro (fun e=>v _ _ (.inl ⟨rfl,?_,m.f.k⟩)) fun e=>?_⟩
  ·have e:bA=false:=by simpa using e
   rw[e]at J;rw[Q,show iU L true p.ts=false from J.symm,Bool.and_false];rfl
  have e:bA=true:=by simpa using e
  have w:=w e;rw[e]at J;rw[w]at m;have o:=m.f.x.2.1;refine⟨_,vc o 0,_,vc o 1,_,vc o 2,_,vc o 3,_,vc o 4,u.2.2.2.2.2.1,vc o 5,u.2.2.2.2.2.2.1,vc o 6,u.2.2.2.2.2.2.2.1,vc o 7,_,vc o 8,u.2.2.2.2.2.2.2.2.2,vc o 9,?_⟩;refine K9 m (j:=0) rfl n I ⟨rfl,rfl⟩ G.2.2.2 fun hB bB last ids es H Y V=>?_
  have qB:StoQ sp vp sm pb cb last ids es hB:=V.o.get (i:=0) rfl;refine⟨vc qB.b 0,vc qB.b 0,v _ _ ?_⟩;have E:kX p=tf p.last p.ss:=by rw[Q,show iU L false p.bs=true from q.symm,show iU L true p.ts=true from J.symm];rfl
  cases hb:bB with
  |false=>rw[hb]at H;exact .inl ⟨rfl,by rw[E,←H],V.f.k⟩
  |true=>
   obtain⟨o1,o2⟩:=Y hb;rw[hb]at H;exact .inr ⟨rfl,by rw[E,←H],_,last,ids,es,⟨(ok.nam false p.bs).nam true p.ts,rfl,rfl,⟨rfl,rfl⟩,o1,o2⟩,V.lessX (sx.and TsOk.stab) fun f=>⟨f.1.1,f.2⟩⟩
 ·rintro t c (⟨rfl,T,k⟩|⟨rfl,T,s,last,ids,es,st,g⟩)
  ·exact aV.2 (O T c k)
  ·exact ay.2 (Z T c sp vp sm pb cb s last ids es st g)
end Go.Proofs
set_option maxRecDepth 100000
namespace Go.Proofs
open Go Go.Lift Go.Shelf
def aaF:Ren:=⟨fun n=>bif aM n 6 then 135 else bif aM n 14 then 168 else bif aM n 15 then 143 else bif aM n 20 then 197 else bif aM n 21 then 198 else bif aM n 22 then 199 else bif aM n 23 then 200 else bif aM n 24 then 201 else bif aM n 25 then 202 else bif aM n 26 then 203 else bif aM n 27 then 204 else bif aM n 28 then 181 else bif aM n 29 then 182 else bif aM n 46 then 243 else bif aM n 47 then 215 else bif aM n 48 then 216 else bif aM n 49 then 244 else bif aM n 50 then 245 else bif aM n 57 then 271 else 0,
 fun n=>bif aM n 0 then 0 else bif aM n 3 then 3 else bif aM n 4 then 4 else bif aM n 5 then 5 else bif aM n 9 then 9 else bif aM n 22 then 50 else bif aM n 24 then 106 else bif aM n 25 then 243 else bif aM n 39 then 232 else bif aM n 45 then 275 else bif aM n 46 then 276 else bif aM n 50 then 281 else bif aM n 53 then 31 else bif aM n 55 then 28 else bif aM n 66 then 327 else bif aM n 70 then 330 else bif aM n 76 then 360 else bif aM n 77 then 361 else 0,
 fun _=>0⟩
theorem xK:SlLaysF0.n6 PG aaF:=by
 constructor
 ·kernel_rfl
 ·exact⟨"slices.SortFunc[[]quickset/vault.Name,quickset/vault.Name]",by decide,by kernel_rfl⟩
 ·exact⟨"slices.pdqsortCmpFunc[quickset/vault.Name]",by decide,by kernel_rfl⟩
 ·kernel_rfl
 ·exact⟨"slices.insertionSortCmpFunc[quickset/vault.Name]",by decide,by kernel_rfl⟩
 ·exact⟨"slices.heapSortCmpFunc[quickset/vault.Name]",by decide,by kernel_rfl⟩
 ·exact⟨"slices.breakPatternsCmpFunc[quickset/vault.Name]",by decide,by kernel_rfl⟩
 ·exact⟨"slices.choosePivotCmpFunc[quickset/vault.Name]",by decide,by kernel_rfl⟩
 ·exact⟨"slices.reverseRangeCmpFunc[quickset/vault.Name]",by decide,by kernel_rfl⟩
 ·exact⟨"slices.partialInsertionSortCmpFunc[quickset/vault.Name]",by decide,by kernel_rfl⟩
 ·exact⟨"slices.partitionEqualCmpFunc[quickset/vault.Name]",by decide,by kernel_rfl⟩
 ·exact⟨"slices.partitionCmpFunc[quickset/vault.Name]",by decide,by kernel_rfl⟩
 ·kernel_rfl
 ·kernel_rfl
 ·exact⟨"slices.siftDownCmpFunc[quickset/vault.Name]",by decide,by kernel_rfl⟩
 ·kernel_rfl
 ·kernel_rfl
 ·exact⟨"slices.medianAdjacentCmpFunc[quickset/vault.Name]",by decide,by kernel_rfl⟩
 ·exact⟨"slices.medianCmpFunc[quickset/vault.Name]",by decide,by kernel_rfl⟩
 ·exact⟨"slices.order2CmpFunc[quickset/vault.Name]",by decide,by kernel_rfl⟩
 ·kernel_rfl
 all_goals first|(intro w;kernel_rfl)|kernel_rfl
end Go.Proofs
set_option maxRecDepth 100000
namespace Go.Proofs
open Go Go.Lift Go.Shelf
def aaG:Ren:=⟨fun n=>bif aM n 125 then 143 else bif aM n 128 then 181 else bif aM n 129 then 182 else bif aM n 189 then 112 else bif aM n 215 then 219 else bif aM n 216 then 178 else bif aM n 257 then 142 else bif aM n 294 then 172 else bif aM n 295 then 173 else bif aM n 296 then 174 else bif aM n 297 then 175 else bif aM n 298 then 176 else bif aM n 299 then 177 else bif aM n 300 then 179 else bif aM n 301 then 180 else bif aM n 328 then 214 else bif aM n 329 then 215 else bif aM n 330 then 216 else bif aM n 331 then 217 else bif aM n 332 then 218 else bif aM n 343 then 250 else 0,
 fun n=>bif aM n 0 then 0 else bif aM n 3 then 3 else bif aM n 4 then 4 else bif aM n 5 then 5 else bif aM n 9 then 9 else bif aM n 28 then 156 else bif aM n 46 then 232 else bif aM n 51 then 31 else bif aM n 53 then 28 else bif aM n 131 then 281 else bif aM n 182 then 275 else bif aM n 183 then 276 else bif aM n 218 then 327 else bif aM n 222 then 330 else bif aM n 228 then 360 else bif aM n 229 then 361 else 0,
 fun _=>0⟩
theorem Au:Lays.n189 PG aaG:=by constructor<;>first|kernel_rfl|(intro w;kernel_rfl)|skip
end Go.Proofs
set_option maxRecDepth 100000
namespace Go.Proofs
open Go Go.Lift Go.Shelf
def aaE:Ren:=⟨fun n=>bif aM n 38 then 169 else 0,
 fun n=>bif aM n 4 then 4 else bif aM n 9 then 9 else 0,
 fun _=>0⟩
theorem IH:Lays2.n38 PG aaE:=by constructor<;>first|kernel_rfl|(intro w;kernel_rfl)|skip
end Go.Proofs
namespace Go.Proofs
open Go Go.Lift Go.RowKit Go.Sort
theorem HC.shelf{f:FuncId}{args:List Value}{ks:List Kind}{K:uO ks→ae→Prop}{h:ae}(hc:∀(args:Array Value) (w:World),(callFunc f args).run PG w=.ok (.enter f args) w)
 (g:∀w:World,w.heap=h→Calls PG f args.toArray w fun e w'=>Tame w w'∧∃t:uO ks,e=.returned (DG ks (na ks t))∧K t w'.heap):HC PG f args ks K h:=⟨fun w b=>.inl ⟨hc _ w,g w b⟩⟩
theorem Sx{F:Array Value}{A b:List Value}(d:A.length=F.size):putCells id 0 F (A++b).toArray=(F.toList++b).toArray:=by
 apply ly;intro k;simp only[putCells,Array.getElem?_mapIdx,eX];by_cases c:k<F.size
 ·rw[bw (by omega),bw (by simpa using c),ag (by omega)]
  simp[c]
 ·rw[aH (by omega),aH (by simpa using c),d]
  simp only[iY];cases b[k-F.size]? with
  |none=>rfl
  |some v=>simp[c]
section
variable {α:Type} {f:α→List Value} {sz:Nat} {ty:TypeId} {M:Nat→Prop} {h:ae} {s:SliceV} {xs ys:List α}
theorem _root_.Go.Lift.OwnS.row(o:OwnS f sz ty M h s xs){b:Nat}{c:List Value}(d:h[b]? =some (.cells (xs.flatMap f++c).toArray ty (0,0))) (v:s.a=some ⟨b,0,none⟩) (hM:M b) (u:c.length=(s.cap-s.len)*sz) {w:World} (q:w.heap=h) {n:Nat} {os:Array Obj} {F:Array Value} (g:F.toList=ys.flatMap f) (i:ys.length=xs.length):
  OwnS f sz ty M (grow (putRow id (Sort.ahead w n) b 0 F) os).heap s ys∧Upd M h (grow (putRow id (Sort.ahead w n) b 0 F) os).heap:=by
 have z:(xs.flatMap f).length=F.size:=by rw[←iY,g,jj fun x=>(o.ne x).1,jj fun x=>(o.ne x).1,i]
 have j:(grow (putRow id (Sort.ahead w n) b 0 F) os).heap=h.modify b (onCells (putCells id 0 F))++os:=by subst q;rfl
 have lt:=bc d;rw[j];refine⟨⟨by rw[i];exact o.len,o.ne,o.cap,.inr ⟨b,c,v,hM,?_,u⟩⟩,⟨by simp,fun y m p=>?_⟩⟩
 ·rw[Array.getElem?_append_left (by simpa using lt),mg,if_pos rfl,d]
  show some (Obj.cells (putCells id 0 F (xs.flatMap f++c).toArray) ty (0,0))=_
  rw[Sx z,g]
 ·rw[Array.getElem?_append_left (by simpa using m),mg,if_neg (fun e=>p (by rw[←e];exact hM))]
theorem BX[Inhabited α](c:∀x,(f x).length=sz)(d:Array α):(flatK f sz d).toList=d.toList.flatMap f:=by
 apply mw;intro t;by_cases b:t<d.size*sz
 ·have k0:0<sz:=Nat.pos_of_ne_zero fun e=>by rw[e]at b;simp at b
  have g:t/sz<d.size:=Nat.div_lt_of_lt_mul (by rwa [Nat.mul_comm]at b);have hm:=Nat.mod_lt t k0;have e:=ux c d.toList (t/sz) (t%sz) d[t/sz] (by simp[g]) hm;rw[Nat.div_add_mod' t sz]at e;rw[e,Array.getElem?_toList,Array.getElem?_eq_getElem (by simpa using b),←getElem!_pos (flatK f sz d) t (by simpa using b),get_flatK _ _ _ _ b,getElem!_pos d (t/sz) g,ag (by rw[c];exact hm),getElem!_pos _ _ (by rw[c];exact hm)]
 ·rw[me (by simpa using Nat.le_of_not_lt b),me (by rw[jj c];simpa using Nat.le_of_not_lt b)]
theorem _root_.Go.Lift.OwnS.holds(o:OwnS f sz ty M h s xs){b:Nat}{c:List Value}(g:h[b]? =some (.cells (xs.flatMap f++c).toArray ty (0,0))) {w:World} (i:w.heap=h) {F:Array Value} (m:F.toList=xs.flatMap f):Holds id w b 0 F:=fun j d=>by
 subst i;have e:(xs.flatMap f++c)[j]? =some F[j]:=by
  rw[←m,bw (by simpa using d)];simp[d]
 refine⟨?_,?_⟩
 ·rw[World.cell?,bK];simp only[g]
  simp only[Option.isSome_none,Bool.false_eq_true,if_false,eX,e,id];rw[getElem!_pos F j d]
 ·rw[World.frozen?,bK];simp[g]
end
end Go.Proofs
namespace Go.Proofs
open Go Go.Lift Go.RowKit Go.Sort Go.Shelf
set_option maxHeartbeats 1000000 in
theorem S0(x y:ByteArray)(W:World):Calls PG 137 #[.string x,.string y] W fun e w'=>e=.returned (.int .i64 (Bo x y))∧w'=W:=by
 have b:=fun x W=>Any2.cmp_isNaN_string IH x W
 change∀x W,Calls PG 169 _ _ _ at b;go_enter Tryz.func137,Tryz.ntmps137
 go_wp2_with (go_at_call 169;refine(b _ _).mono ?_;rintro e w' ⟨rfl,c⟩;rw[c])
 all_goals(go_ret;refine⟨?_,rfl⟩;have d:= @Ac x y;unfold Bo kl;clear b;simp_all)
abbrev aau(x y:ByteArray×Int):Int:=Bo x.1 y.1
set_option maxHeartbeats 1000000 in
theorem SD(x y:ByteArray×Int)(W:World):Calls PG 136 #[.agg #[.string x.1,.int .u32 x.2],.agg #[.string y.1,.int .u32 y.2]] W fun e w'=>e=.returned (.int .i64 (Bo x.1 y.1))∧∃q os',w'=grow (W.drewN q) os':=by
 have b:=fun W'=>S0 x.1 y.1 W'
 change∀W',Calls PG 137 _ _ _ at b;generalize Bo x.1 y.1=r at b⊢;go_enter Tryz.func136,Tryz.ntmps136
 go_wp2_with (go_at_call 137;refine(b _).mono ?_;rintro e w' ⟨rfl,rfl⟩)
 go_ret
 exact⟨rfl,0,_,by rw[alloc_eq_grow,alloc_eq_grow,grow_grow];rfl⟩
theorem aas(x y:ByteArray×Int):ltOf aau x y=decide (kl x.1 y.1):=by
 unfold ltOf aau Bo;by_cases h:kl x.1 y.1
 ·simp[h]
 ·by_cases h2:x.1=y.1<;>simp[h,h2,dS]
theorem aax:SWO (ltOf aau) where
 irrefl x:=by rw[aas];simpa using dS x.1
 trans x y z h1 h2:=by rw[aas]at*;simp at*;exact ii h1 h2
 ntrans x y z h1 h2:=by
  rw[aas]at*;simp at*;intro h;by_cases e:x.1=y.1
  ·rw[e]at h;exact h2 h
  ·exact h2 (ii (vF h1 e) h)
theorem K6{M:Nat→Prop}{h:ae}{s:SliceV}{xs:List (ByteArray×Int)}(q:OwnS fJ 2 106 M h s xs)(V:xs.length≤1000000){K:Unit→ae→Prop}
  (G:∀h' ys,OwnS fJ 2 106 M h' s ys→ys.Perm xs→ys.Pairwise (fun a b=>¬kl b.1 a.1)→Upd M h h'→K () h'):eJ 135 [.slice s.a s.len s.cap,.func (.func 136) #[] #[]] K h:=by
 refine HC.shelf Tryz.call135 fun w z=>?_
 have o:=q.len;rcases q.blk with W|⟨b,E,H,hM,D,P⟩
 ·have hx:xs= []:=ax.1 (by have:=q.cap;omega)
  subst hx;have Q:s.len=0:=o;rw[Q];refine(AnyF.slices_SortFunc_none xK s.a s.cap (.func (.func 136) #[] #[]) w).mono fun e w' p=>?_
  obtain⟨p,rfl⟩:=p;exact⟨⟨rfl,rfl,rfl⟩,(),p,G _ [] (by rw[z];exact q) (mR _) dh (by rw[z];exact Upd.refl _ _)⟩
 ·rw[H,o]
  have T:HoldsK fJ 2 w b 0 xs.toArray:=q.holds D z ((BX (f:=fJ) (sz:=2) (fun _=>rfl) xs.toArray).trans (by simp))
  have lt:=bc D;have c:=AnyQ.slices_SortFunc xK 2 (fun w=>by kernel_rfl) (fun w=>by kernel_rfl) fJ (fun _=>rfl) (fun x v hv=>by simp only[ar,List.not_mem_nil,or_false]at hv;rcases hv with rfl|rfl<;>rfl) aau aax 136 #[] b 0 s.cap xs.toArray w Tryz.call136 (fun m os dk R x y=>SD x y _) T (by rw[z];exact lt) (by simp;omega)
  rw[show xs.toArray.size=xs.length by simp]at c
  refine Calls.mono c fun e w' p=>?_
  obtain⟨p,d,n,os,⟨g,_,I⟩,U,rfl⟩:=p;have g:d.size=xs.length:=by simpa using g
  obtain⟨N,L⟩:=q.row D H hM P z (n:=n) (os:=os) (F:=flatK fJ 2 d) (ys:=d.toList) (BX (f:=fJ) (sz:=2) (fun _=>rfl) d) (by simpa using g)
  refine⟨⟨rfl,rfl,rfl⟩,(),p,G _ d.toList N ?_ ?_ L⟩
  ·have J:d.extract 0 xs.length=d:=by rw[←g];exact Array.extract_size
   have S:xs.toArray.extract 0 xs.length=xs.toArray:=by simp
   rw[J,S]at I;simpa using I
  ·refine df.2 fun i j hi O C u=>?_
   have A:i<d.size:=by simpa using hi
   have B:j<d.size:=by simpa using O
   have:=U i j (aY _) C (by omega);rw[getElem!_pos d j B,getElem!_pos d i A,aas]at this;simp only[Array.getElem_toList]at u;simp[u]at this
theorem TR{M:Nat→Prop}{h:ae}{s:SliceV}{xs:List Int}(i:OwnS LG 1 3 M h s xs)(L:xs.length≤1000000000){K:Unit→ae→Prop}
  (f:∀h' ys,OwnS LG 1 3 M h' s ys→ys.Perm xs→ys.Pairwise (·≤·)→Upd M h h'→K () h'):eJ 112 [.slice s.a s.len s.cap] K h:=by
 refine HC.shelf Tryz.call112 fun w m=>?_
 have d:=i.len;have B:∀l:List Int,(l.map fun x=>Value.int .i64 x)=l.flatMap LG:=fun l=>by
  induction l with
  |nil=>rfl
  |cons a l ih=>rw[List.map_cons,aZ,ih];rfl
 rcases i.blk with N|⟨b,z,A,hM,q,G⟩
 ·have hx:xs= []:=ax.1 (by have:=i.cap;omega)
  subst hx;have H:s.len=0:=d;rw[H];refine Calls.mono (Any.slices_Sort_int_none Au s.a s.cap w) fun e w' g=>?_
  obtain⟨g,rfl⟩:=g;exact⟨⟨rfl,rfl,rfl⟩,(),g,f _ [] (by rw[m];exact i) (mR _) dh (by rw[m];exact Upd.refl _ _)⟩
 ·rw[A,d]
  have u:=i.holds q m (F:=(xs.map fun x=>Value.int .i64 x).toArray) (by simpa using B xs)
  have J:Holds (Value.int .i64) w b 0 xs.toArray:=fun j o=>by
   have o:j<xs.length:=by simpa using o
   have:=u j (by simpa using o);simpa[o]using this
  have lt:=bc q;refine Calls.mono (Any.slices_Sort_int Au b 0 s.cap xs w J (by rw[m];exact lt) (by omega)) fun e w' g=>?_
  obtain⟨g,n,os,rfl⟩:=g;obtain⟨ys,p⟩:∃ys,ys=xs.mergeSort fun x y=>decide (x≤y):=⟨_,rfl⟩
  have C:ys.Perm xs:=by rw[p];exact List.mergeSort_perm _ _
  rw[←p];have I:putRow (Value.int .i64) (Sort.ahead w n) b 0 ys.toArray=putRow id (Sort.ahead w n) b 0 (ys.map fun x=>Value.int .i64 x).toArray:=by
   unfold putRow;congr 1
   funext c;apply ly;intro k;simp only[putCells,Array.getElem?_mapIdx,List.size_toArray,aX];cases c[k]? with
   |none=>rfl
   |some v=>
    simp only[Option.map_some];by_cases f:0≤k∧k<0+ys.length
    ·rw[if_pos f,if_pos f]
     have:k<ys.length:=by omega
     simp[this]
    ·rw[if_neg f,if_neg f]
  rw[I];obtain⟨E,D⟩:=i.row q A hM G m (n:=n) (os:=os) (F:=(ys.map fun x=>Value.int .i64 x).toArray) (ys:=ys) (by simpa using B ys) C.length_eq
  refine⟨⟨rfl,rfl,rfl⟩,(),g,f _ ys E C ?_ D⟩;rw[p];have:=List.pairwise_mergeSort (le:=fun x y:Int=>decide (x≤y)) (fun a b c O h2=>by simp at*;omega) (fun a b=>by simp;omega) xs
  exact this.imp fun h=>by simpa using h
theorem OY{h:ae}{e:Value}{N:Nat}{S:List Int→Prop}{Q:Nat→Prop}(g:Gives PG e LG N S Q h)(q:N≤1000000000)(s:∀xs,S xs→xs.length≤1000000000){K:SliceV→ae→Prop}
  (m:∀s' h' xs ys,S xs→OwnS LG 1 3 (fun b=>h.size≤b) h' s' ys→ys.Perm xs→ys.Pairwise (·≤·)→Upd No h h'→K s' h'):fU 70 [e] K h:=by
 refine eM (sf e) .nil Tryz.func70 Tryz.call70 ?_;unfold sf;refine N1 g q fun n u xs hx f j=>?_
 exact TR f (s xs hx) fun h2 ys d o i c=>m n h2 xs ys hx d o i (j.trans c fun b p=>.inr p)
theorem GN{κ β:Type}[DecidableEq κ]{k:κ}{v:β}:∀{m:List (κ×β)},(m.map (·.1)).Nodup→(k,v)∈m→m.Perm ((k,v)::Ag m k)
 |p::m,b,hm=>by
  have b:=List.nodup_cons.1 b;unfold Ag;rw[List.filter_cons];rcases ar.1 hm with rfl|hm
  ·rw[if_neg (by simp)]
   rw[List.filter_eq_self.2 fun q c=>by simp;exact fun e=>b.1 (bI.2 ⟨q,c,e⟩)]
  ·have:p.1≠k:=fun e=>b.1 (bI.2 ⟨(k,v),hm,e.symm⟩)
   rw[if_pos (by simp[this])];exact((GN b.2 hm).cons p).trans (List.Perm.swap ..)
theorem QT{h:ae}{r:Nat}{B:List (ByteArray×Int)}(m:MapAt II V8 h r B)(hn:B.length≤100000){K:SliceV→ae→Prop}
  (P:∀d s ys,OwnS fJ 2 106 (fun y=>h.size≤y) d s ys→ys.Perm B→ys.Pairwise (fun a b=>¬kl b.1 a.1)→Upd No h d→K s d):fU 107 [.map (some r)] K h:=by
 refine eM (tO (some r)) BJ Tryz.func107 Tryz.call107 ?_;dsimp only[tO,Fk,AS,Ti];obtain⟨c,⟨es,E⟩,J⟩:=m.range;refine⟨c,.inr ⟨r,es,rfl,E⟩,L0 fun w u=>?_⟩
 have k1:=Upd.push No h (.mapIter (some r) c #[] c);have u:w=h.push (.mapIter (some r) c #[] c):=u;rw[←u]at J k1;have s1:w.size=h.size+1:=by rw[u];simp
 refine LoopP.ghost (fun(g:List (ByteArray×Int)×List (ByteArray×Int)) (t:SliceV) d=>IterSt II V8 d h.size r B g.1∧OwnS fJ 2 106 (fun y=>w.size≤y) d t g.2∧(g.2++g.1).Perm B∧Upd No h d∧w.size≤d.size) (fun g=>g.1.length) (B,[]) ⟨J,OwnS.nil Cr,mR _,k1,ai _⟩ ?_
 rintro I ⟨n,out⟩ t d ⟨hi,z,p,G,T⟩ U;(try simp only at hi z p)
 have Q:=m.lt;have H:=p.length_eq;rw[af]at H;refine NextP.at (M:=(· =h.size)) hi rfl (fun Z=>?_) fun k v o e h2 ek R C D i=>?_
 ·subst Z
  rw[List.append_nil]at p;refine K6 z (by simp at H;omega) fun L ys S Y V O=>P L t ys (S.more fun y j=>by omega) (Y.trans p) V (G.trans O fun y j=>.inr (by omega))
 ·refine⟨rfl,e,k,v,C,ek,R,bj fun L b3 q=>?_⟩
  have F:=(z.upd i fun y j e=>by have e:y=h.size:=e;omega).upd q fun _ _ h=>h
  have s2:=i.size;have su:=G.size;refine⟨_,((OwnS.one (f:=fJ) (x:=(k,v)) Cr b3).sl (W:=No) fun _ _ _ h=>h).srow,?_⟩
  have s3:=q.size;refine AppP.own (ys:= [(k,v)]) F rfl rfl rfl rfl (by decide) (by simp only[aI];omega) (by omega) fun s' N X A=>?_
  refine U (Ag n k,out++ [(k,v)]) s' N ⟨?_,X,?_,?_,?_⟩ (VN o)
  ·exact(D.upd q id id).upd A (fun e=>by omega) (fun e=>by omega)
  ·refine List.Perm.trans ?_ p
   simp only[List.append_assoc,List.singleton_append];exact List.Perm.append_left _ (GN hi.nodup o).symm
  ·exact((G.trans i fun y j=>.inr (by have j:y=h.size:=j;omega)).tr q).trans A fun y j=>.inr (by omega)
  ·have:=A.size;omega
end Go.Proofs
namespace Go.Proofs
open Go Go.Lift
def GrX(p:Nat)(L:dI)(nx:Int)(W:Nat→Prop)(h:ae):Prop:=GraphAt (fun y=>W y∨y=p+1∨y=p) h (p+1) p L nx∧¬W p∧¬W (p+1)
theorem GrX.stab{p:Nat}{L:dI}{nx:Int}:Stab (GrX p L nx):=fun W W' M h n ⟨g,j,m⟩ u hm d=>by
 refine⟨g.re u (fun b c=>(hm b c).imp (fun e=>⟨.inl e,fun f=>m (f▸e),fun f=>j (f▸e)⟩) id) (fun b c=>?_) (.inr (.inl rfl)) (.inr (.inr rfl)),fun e=>(d p e).1.elim j fun i=>absurd (g.lt p (.inr (.inr rfl))) (eW.2 i),fun e=>(d (p+1) e).1.elim m fun i=>absurd (g.lt (p+1) (.inr (.inl rfl))) (eW.2 i)⟩
 rcases c with c|c
 ·exact⟨(d b c).1.imp .inl id,(d b c).2⟩
 ·exact⟨.inl (.inr c),aC (g.lt b (.inr c)) u.size⟩
theorem Ns{ys B:List (ByteArray×Int)}(g:ys.Perm B)(p:ys.Pairwise fun a b=>¬kl b.1 a.1)(q:qS Tw (B.map (·.1))=true):ys=B:=by
 have s:(B.map (·.1)).Pairwise fun a b=>Tw a b=true:=xu (fun a b c h k=>ii (a:=a) (b:=b) (c:=c) h k) q
 have d:B.Pairwise fun a b=>kl a.1 b.1:=List.pairwise_map.1 s
 refine List.Perm.eq_of_pairwise (le:=fun a b=>¬kl b.1 a.1) (fun a b o h2 m n=>?_) p (d.imp fun h k=>dS _ (ii h k)) g
 have e:a.1=b.1:=by
  by_cases e:a.1=b.1
  ·exact e
  ·exact absurd (vF n e) m
 obtain⟨i,hi,rfl⟩:=dP.1 (g.mem_iff.1 o);obtain⟨j,f,rfl⟩:=dP.1 h2;rcases Nat.lt_trichotomy i j with h|h|h
 ·have:=df.1 d i j hi f h
  rw[e]at this;exact absurd this (dS _)
 ·subst h;rfl
 ·have:=df.1 d j i f hi h
  rw[e]at this;exact absurd this (dS _)
theorem Wx{W:Nat→Prop}{h:ae}{kind:Int}{x:Hs}{t:Tr}{l:List Pr}(i:TreeIs W h kind x t l)(hx:kind=1→x=⟨0,0,0⟩):t.1=kind∧t.2.1=x.k0∧t.2.2.1=x.k1∧t.2.2.2.1=x.mask:=by
 rcases i with⟨e,b,rfl,_⟩|⟨e,b,rfl,_⟩
 ·exact⟨e.symm,rfl,rfl,rfl⟩
 ·rw[hx e];exact⟨e.symm,rfl,rfl,rfl⟩
section
variable {Ss:List Sp} {z h:ae} {sp vp sm pb cb j:Nat} {last:Int} {ids:List Int} {es:List Sg} {s:VS} {X:(Nat→Prop)→ae→Prop} {p:RParts}
theorem Fm.sto{F:(Nat→Prop)→ae→Prop}(n:Fm Ss F h)(hm:nR sp vp sm pb cb last ids es∈Ss):StoQ sp vp sm pb cb last ids es h:=n.o.q _ hm
theorem Fm.graph(n:Fm Ss (Fv z vp s X) h){K:Option Addr→ae→Prop}(c:∀b p,Fm Ss (Fv z vp s fun W h=>X W h∧GrX p s.L s.nx W h) b→K (some ⟨p+1,0,none⟩) b):fh 60 [gF vp] K h:=
 JB n.f.v fun b k g=>c b h.size ((n.up0 k).addX GrX.stab ⟨g,fun e=>absurd (n.f.v.g.lt _ e) (fx _),fun e=>absurd (n.f.v.g.lt _ e) (by omega)⟩)
theorem Fm.empty(n:Fm Ss (Fv z vp s X) h){K:Tr→ae→Prop}(c:∀b,Fm Ss (Fv z vp s X) b→K s.e b):xn 61 [gF vp] K h:=Dx n.f.v fun b k=>c b (n.up0 k)
theorem Fm.kind(n:Fm Ss (Fv z vp s X) h){K:Int→ae→Prop}(c:∀b,Fm Ss (Fv z vp s X) b→K s.e.1 b):iI 62 [RI s.e] K h:=TQ fun b k=>c b (n.up0 k)
theorem Fm.hash(n:Fm Ss (Fv z vp s X) h){K:Int×Int×Int→ae→Prop}(c:∀b,Fm Ss (Fv z vp s X) b→K (s.e.2.1,s.e.2.2.1,s.e.2.2.2.1) b):UV 63 [RI s.e] K h:=ON fun b k=>c b (n.up0 k)
theorem Fm.next(n:Fm Ss (Fv z vp s fun W h=>X W h∧GrX j s.L s.nx W h) h){K:Int→ae→Prop}(b:K s.nx h):sI 64 [.pointer (some ⟨j+1,0,none⟩)] K h:=UY n.f.x.2.1 b
theorem Fm.br(n:Fm Ss (Fv z vp s X) h){B:List (ByteArray×Int)}(c:s.B=B)(i:B.length≤100000)(g:qS Tw (B.map (·.1))=true){K:SliceV→ae→Prop}(d:∀b sl,Fm Ss (Fv z vp s fun W h=>X W h∧Sl fJ 2 W h sl B) b→K sl b):fU 65 [gF vp] K h:=by
 refine xz _ ?_;dsimp only[pt,cg,dq];subst c;refine ay.2 ⟨_,rfl,_,vc n.f.v.blk 8,QT n.f.v.b i fun b sl ys o e w k=>d b sl ((n.up0 k).addX Stab.sl ?_)⟩
 rw[Ns e w g]at o;exact o.sl fun y j _ f=>absurd (n.f.v.g.lt y f) (by omega)
theorem Fm.tg(n:Fm Ss (Fv z vp s X) h){B:List (ByteArray×Int)}(c:s.G=B)(i:B.length≤100000)(g:qS Tw (B.map (·.1))=true){K:SliceV→ae→Prop}(d:∀b sl,Fm Ss (Fv z vp s fun W h=>X W h∧Sl fJ 2 W h sl B) b→K sl b):fU 66 [gF vp] K h:=by
 refine Bx _ ?_;dsimp only[tQ,cg,dq];subst c;refine ay.2 ⟨_,rfl,_,vc n.f.v.blk 9,QT n.f.v.n i fun b sl ys o e w k=>d b sl ((n.up0 k).addX Stab.sl ?_)⟩
 rw[Ns e w g]at o;exact o.sl fun y j _ f=>absurd (n.f.v.g.lt y f) (by omega)
abbrev Uk(s:VS)(vs br tg:SliceV)(last:Int)(ss:SliceV):Pt:=(s.e.1,s.e.2.1,s.e.2.2.1,s.e.2.2.2.1,s.nx,vs,br,tg,last,ss)
end
end Go.Proofs
namespace Go.Proofs
open Go.Lift Go.Sort
theorem CB(l:List Int):l.flatMap u32=l.map fun x=>Value.int .u32 x:=by
 induction l with
 |nil=>rfl
 |cons x l ih=>rw[aZ,ih];rfl
structure SAG(s:SliceV)(b:Nat)(rest:List Value)(h:ae)(d:Array Int):Prop where
 a:s.a=some ⟨b,0,none⟩
 len:s.len=d.size
 blk:h[b]? =some (.cells (d.toList.flatMap u32++rest).toArray 31 (0,0))
 small:d.size≤1000000000
variable {s:SliceV} {b:Nat} {rest:List Value} {h:ae} {d:Array Int}
theorem SAG.get(c:SAG s b rest h d){i:Nat}(hi:i<d.size):bh h (adr ⟨b,0,none⟩ (((i:Int)).toNat*1))=some (.int .u32 d[i]!):=by
 rw[cM,bO c.blk,eX,CB,bw (by simp;omega)];simp[hi]
theorem SAG.upd{M:Nat→Prop}{e:ae}(c:SAG s b rest h d)(k:Upd M h e)(f:¬M b):SAG s b rest e d:=⟨c.a,c.len,k.get c.blk f,c.small⟩
theorem SAG.put(c:SAG s b rest h d){i:Nat}(hi:i<d.size)(x:Int):Wr h (adr ⟨b,0,none⟩ (((i:Int)).toNat*1))∧SAG s b rest (hset h (adr ⟨b,0,none⟩ (((i:Int)).toNat*1)) (.int .u32 x)) (d.setIfInBounds i x)∧
  Upd (· =b) h (hset h (adr ⟨b,0,none⟩ (((i:Int)).toNat*1)) (.int .u32 x)):=by
 have e:adr ⟨b,0,none⟩ (((i:Int)).toNat*1)=⟨b,i,none⟩:=by rw[cM];simp
 rw[e];refine⟨fz c.blk (by rw[CB];simp;omega),⟨c.a,by rw[c.len];simp,?_,by simpa using c.small⟩,Upd.hset _ _ rfl⟩
 rw[ju c.blk,dU c.blk,CB,CB,Array.toList_setIfInBounds];congr 2
 rw[List.setIfInBounds_toArray,List.set_append_left _ _ (by simp;omega),List.map_set]
theorem SAG.ld1(c:SAG s b rest h d){t:Int}{i:Nat}(e:t=(i:Int))(hi:i<d.size){R:Int→Prop}(f:R d[i]!):
  ((0:Int)≤t∧t<((s.len:Nat):Int))∧∃a:Addr,s.a=some a∧∃v:Int,bh h (adr a (t.toNat*1))=some (.int .u32 v)∧R v:=by
 subst e;exact⟨by rw[c.len];omega,_,c.a,_,c.get hi,f⟩
theorem SAG.st(c:SAG s b rest h d){t x:Int}{i:Nat}(e:t=(i:Int))(hi:i<d.size){R:ae→Prop}(j:∀h',SAG s b rest h' (d.setIfInBounds i x)→Upd (· =b) h h'→R h'):
  ((0:Int)≤t∧t<((s.len:Nat):Int))∧∃a:Addr,s.a=some a∧(Wr h (adr a (t.toNat*1))∧At (hset h (adr a (t.toNat*1)) (.int .u32 x)) R):=by
 subst e;obtain⟨g,h2,f⟩:=c.put hi x;exact⟨by rw[c.len];omega,_,c.a,g,j _ h2 f⟩
@[simp] theorem Zf(d:Array Int)(i j:Nat):(swp d i j).size=d.size:=by simp[swp]
theorem SAG.swap(f:SAG s b rest h d){ti c:Int}{i j:Nat}(o:ti=(i:Int))(p:c=(j:Int))(hi:i<d.size)(n:j<d.size){R:ae→Prop}(u:∀h',SAG s b rest h' (swp d i j)→Upd (· =b) h h'→R h'):
  ((0:Int)≤c∧c<((s.len:Nat):Int))∧∃a:Addr,s.a=some a∧∃v:Int,bh h (adr a (c.toNat*1))=some (.int .u32 v)∧
   (((0:Int)≤ti∧ti<((s.len:Nat):Int))∧∃a':Addr,s.a=some a'∧∃v':Int,bh h (adr a' (ti.toNat*1))=some (.int .u32 v')∧
    (((0:Int)≤ti∧ti<((s.len:Nat):Int))∧∃a'':Addr,s.a=some a''∧(Wr h (adr a'' (ti.toNat*1))∧At (hset h (adr a'' (ti.toNat*1)) (.int .u32 v)) (fun e=>
     (((0:Int)≤c∧c<((s.len:Nat):Int))∧∃a3:Addr,s.a=some a3∧(Wr e (adr a3 (c.toNat*1))∧At (hset e (adr a3 (c.toNat*1)) (.int .u32 v')) R)))))):=by
 refine f.ld1 p n (f.ld1 o hi (f.st o hi fun e g k1=>g.st p (by simpa using n) fun h2 m q=>u h2 m (k1.tr q)))
theorem SAG.less(e:SAG s b rest h d){ti c:Int}{i j:Nat}(m:ti=(i:Int))(n:c=(j:Int))(hi:i<d.size)(f:j<d.size){R:Bool→ae→Prop}(g:R (ltInt d[i]! d[j]!) h):
  ((0:Int)≤ti∧ti<((s.len:Nat):Int))∧∃a:Addr,s.a=some a∧∃v:Int,bh h (adr a (ti.toNat*1))=some (.int .u32 v)∧
   (((0:Int)≤c∧c<((s.len:Nat):Int))∧∃a':Addr,s.a=some a'∧∃v':Int,bh h (adr a' (c.toNat*1))=some (.int .u32 v')∧f5 211 [.int .u32 v,.int .u32 v'] R h):=
 e.ld1 m hi (e.ld1 n f (W9 g))
theorem NL(P:SAG s b rest h d){a e:Nat}(Z:a≤e)(he:e≤d.size){K:Unit→ae→Prop}(V:∀c,SAG s b rest c (insertionSort ltInt d a e)→Upd (· =b) h c→K () c):
  eJ 205 [.slice s.a s.len s.cap,.int .i64 a,.int .i64 e] K h:=by
 refine jK s a e ?_;dsimp only[fY,F7,cg,dy,ic,ji,Iq,Gi];have W:=P.small;refine LoopP.ghost (fun(g:Nat×Array Int) (t:Int) c=>t=(g.1:Int)∧SAG s b rest c g.2∧g.2.size=d.size∧insOuter ltInt a e g.1 g.2=insertionSort ltInt d a e∧Upd (· =b) h c∧a<g.1) (fun g=>e-g.1) (a+1,d)
  ⟨by rw[dL (by omega)];rfl,P,rfl,rfl,Upd.refl _ _,by simp⟩ ?_
 rintro I ⟨i,O⟩ t h1 ⟨z,q,B,p,A,G⟩ Y;(try simp only at z q B p G)
 subst z;refine ak (fun v=>?_) fun S=>?_
 ·have v:i<e:=by omega
  refine LoopP.ghost (fun(g:Nat×Array Int) (t:Int) c=>t=(g.1:Int)∧SAG s b rest c g.2∧g.2.size=d.size∧insInner ltInt a g.1 g.2=insInner ltInt a i O∧Upd (· =b) h c∧g.1≤i) (fun g=>g.1) (i,O)
   ⟨rfl,q,B,rfl,A,ai _⟩ ?_
  rintro I2 ⟨j,m⟩ t h2 ⟨z,f,u,o,y,F⟩ H;(try simp only at z f u o F)
  subst z;refine Join.intro (fun t c=>c=h2∧(t=true↔a<j∧ltInt m[j]! m[j-1]! =true)) (fun R N=>?_) ?_
  ·refine ak (fun w=>?_) fun X=>N _ _ ⟨rfl,by simp;omega⟩
   have w:a<j:=by omega
   exact f.less rfl (j:=j-1) (by rw[dL (by omega)];omega) (by omega) (by omega) (N _ _ ⟨rfl,by simp[w]⟩)
  ·rintro t c ⟨rfl,x⟩
   refine CondP.intro (fun C=>?_) fun C=>?_
   ·obtain⟨T,Q⟩:=x.1 C
    refine f.swap (i:=j) (j:=j-1) rfl (by rw[dL (by omega)];omega) (by omega) (by omega) fun h6 J E=>?_
    refine H (j-1,swp m j (j-1)) _ _ ⟨by rw[dL (by omega)];(try simp only);omega,J,by simp[u],?_,y.tr E,by(try simp only);omega⟩ (by(try simp only);omega)
    rw[←o];obtain⟨L,rfl⟩:∃L,j=L+1:=⟨j-1,by omega⟩
    simp only[Nat.add_sub_cancel]at Q⊢;rw[insInner,if_pos (by simp[Q,T])]
   ·have n:¬(a<j∧ltInt m[j]! m[j-1]! =true):=fun U=>by rw[x.2 U]at C;cases C
    have D:insInner ltInt a j m=m:=by
     cases j with
     |zero=>rw[insInner]
     |succ j=>
      simp only[Nat.add_sub_cancel]at n;rw[insInner,if_neg (by simpa using n)]
    refine Y (i+1,m) _ _ ⟨by rw[dL (by omega)];rfl,f,u,?_,y,by(try simp only);omega⟩ (by(try simp only);omega)
    rw[←p];conv=>rhs;rw[insOuter]
    rw[if_pos v,←o,D]
 ·refine V _ ?_ A
  rw[←p,insOuter,if_neg (by omega)];exact q
end Go.Proofs
namespace Go.Proofs
open Go.Lift Go.Sort
variable {s:SliceV} {b:Nat} {rest:List Value} {h:ae} {d:Array Int}
@[simp] theorem TV(lt:Int→Int→Bool)(hi first root:Nat)(d:Array Int):(siftDown lt hi first root d).size=d.size:=by
 fun_induction siftDown lt hi first root d<;>simp_all
@[simp] theorem Fu(lt:Int→Int→Bool)(hi first:Nat):∀(k:Nat) (d:Array Int),(heapBuild lt hi first k d).size=d.size
 |0,d=>rfl
 |k+1,d=>by rw[heapBuild,Fu lt hi first k];simp
theorem B8{root hi first:Nat}(G:SAG s b rest h d)(U:first+hi≤d.size){K:Unit→ae→Prop}(E:∀f,SAG s b rest f (siftDown ltInt hi first root d)→Upd (· =b) h f→K () f)(P:root≤1000000000):
  eJ 246 [.slice s.a s.len s.cap,.int .i64 root,.int .i64 hi,.int .i64 first] K h:=by
 refine eM (lH s root hi first) rL Tryz.func246 Tryz.call246 ?_
 dsimp only[lH,Gi,F7,cg,dy,ic,ji,Iq,Eb,Tk,Tj];have O:=G.small;refine LoopP.ghost (fun(g:Nat×Array Int) (t:Int) f=>t=(g.1:Int)∧SAG s b rest f g.2∧g.2.size=d.size∧siftDown ltInt hi first g.1 g.2=siftDown ltInt hi first root d∧Upd (· =b) h f∧g.1≤1000000000) (fun g=>hi-g.1) (root,d)
  ⟨rfl,G,rfl,rfl,Upd.refl _ _,P⟩ ?_
 rintro I ⟨i,m⟩ t J ⟨H,e,y,p,q,B⟩ Q;(try simp only at H e y p B)
 subst H;have S:ac .i64 (ac .i64 (2*(i:Int))+1)=((2*i+1:Nat):Int):=by rw[dL (x:=2*(i:Int)) (by omega),dL (by omega)];omega
 have F:ac .i64 (((2*i+1:Nat):Int)+1)=((2*i+2:Nat):Int):=by rw[dL (by omega)];omega
 rw[S];refine ak (fun L=>?_) fun z=>?_
 ·refine E _ ?_ q
  rw[←p,siftDown,dif_pos (by omega)];exact e
 ·have z:2*i+1<hi:=by omega
  refine Join.intro (fun t f=>f=J∧∃c:Nat,t=(c:Int)∧c=if 2*i+2<hi∧ltInt m[first+(2*i+1)]! m[first+(2*i+1)+1]! =true then 2*i+2 else 2*i+1) (fun R D=>?_) ?_
  ·refine Join.intro (fun t f=>f=J∧(t=true↔2*i+2<hi∧ltInt m[first+(2*i+1)]! m[first+(2*i+1)+1]! =true)) (fun R2 u=>?_) ?_
   ·show CondP (decide (ac .i64 (((2*i+1:Nat):Int)+1)<(hi:Int))) _ _
    rw[F];refine ak (fun o=>?_) fun o=>u _ _ ⟨rfl,by simp;omega⟩
    show(((0:Int)≤ac .i64 ((first:Int)+((2*i+1:Nat):Int))∧_)∧_)
    refine e.less (i:=first+(2*i+1)) (j:=first+(2*i+1)+1) (by rw[dL (by omega)];omega) (by rw[dL (x:=(first:Int)+_) (by omega),dL (by omega)];omega) (by omega) (by omega) (u _ _ ⟨rfl,?_⟩)
    simp;omega
   ·rintro t f ⟨rfl,v⟩
    refine CondP.intro (fun o=>?_) fun o=>?_
    ·show R (ac .i64 (((2*i+1:Nat):Int)+1)) _
     rw[F];exact D _ _ ⟨rfl,_,rfl,by rw[if_pos (v.1 o)]⟩
    ·exact D _ _ ⟨rfl,_,rfl,by rw[if_neg fun N=>by rw[v.2 N]at o;cases o]⟩
  ·rintro t f ⟨rfl,c,rfl,hc⟩
   have T:c<hi∧i<c:=by rw[hc];split<;>omega
   refine e.less (i:=first+i) (j:=first+c) (by rw[dL (by omega)];omega) (by rw[dL (by omega)];omega) (by omega) (by omega) ?_
   have n:siftDown ltInt hi first i m=if !ltInt m[first+i]! m[first+c]! then m else siftDown ltInt hi first c (swp m (first+i) (first+c)):=by
    rw[siftDown,dif_neg (by omega)];by_cases w:2*i+2<hi∧ltInt m[first+(2*i+1)]! m[first+(2*i+1)+1]! =true
    ·rw[if_pos (by simp only[aO,decide_eq_true_iff];exact w),dif_pos w.1]
     rw[if_pos w]at hc;rw[hc]
    ·rw[if_neg (by simp only[aO,decide_eq_true_iff];exact w)]
     rw[if_neg w]at hc;rw[hc]
   refine CondP.intro (fun o=>?_) fun o=>?_
   ·refine E _ ?_ q
    rw[←p,n,if_pos o];exact e
   ·refine e.swap (i:=first+i) (j:=first+c) (by rw[dL (by omega)];omega) (by rw[dL (by omega)];omega) (by omega) (by omega) fun V C A=>?_
    refine Q (c,swp m (first+i) (first+c)) _ _ ⟨rfl,C,by simp[y],?_,q.tr A,by(try simp only);omega⟩ (by(try simp only);omega)
    rw[←p,n,if_neg (by rw[o];simp)]
theorem LJ{a e:Nat}(L:SAG s b rest h d)(V:a≤e)(Z:e≤d.size){K:Unit→ae→Prop}(O:∀f,SAG s b rest f (heapSort ltInt d a e)→Upd (· =b) h f→K () f):
  eJ 206 [.slice s.a s.len s.cap,.int .i64 a,.int .i64 e] K h:=by
 refine eM (lJ s a e) rN Tryz.func206 Tryz.call206 ?_;dsimp only[lJ,Fi,F7,cg,dy,ic,ji];have P:=L.small;have S:ac .i64 ((e:Int)-(a:Int))=((e-a:Nat):Int):=by rw[dL (by omega)];omega
 rw[S];refine⟨by decide,?_⟩;have z:ac .i64 (pM (ac .i64 (((e-a:Nat):Int)-1)) 2)=(((e-a-1)/2+1:Nat):Int)-1:=by
  rw[dL (x:=((e-a:Nat):Int)-1) (by omega)];by_cases T:e-a=0
  ·rw[T];decide
  ·rw[Int.tdiv_eq_ediv_of_nonneg (by omega),dL (by omega)];omega
 show LoopP _ (ac .i64 (pM (ac .i64 (((e-a:Nat):Int)-1)) 2)) h
 rw[z];refine LoopP.ghost (fun(g:Nat×Array Int) (t:Int) f=>t=(g.1:Int)-1∧SAG s b rest f g.2∧g.2.size=d.size∧heapBuild ltInt (e-a) a g.1 g.2=heapBuild ltInt (e-a) a ((e-a-1)/2+1) d∧Upd (· =b) h f∧g.1≤1000000000) (fun g=>g.1) ((e-a-1)/2+1,d)
  ⟨rfl,L,rfl,rfl,Upd.refl _ _,by(try simp only);omega⟩ ?_
 rintro I ⟨k,Q⟩ t h1 ⟨v,p,q,o,w,H⟩ R;(try simp only at v p q o H)
 subst v;refine ak (fun A=>?_) fun N=>?_
 ·obtain⟨k,rfl⟩:∃k',k=k'+1:=⟨k-1,by omega⟩
  have D:((k+1:Nat):Int)-1=(k:Int):=by omega
  rw[D];refine B8 p (by omega) (fun h2 c m=>R (k,_) _ _ ⟨by rw[dL (by omega)],c,by simp[q],?_,w.tr m,by(try simp only);omega⟩ (by simp)) (by omega)
  rw[←o];rfl
 ·have:k=0:=by omega
  subst this;rw[dL (x:=((e-a:Nat):Int)-1) (by omega)];refine LoopP.ghost (fun(g:Nat×Array Int) (t:Int) f=>t=(g.1:Int)-1∧SAG s b rest f g.2∧g.2.size=d.size∧heapPop ltInt a g.1 g.2=heapSort ltInt d a e∧Upd (· =b) h f∧g.1≤e-a) (fun g=>g.1) (e-a,Q)
   ⟨rfl,p,q,by rw[heapSort,←o];rfl,w,ai _⟩ ?_
  rintro X ⟨k,W⟩ t h2 ⟨v,c,u,n,m,E⟩ F;(try simp only at v c u n E)
  subst v;refine ak (fun A=>?_) fun J=>?_
  ·obtain⟨k,rfl⟩:∃k',k=k'+1:=⟨k-1,by omega⟩
   have D:((k+1:Nat):Int)-1=(k:Int):=by omega
   rw[D];refine c.swap (i:=a) (j:=a+k) rfl (by rw[dL (by omega)];omega) (by omega) (by omega) fun Y y G=>?_
   refine B8 (root:=0) y (by simp;omega) (fun U B C=>F (k,_) _ _ ⟨by rw[dL (by omega)],B,by simp[u],?_,(m.tr G).tr C,by(try simp only);omega⟩ (by simp)) (by omega)
   rw[←n];rfl
  ·have:k=0:=by omega
   subst this;refine O _ ?_ m;rw[←n];exact c
theorem MW{a e:Nat}(y:SAG s b rest h d)(E:a<e)(H:e≤d.size){K:Unit→ae→Prop}(A:∀n,SAG s b rest n (reverseRange d a e)→Upd (· =b) h n→K () n):
  eJ 209 [.slice s.a s.len s.cap,.int .i64 a,.int .i64 e] K h:=by
 refine eM (kg s a e) pG Tryz.func209 Tryz.call209 ?_;dsimp only[kg,F7,cg,dy,ic,ji];have B:=y.small;refine LoopP.ghost (fun(g:Nat×Nat×Array Int) (t:Int×Int) n=>t.1=(g.1:Int)∧t.2=(g.2.1:Int)∧SAG s b rest n g.2.2∧g.2.2.size=d.size∧reverseLoop g.1 g.2.1 g.2.2=reverseRange d a e∧Upd (· =b) h n∧g.2.1<e) (fun g=>g.2.1-g.1) (a,e-1,d)
  ⟨rfl,by(try simp only);rw[dL (by omega)];omega,y,rfl,rfl,Upd.refl _ _,by(try simp only);omega⟩ ?_
 rintro I ⟨i,j,C⟩ ⟨G,F⟩ J ⟨v,q,m,u,f,p,z⟩ D;(try simp only at v q m u f z)
 subst v q;refine ak (fun c=>?_) fun o=>?_
 ·have c:i<j:=by have:(i:Int)<(j:Int):=c;omega
  refine m.swap (i:=i) (j:=j) rfl rfl (by omega) (by omega) fun h2 w x=>?_
  refine D (i+1,j-1,swp C i j) _ _ ⟨by(try simp only);rw[dL (by omega)];rfl,by(try simp only);rw[dL (by omega)];omega,w,by simp[u],?_,p.tr x,by(try simp only);omega⟩ (by(try simp only);omega)
  rw[←f];conv=>rhs;rw[reverseLoop]
  rw[if_pos c]
 ·refine A _ ?_ p
  rw[←f,reverseLoop,if_neg (by have o:¬(i:Int)<(j:Int):=o;omega)];exact m
end Go.Proofs
namespace Go.Proofs
open Go.Lift Go.Sort
variable {s:SliceV} {b:Nat} {rest:List Value} {h:ae} {d:Array Int}
theorem A0{T:Int→(Bool→ae→Prop)→ae→Prop}{REST:Int→ae→Prop}{p:Int→Bool}{o q:Int}{j i0:Nat}(u:q=(i0:Int))(A:o=(j:Int))(B:j≤1000000000)(y:i0≤1000000000)
  (w:∀(i:Nat) (R:Bool→ae→Prop),i0≤i→i≤j→R (p d[i]!) h→T (i:Int) R h) (f:REST ((scanUp p d j i0:Nat):Int) h):
  LoopP (fun(I:Int→ae→Prop) (t:Int) e=>Join (fun(c:Bool) b=>CondP c (I (ac .i64 (t+1)) b) (REST t b)) (fun J=>CondP (decide (t≤o)) (T t J e) (J false e))) q h:=by
 subst u A;refine LoopP.ghost (fun(i:Nat) (t:Int) e=>t=(i:Int)∧e=h∧i0≤i∧i≤1000000001∧scanUp p d j i=scanUp p d j i0) (fun i=>j+1-i) i0 ⟨rfl,rfl,ai _,by omega,rfl⟩ ?_
 rintro I i t e ⟨rfl,rfl,hi,v,g⟩ s;refine Join.intro (fun c b=>b=e∧(c=true↔i≤j∧p d[i]! =true)) (fun R f=>?_) ?_
 ·refine ak (fun z=>?_) fun x=>f _ _ ⟨rfl,by simp;omega⟩
  exact w i _ hi (by omega) (f _ _ ⟨rfl,by simp;omega⟩)
 ·rintro c b ⟨rfl,hc⟩
  refine CondP.intro (fun m=>?_) fun m=>?_
  ·have n:=hc.1 m
   refine s (i+1) _ _ ⟨by rw[dL (by omega)];rfl,rfl,by omega,by omega,?_⟩ (by omega)
   rw[←g];conv=>rhs;rw[scanUp]
   rw[if_pos (by simp[n])]
  ·have:scanUp p d j i=i:=by
    rw[scanUp,if_neg];intro n;simp only[aO,decide_eq_true_iff]at n;rw[hc.2 n]at m;cases m
   rw[←g,this]at f;exact f
theorem xd{T:Int→(Bool→ae→Prop)→ae→Prop}{REST:Int→ae→Prop}{p:Int→Bool}{ti q:Int}{j0 i:Nat}(u:q=(j0:Int))(y:ti=(i:Int))(A:j0≤1000000000)(x:1≤i)
  (v:∀(j:Nat) (R:Bool→ae→Prop),i≤j→j≤j0→R (p d[j]!) h→T (j:Int) R h) (f:REST ((scanDown p d i j0:Nat):Int) h):
  LoopP (fun(I:Int→ae→Prop) (t:Int) e=>Join (fun(c:Bool) b=>CondP c (I (ac .i64 (t-1)) b) (REST t b)) (fun J=>CondP (decide (ti≤t)) (T t J e) (J false e))) q h:=by
 subst u y;refine LoopP.ghost (fun(j:Nat) (t:Int) e=>t=(j:Int)∧e=h∧j≤j0∧scanDown p d i j=scanDown p d i j0) (fun j=>j) j0 ⟨rfl,rfl,ai _,rfl⟩ ?_
 rintro I j t e ⟨rfl,rfl,o,g⟩ s;refine Join.intro (fun c b=>b=e∧(c=true↔i≤j∧p d[j]! =true)) (fun R f=>?_) ?_
 ·refine ak (fun z=>?_) fun w=>f _ _ ⟨rfl,by simp;omega⟩
  exact v j _ (by omega) o (f _ _ ⟨rfl,by simp;omega⟩)
 ·rintro c b ⟨rfl,hc⟩
  refine CondP.intro (fun m=>?_) fun m=>?_
  ·have n:=hc.1 m
   obtain⟨j,rfl⟩:∃k,j=k+1:=⟨j-1,by omega⟩
   refine s j _ _ ⟨by rw[dL (by omega)];omega,rfl,by omega,?_⟩ (by omega)
   rw[←g];conv=>rhs;rw[scanDown]
   rw[if_pos (by simp[n])]
  ·have:scanDown p d i j=j:=by
    cases j with
    |zero=>rw[scanDown]
    |succ j=>
     rw[scanDown,if_neg];intro n;simp only[aO,decide_eq_true_iff]at n;rw[hc.2 n]at m;cases m
   rw[←g,this]at f;exact f
theorem PB{a e n:Nat}(J:SAG s b rest h d)(U:a≤n)(hp:n<e)(Y:e≤d.size){K:Int→ae→Prop}(H:∀o,SAG s b rest o (partitionEqual ltInt d a e n).2→Upd (· =b) h o→K ((partitionEqual ltInt d a e n).1:Nat) o):
  iI 212 [.slice s.a s.len s.cap,.int .i64 a,.int .i64 e,.int .i64 n] K h:=by
 refine eM (jx s a e n) oI Tryz.func212 Tryz.call212 ?_;dsimp only[jx,F7,cg,dy,ic,ji,Iq,Gi];have Q:=J.small;refine J.swap (i:=a) (j:=n) rfl rfl (by omega) (by omega) fun X D z=>?_
 refine LoopP.ghost (fun(g:Nat×Nat×Array Int) (t:Int×Int) o=>t.1=(g.1:Int)∧t.2=(g.2.1:Int)∧SAG s b rest o g.2.2∧g.2.2.size=d.size∧partEqLoop ltInt a g.1 g.2.1 g.2.2=partitionEqual ltInt d a e n∧Upd (· =b) h o∧g.2.1<e∧a<g.1∧g.1≤1000000000) (fun g=>g.2.1+1-g.1) (a+1,e-1,swp d a n)
  ⟨by(try simp only);rw[dL (by omega)];rfl,by(try simp only);rw[dL (by omega)];omega,D,by simp,rfl,z,by(try simp only);omega,by simp,by(try simp only);omega⟩ ?_
 rintro I ⟨i,j,f⟩ ⟨W,V⟩ Z ⟨y,v,m,w,c,u,O,F,q⟩ T;(try simp only at y v m w c O F q)
 subst y v;have N:=scanUp_ge (fun x=> !ltInt f[a]! x) f j i
 rw[partEqLoop_eq]at c;refine A0 (d:=f) (p:=fun x=> !ltInt f[a]! x) (i0:=i) rfl rfl (by omega) q (fun k R G E A=>m.less (i:=a) (j:=k) rfl rfl (by omega) (by omega) A) ?_
 generalize scanUp (fun x=> !ltInt f[a]! x) f j i=i2 at N c
 have P:=scanDown_le (fun x=>ltInt f[a]! x) f i2 j
 refine xd (d:=f) (p:=fun x=>ltInt f[a]! x) (j0:=j) (i:=i2) rfl rfl (by omega) (by omega) (fun k R G E A=>m.less (i:=a) (j:=k) rfl rfl (by omega) (by omega) A) ?_
 generalize scanDown (fun x=>ltInt f[a]! x) f i2 j=j2 at P c
 refine ak (fun L=>?_) fun S=>?_
 ·rw[if_pos (by omega)]at c
  rw[←c]at H;exact H _ m u
 ·rw[if_neg (by omega)]at c
  refine m.swap (i:=i2) (j:=j2) rfl rfl (by omega) (by omega) fun h2 B C=>?_
  exact T (i2+1,j2-1,swp f i2 j2) _ _ ⟨by(try simp only);rw[dL (by omega)];rfl,by(try simp only);rw[dL (by omega)];omega,B,by simp[w],c,u.tr C,by(try simp only);omega,by(try simp only);omega,by(try simp only);omega⟩ (by(try simp only);omega)
theorem Ur{a e m:Nat}(S:SAG s b rest h d)(ha:a≤m)(hp:m<e)(he:e≤d.size){K:Int×Bool→ae→Prop}
  (N:∀C,SAG s b rest C (partition ltInt d a e m).2.2→Upd (· =b) h C→K (((partition ltInt d a e m).1:Nat),(partition ltInt d a e m).2.1) C):
  SN 213 [.slice s.a s.len s.cap,.int .i64 a,.int .i64 e,.int .i64 m] K h:=by
 refine eM (kZ s a e m) rk Tryz.func213 Tryz.call213 ?_;dsimp only[kZ,F7,cg,dy,ic,ji,Iq,Gi];have Z:=S.small;refine S.swap (i:=a) (j:=m) rfl rfl (by omega) (by omega) fun h0 n D=>?_
 have E:(swp d a m).size=d.size:=by simp
 have q:partition ltInt d a e m=(let d:=swp d a m
  let i:=scanUp (fun x=>ltInt x d[a]!) d (e-1) (a+1)
  let j:=scanDown (fun x=> !ltInt x d[a]!) d i (e-1)
  if i>j then(j,true,swp d j a)else
  let r:=partLoop ltInt a (i+1) (j-1) (swp d i j)
  (r.1,false,swp r.2 r.1 a)):=rfl
 (try simp only at q)
 generalize swp d a m=d0 at n E q;have T:ac .i64 ((e:Int)-1)=((e-1:Nat):Int):=by rw[dL (by omega)];omega
 have wa:ac .i64 ((a:Int)+1)=((a+1:Nat):Int):=by rw[dL (by omega)];rfl
 have W:=scanUp_ge (fun x=>ltInt x d0[a]!) d0 (e-1) (a+1)
 refine A0 (d:=d0) (p:=fun x=>ltInt x d0[a]!) (j:=e-1) (i0:=a+1) wa T (by omega) (by omega) (fun k R B z v=>n.less (i:=k) (j:=a) rfl rfl (by omega) (by omega) v) ?_
 generalize scanUp (fun x=>ltInt x d0[a]!) d0 (e-1) (a+1)=i2 at W q
 have Y:=scanDown_le (fun x=> !ltInt x d0[a]!) d0 i2 (e-1)
 refine xd (d:=d0) (p:=fun x=> !ltInt x d0[a]!) (j0:=e-1) (i:=i2) T rfl (by omega) (by omega) (fun k R B z v=>n.less (i:=k) (j:=a) rfl rfl (by omega) (by omega) v) ?_
 generalize scanDown (fun x=> !ltInt x d0[a]!) d0 i2 (e-1)=j2 at Y q
 refine ak (fun O=>?_) fun hle=>?_
 ·rw[if_pos (by omega)]at q
  rw[q]at N;exact n.swap (i:=j2) (j:=a) rfl rfl (by omega) (by omega) fun h2 w y=>N h2 w (D.tr y)
 ·rw[if_neg (by omega)]at q
  refine n.swap (i:=i2) (j:=j2) rfl rfl (by omega) (by omega) fun h2 w y=>?_
  refine LoopP.ghost (fun(g:Nat×Nat×Array Int) (t:Int×Int) C=>t.1=(g.1:Int)∧t.2=(g.2.1:Int)∧SAG s b rest C g.2.2∧g.2.2.size=d.size∧partLoop ltInt a g.1 g.2.1 g.2.2=partLoop ltInt a (i2+1) (j2-1) (swp d0 i2 j2)∧Upd (· =b) h C∧g.2.1<e∧a<g.1∧g.1≤1000000000) (fun g=>g.2.1+1-g.1) (i2+1,j2-1,swp d0 i2 j2)
   ⟨by(try simp only);rw[dL (by omega)];rfl,by(try simp only);rw[dL (by omega)];omega,w,by simp[E],rfl,D.tr y,by(try simp only);omega,by(try simp only);omega,by(try simp only);omega⟩ ?_
  rintro I ⟨i,j,f⟩ ⟨t1,t2⟩ h1 ⟨L,H,o,J,c,G,X,P,F⟩ hI;(try simp only at L H o J c X P F)
  subst L H;have V:=scanUp_ge (fun x=>ltInt x f[a]!) f j i
  rw[partLoop_eq]at c;refine A0 (d:=f) (p:=fun x=>ltInt x f[a]!) (i0:=i) rfl rfl (by omega) F (fun k R B z v=>o.less (i:=k) (j:=a) rfl rfl (by omega) (by omega) v) ?_
  generalize scanUp (fun x=>ltInt x f[a]!) f j i=i3 at V c
  have g4:=scanDown_le (fun x=> !ltInt x f[a]!) f i3 j
  refine xd (d:=f) (p:=fun x=> !ltInt x f[a]!) (j0:=j) (i:=i3) rfl rfl (by omega) (by omega) (fun k R B z v=>o.less (i:=k) (j:=a) rfl rfl (by omega) (by omega) v) ?_
  generalize scanDown (fun x=> !ltInt x f[a]!) f i3 j=j3 at g4 c
  refine ak (fun O=>?_) fun Q=>?_
  ·rw[if_pos (by omega)]at c
   rw[q,←c]at N;exact o.swap (i:=j3) (j:=a) rfl rfl (by omega) (by omega) fun U u A=>N U u (G.tr A)
  ·rw[if_neg (by omega)]at c
   refine o.swap (i:=i3) (j:=j3) rfl rfl (by omega) (by omega) fun U u A=>?_
   exact hI (i3+1,j3-1,swp f i3 j3) _ _ ⟨by(try simp only);rw[dL (by omega)];rfl,by(try simp only);rw[dL (by omega)];omega,u,by simp[J],c,G.tr A,by(try simp only);omega,by(try simp only);omega,by(try simp only);omega⟩ (by(try simp only);omega)
end Go.Proofs
