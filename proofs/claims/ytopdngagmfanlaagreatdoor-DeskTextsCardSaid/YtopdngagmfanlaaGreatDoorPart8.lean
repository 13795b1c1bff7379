/- A part of the proof that the named laws of this program answer true, whatever the input. -/
import Derived.Test.YtopdngagmfanlaaGreatDoorPart7
import Derived.Shelf.Lays
import Derived.Shelf.LaysM
import Derived.Shelf.Strings.OnBuilder
import Derived.Shelf.Strconv.Itoa3
import Derived.Test.YtopdngagmfanlaaGreatDoorTreeF0
import Derived.Test.YtopdngagmfanlaaGreatDoorTreeF1
import Derived.Test.YtopdngagmfanlaaGreatDoorTreeF2
import Derived.Lib.AppendIntMem
open Bool renaming and_eq_true→aJ,true_and→dj,false_and→iA
open ByteArray renaming size_append→aE
open Go.IntKind renaming wrap→ac,wrap_u32→qL,wrap_u64→dZ
open Int renaming toNat_natCast→ak
open List renaming cons→xa,append_assoc→aM,mem_cons→ar,not_mem_nil→bX,nil_append→jM,mem_cons_of_mem→aK,mem_cons_self→aP,append_nil→cE,length_cons→ay,getElem?_eq_getElem→ah,getElem_mem→bZ,length_take→be,length_nil→bN,take_length→bJ
open Nat renaming le_refl→av,zero_le→aV,le_trans→aU,beq→az
open Option renaming map_eq_some_iff→eA,getD_some→qI
open Prod renaming mk→pW
open UInt8 renaming ofNat→cq
namespace Go.Proofs
open Go Go.Lift
theorem Od{c:UInt8}(h:qC c<16):sS (qC c)=c:=by
 have key:∀n:Fin 256,qC (cq n.val)<16→sS (qC (cq n.val))=cq n.val:=by decide+kernel
 have:=key ⟨c.toNat,c.toNat_lt⟩;rw[UInt8.ofNat_toNat]at this;exact this h
theorem Fe:∀(w s:List UInt8),gd w=some s→yH s=w
 | [],s,h=>by cases h;rfl
 | [_],s,h=>by cases h
 |a::b::l,s,h=>by
  rw[ux]at h;split at h
  ·rename_i hd
   obtain⟨t,c,rfl⟩:=eA.1 h;show sS _::sS _::yH t=_
   rw[Fe l t c,UInt8.toNat_ofNat_of_lt' (by show _<256;omega)];rw[show(16*qC a+qC b)/16=qC a by omega,show(16*qC a+qC b)%16=qC b by omega,Od hd.1,Od hd.2]
  ·cases h
theorem QE{w s:List UInt8}(h:i7 w=some s):lU s=w:=by
 unfold i7 at h;split at h
 ·rename_i e;cases h;rw[e];rfl
 split at h
 ·cases h
 ·rename_i e1 e2
  have:=Fe w s h;unfold lU;rw[if_neg (fun e=>by rw[e]at this;exact e2 this.symm),this]
theorem Wa{w:List UInt8}{n:Nat}(h:mI w=some n):dL n=w∧n<18446744073709551616:=by
 unfold mI at h;split at h
 ·rename_i e;cases h;exact⟨e.2.2.2,e.2.2.1⟩
 ·cases h
theorem Hb{ws ws':List (List UInt8)}{ok:Bool}(h:(cd (ws,ok)).2=(ws',true)):ok=true∧ws=(cd (ws,ok)).1::ws':=by
 cases ws with
 |nil=>simp[cd]at h
 |cons w r=>simp[cd]at h;exact⟨h.2,by rw[h.1];rfl⟩
theorem pe{ws ws':List (List UInt8)}{ok:Bool}(h:(bw (ws,ok)).2=(ws',true)):ok=true∧ws=lU (bw (ws,ok)).1::ws':=by
 cases ws with
 |nil=>simp[bw,cd]at h
 |cons w r=>
  simp only[bw,cd,pW.injEq,aJ]at h⊢;obtain⟨s,a⟩:=Option.isSome_iff_exists.1 h.2.2;rw[a,qI,QE a];exact⟨h.2.1,by rw[h.1]⟩
theorem Ao{m:Nat}{ws ws':List (List UInt8)}{ok:Bool}(h:(eI m (ws,ok)).2=(ws',true)):ok=true∧ws=dL (eI m (ws,ok)).1::ws'∧(eI m (ws,ok)).1≤m:=by
 cases ws with
 |nil=>
  have h:(([]:List (List UInt8)),false&&((mI []).isSome&&decide ((mI []).getD 0≤m)))=(ws',true):=h;cases h
 |cons w r=>
  have h:(r,ok&&((mI w).isSome&&decide ((mI w).getD 0≤m)))=(ws',true):=h;show ok=true∧w::r=dL ((mI w).getD 0)::ws'∧(mI w).getD 0≤m
  cases hs:mI w with
  |none=>rw[hs]at h;cases ok<;>cases h
  |some s=>
   rw[hs]at h;simp only[Option.isSome_some,qI,dj,pW.injEq,aJ,decide_eq_true_eq]at h⊢;exact⟨h.2.1,by rw[h.1,(Wa hs).1],h.2.2⟩
theorem Hc{ws ws':List (List UInt8)}{ok:Bool}(h:(gT (ws,ok)).2=(ws',true)):ok=true∧ws=(gT (ws,ok)).1::ws'∧ft (aG (gT (ws,ok)).1)=true:=by
 cases ws with
 |nil=>simp[gT,cd]at h
 |cons w r=>
  simp only[gT,cd,pW.injEq,aJ]at h⊢;exact⟨h.2.1,by rw[h.1],h.2.2⟩
theorem G8{ws ws':List (List UInt8)}{ok:Bool}(h:(dH (ws,ok)).2=(ws',true)):ok=true∧iC (aG (dH (ws,ok)).1.1) (dH (ws,ok)).1.2=true∧ws=iB (aG (dH (ws,ok)).1.1) (dH (ws,ok)).1.2::ws':=by
 unfold dH at h⊢;split at h
 ·rename_i e
  rw[if_pos e];obtain⟨b,a⟩:=Hb h;refine⟨b,by show iC (aG []) false=true;decide,?_⟩
  cases ws with
  |nil=>cases e
  |cons w r=>cases e;rw[xa.injEq]at a;rw[a.2];rfl
 ·rename_i e
  rw[if_neg e];obtain⟨b,a⟩:=pe h;exact⟨b,rfl,a⟩
theorem E6:∀(n:Nat) (s:rB) (a:List Pr) {ws':List (List UInt8)},(gl n s a).1=(ws',true)→s.2=true∧∃l,s.1=mH l++ws'∧(gl n s a).2=a++l
 |0,s,a,ws',h=>by
  have h:s=(ws',true):=h;subst h;exact⟨rfl,[],rfl,by simp[gl]⟩
 |n+1,(ws,ok),a,ws',h=>by
  unfold gl at h⊢;split at h
  ·rename_i e
   rw[if_pos e];obtain⟨g,l,d,i⟩:=E6 n _ _ h;obtain⟨j,b⟩:=pe (ws:=(bw (ws,ok)).2.1) (ok:=(bw (ws,ok)).2.2) (ws':=mH l++ws') (by
    show(bw (bw (ws,ok)).2).2=_;rw[←d,←g])
   obtain⟨f,c⟩:=pe (ws:=ws) (ok:=ok) (ws':=(bw (ws,ok)).2.1) (by rw[←j]);refine⟨f,(aG (bw (ws,ok)).1,aG (bw (bw (ws,ok)).2).1)::l,?_,by rw[i];simp⟩
   have b:(bw (ws,ok)).2.1=lU (bw (bw (ws,ok)).2).1::(mH l++ws'):=b;show ws=lU _::lU _::(mH l++ws')
   rw[b]at c;simpa using c
  ·rename_i e
   rw[if_neg e];have h:(ws,ok)=(ws',true):=h;rw[h];exact⟨rfl,[],rfl,by simp⟩
theorem Vj{ws ws':List (List UInt8)}{ok:Bool}(h:(BE (ws,ok)).2=(ws',true)):ok=true∧∃l,X4 (BE (ws,ok)).1=some l∧ws=l++ws':=by
 unfold BE at h⊢;simp only at h⊢;obtain⟨e,d,b⟩:=G8 (ws:=(dH (bw (ws,ok)).2).2.1) (ok:=(dH (bw (ws,ok)).2).2.2) h;obtain⟨f,g,a⟩:=G8 (ws:=(bw (ws,ok)).2.1) (ok:=(bw (ws,ok)).2.2) (ws':=(dH (bw (ws,ok)).2).2.1) (by rw[←e]);obtain⟨i,c⟩:=pe (ws:=ws) (ok:=ok) (ws':=(bw (ws,ok)).2.1) (by rw[←f]);refine⟨i,_,by unfold X4;rw[if_pos (by simp only[aJ];exact⟨g,d⟩)],?_⟩
 have b:(dH (bw (ws,ok)).2).2.1=_:=b;have a:(bw (ws,ok)).2.1=_:=a;rw[b]at a;rw[a]at c;simpa using c
theorem Kb:∀(n:Nat) (s:rB) (a:List Ch) {ws':List (List UInt8)},(oe n s a).1=(ws',true)→s.2=true∧∃l b,mq l=some b∧s.1=b++ws'∧(oe n s a).2=a++l
 |0,s,a,ws',h=>by
  have h:s=(ws',true):=h;subst h;exact⟨rfl,[],[],rfl,rfl,by simp[oe]⟩
 |n+1,(ws,ok),a,ws',h=>by
  unfold oe at h⊢;split at h
  ·rename_i e
   rw[if_pos e];obtain⟨g,l,b,d,i,j⟩:=Kb n _ _ h;obtain⟨k,c,f,m⟩:=Vj (ws:=ws) (ok:=ok) (ws':=(BE (ws,ok)).2.1) (by rw[←g]);refine⟨k,(BE (ws,ok)).1::l,c++b,by simp only[mq,f,d],?_,by rw[j];simp⟩
   show ws=_
   rw[aM,←i];exact m
  ·rename_i e
   rw[if_neg e];have h:(ws,ok)=(ws',true):=h;rw[h];exact⟨rfl,[],[],rfl,rfl,by simp⟩
theorem Vi{ws ws':List (List UInt8)}{ok:Bool}(h:(jS (ws,ok)).2=(ws',true)):ok=true∧ws=(if(jS (ws,ok)).1.2 then[42]else eJ (jS (ws,ok)).1.1)::ws':=by
 unfold jS at h⊢;split at h
 ·rename_i e
  rw[if_pos e];obtain⟨b,a⟩:=Hb h;refine⟨b,?_⟩;cases ws with
  |nil=>cases e
  |cons w r=>cases e;rw[xa.injEq]at a;rw[a.2];rfl
 ·rename_i e
  rw[if_neg e];exact pe h
theorem S5{ws ws':List (List UInt8)}{ok:Bool}(h:(wA (ws,ok)).2=(ws',true)):ok=true∧ws=(if(wA (ws,ok)).1 then iw else Gk)::ws':=by
 cases ws with
 |nil=>
  have h:(([]:List (List UInt8)),false&&(decide (([]:List UInt8)=Gk)||decide (([]:List UInt8)=iw)))=(ws',true):=h
  cases h
 |cons w r=>
  have h:(r,ok&&(decide (w=Gk)||decide (w=iw)))=(ws',true):=h
  show ok=true∧w::r=(if decide (w=iw)then iw else Gk)::ws'
  simp only[pW.injEq,aJ,Bool.or_eq_true,decide_eq_true_eq]at h;refine⟨h.2.1,?_⟩;rw[h.1];rcases h.2.2 with e|e
  ·subst e;rfl
  ·subst e;rfl
def Pc(p:UInt8)(d:OpD):Prop:=(p=114→d.op=false)∧(p=112→d.ps= [])∧(p=99→d.cs= [])
theorem JK{n:Nat}(h:n≤4294967295):(ac .u32 (n:Int)).toNat=n:=by rw[qL];omega
theorem JJ{n:Nat}(h:n≤2147483647):ac .i64 (n:Int)=(n:Int):=kO (by omega)
theorem Xr{p:UInt8}(k:p∈kp){ws ws':List (List UInt8)}{ok:Bool}{d:OpD}(g:Pc p d)(h:(uw p ((ws,ok),d)).1=(ws',true)):ok=true∧∃l,ws=l++ws'∧Cl p (uw p ((ws,ok),d)).2=some l:=by
 simp only[ar,bX,or_false]at k;rcases k with rfl|rfl|rfl|rfl|rfl|rfl|rfl|rfl|rfl|rfl|rfl
 ·obtain⟨c,a,e⟩:=Hc (ws:=ws) (ok:=ok) h
  exact⟨c,[_],a,if_pos e⟩
 ·obtain⟨c,a,e⟩:=Hc (ws:=ws) (ok:=ok) h
  exact⟨c,[_],a,if_pos e⟩
 ·obtain⟨c,a⟩:=pe (ws:=ws) (ok:=ok) h
  exact⟨c,[_],a,rfl⟩
 ·obtain⟨c,a⟩:=pe (ws:=ws) (ok:=ok) h
  exact⟨c,[_],a,rfl⟩
 ·obtain⟨c,a,e⟩:=Ao (ws:=ws) (ok:=ok) h
  refine⟨c,[_],a,?_⟩;show some [dL (ac .u32 _).toNat]=_
  rw[JK e]
 ·obtain⟨c,a,e⟩:=Ao (ws:=ws) (ok:=ok) h
  refine⟨c,[_],a,?_⟩;show some [dL (ac .u32 _).toNat]=_
  rw[JK e]
 ·obtain⟨c,a,e⟩:=Ao (ws:=ws) (ok:=ok) h
  refine⟨c,[_],a,?_⟩;show(if cZ (ac .i64 _)then some [dL (ac .i64 _).toNat]else none)=_
  rw[JJ e,if_pos (by simp only[cZ,aJ,decide_eq_true_eq];omega),ak]
 ·obtain⟨c,a,e⟩:=Ao (ws:=ws) (ok:=ok) h
  refine⟨c,[_],a,?_⟩;show(if cZ (ac .i64 _)then some [dL (ac .i64 _).toNat]else none)=_
  rw[JJ e,if_pos (by simp only[cZ,aJ,decide_eq_true_eq];omega),ak]
 ·have h:(wA (jS (bw (ws,ok)).2).2).2=(ws',true):=h
  obtain⟨c,a⟩:=S5 (ws:=(jS (bw (ws,ok)).2).2.1) (ok:=(jS (bw (ws,ok)).2).2.2) h;obtain⟨e,f⟩:=Vi (ws:=(bw (ws,ok)).2.1) (ok:=(bw (ws,ok)).2.2) (ws':=(jS (bw (ws,ok)).2).2.1) (by rw[←c]);obtain⟨m,j⟩:=pe (ws:=ws) (ok:=ok) (ws':=(bw (ws,ok)).2.1) (by rw[←e]);have a:(jS (bw (ws,ok)).2).2.1=_:=a;have f:(bw (ws,ok)).2.1=_:=f;rw[a]at f;rw[f]at j
  refine⟨m,[_,_,_],j,?_⟩;have i:=g.1 rfl;show some [eJ (aG (bw (ws,ok)).1),(if(if(jS (bw (ws,ok)).2).1.2 then true else d.op)then[42]else eJ (if(jS (bw (ws,ok)).2).1.2 then d.up else(jS (bw (ws,ok)).2).1.1)),(if(wA (jS (bw (ws,ok)).2).2).1 then iw else Gk)]=_
  rw[i];cases(jS (bw (ws,ok)).2).1.2<;>rfl
 ·have h:(gl ws.length (ws,ok) d.ps).1=(ws',true):=h
  obtain⟨c,l,a,e⟩:=E6 _ _ _ h;refine⟨c,_,a,?_⟩;show some (mH (gl ws.length (ws,ok) d.ps).2)=_
  rw[e,g.2.1 rfl,jM]
 ·have h:(oe ws.length (ws,ok) d.cs).1=(ws',true):=h
  obtain⟨c,l,b,a,e,f⟩:=Kb _ _ _ h;refine⟨c,b,e,?_⟩;show mq (oe ws.length (ws,ok) d.cs).2=_
  rw[f,g.2.2 rfl,jM,a]
theorem RE{p q:UInt8}(c:p∈kp)(b:q∈kp)(a:p≠q)(s:rB)(d:OpD):Cl p (uw q (s,d)).2=Cl p d∧(Pc p d→Pc p (uw q (s,d)).2):=by
 simp only[ar,bX,or_false]at c b;rcases b with rfl|rfl|rfl|rfl|rfl|rfl|rfl|rfl|rfl|rfl|rfl<;>rcases c with rfl|rfl|rfl|rfl|rfl|rfl|rfl|rfl|rfl|rfl|rfl<;>first|exact absurd rfl a|exact⟨rfl,fun h=>⟨fun e=>by first|exact absurd e (by decide)|exact h.1 e,fun e=>by first|exact absurd e (by decide)|exact h.2.1 e,fun e=>by first|exact absurd e (by decide)|exact h.2.2 e⟩⟩
theorem JY{p:UInt8}(a:p∈kp):∀(pt:List UInt8) (s:rB) (d:OpD),(∀q∈pt,q∈kp)→p∉pt→Cl p (fV pt (s,d)).2=Cl p d
 | [],s,d,_,_=>rfl
 |q::pt,s,d,h,hn=>by
  show Cl p (fV pt (uw q (s,d))).2=_
  have e:uw q (s,d)=((uw q (s,d)).1,(uw q (s,d)).2):=rfl;rw[e,JY a pt _ _ (fun x hx=>h x (aK _ hx)) fun hx=>hn (aK _ hx)]
  exact(RE a (h q (aP ..)) (fun e=>hn (by rw[e];exact aP ..)) s d).1
theorem Ns:∀(pt:List UInt8) (ws:List (List UInt8)) (ok:Bool) (d:OpD) {ws':List (List UInt8)},(∀q∈pt,q∈kp)→pt.Nodup→(∀q∈pt,Pc q d)→(fV pt ((ws,ok),d)).1=(ws',true)→ok=true∧∃l,ws=l++ws'∧fC (fV pt ((ws,ok),d)).2 pt=some l
 | [],ws,ok,d,ws',_,_,_,h=>by
  have h:(ws,ok)=(ws',true):=h;cases h;exact⟨rfl,[],rfl,rfl⟩
 |p::pt,ws,ok,d,ws',hk,hd,hf,h=>by
  have g:=hk p (aP ..);have c:=List.nodup_cons.1 hd;have b:∀q∈pt,q∈kp:=fun q f=>hk q (aK _ f)
  have h:(fV pt (((uw p ((ws,ok),d)).1.1,(uw p ((ws,ok),d)).1.2),(uw p ((ws,ok),d)).2)).1=(ws',true):=h;obtain⟨n,l,k,i⟩:=Ns pt _ _ _ b c.2 (fun q f=>(RE (b q f) g (fun e=>c.1 (e▸f)) _ d).2 (hf q (aK _ f))) h
  obtain⟨o,a,s,m⟩:=Xr g (ws':=l++ws') (hf p (aP ..)) (by rw[←k,←n]);refine⟨o,a++l,by rw[aM];exact s,?_⟩
  have j:=JY g pt (uw p ((ws,ok),d)).1 (uw p ((ws,ok),d)).2 b c.1;rw[m]at j;show fC (fV pt ((uw p ((ws,ok),d)).1,(uw p ((ws,ok),d)).2)).2 (p::pt)=_
  unfold fC;rw[j];have i:fC (fV pt ((uw p ((ws,ok),d)).1,(uw p ((ws,ok),d)).2)).2 pt=some l:=i;rw[i]
theorem ZN{p:UInt8}(a:p∈kp)(x:rB×OpD):(uw p x).2.k=x.2.k:=by
 simp only[ar,bX,or_false]at a;rcases a with rfl|rfl|rfl|rfl|rfl|rfl|rfl|rfl|rfl|rfl|rfl<;>rfl
theorem Vh:∀(pt:List UInt8),(∀q∈pt,q∈kp)→∀(x:rB×OpD),(fV pt x).2.k=x.2.k
 | [],_,_=>rfl
 |p::pt,h,x=>by show(fV pt (uw p x)).2.k=_;rw[Vh pt fun q a=>h q (aK _ a),ZN (h p (aP ..))]
theorem Y7(p:UInt8)(k:Int):Pc p (d0 k):=⟨fun _=>rfl,fun _=>rfl,fun _=>rfl⟩
theorem Em{a:List UInt8}{d:OpD}(h:iq a=some d):∃w ws f,ix 32 a=w::ws∧f∈formsL∧f.2.1=w∧d=(fV f.2.2 ((ws,true),d0 f.1)).2∧(fV f.2.2 ((ws,true),d0 f.1)).1=([],true)∧fC d f.2.2=some ws∧d.k=f.1:=by
 unfold iq at h;split at h
 ·cases h
 rename_i w ws e;split at h
 ·cases h
 rename_i f hf;split at h
 ·rename_i e2
  cases h;have hm:=List.mem_of_find?_eq_some hf;have c:(fV f.2.2 ((ws,true),d0 f.1)).1=([],true):=Prod.ext e2.2 e2.1;obtain⟨_,l,b,g⟩:=Ns f.2.2 ws true (d0 f.1) (tH f hm).1 (tH f hm).2 (fun q _=>Y7 q _) c
  rw[cE]at b;subst b;exact⟨w,ws,f,e,hm,by simpa using List.find?_some hf,rfl,c,g,Vh _ (tH f hm).1 _⟩
 ·cases h
theorem GS{a:List UInt8}{d:OpD}(h:iq a=some d):jQ d=some a:=by
 obtain⟨w,ws,f,g,c,i,_,_,b,e⟩:=Em h;unfold jQ;rw[QL c e.symm];simp only[b,Option.map_some];rw[i,←g,N8]
abbrev dz(w:List UInt8):ByteArray:=aG ((i7 w).getD [])
abbrev fu(w:List UInt8):Int:=(((mI w).getD 0:Nat):Int)
def jy:List (List UInt8)→List Pr
 |a::b::l=>(dz a,dz b)::jy l
 |_=> []
def jT:List (List UInt8)→List Ch
 |a::b::c::l=>(dz a,dz b,dz c, !decide (b= [46]), !decide (c= [46]))::jT l
 |_=> []
def cB(k:Int)(ws:List (List UInt8)):OpD:=
 if k=0∨k=2∨k=7 then{d0 k with b:=aG (ws.getD 0 []),i:=ac .u32 (fu (ws.getD 1 []))}
 else if k=1∨k=3 then{d0 k with b:=aG (ws.getD 0 [])}
 else if k=4 then{d0 k with b:=aG (ws.getD 0 []),key:=dz (ws.getD 1 []),v:=dz (ws.getD 2 [])}
 else if k=5 then{d0 k with b:=aG (ws.getD 0 []),key:=dz (ws.getD 1 [])}
 else if k=6 then{d0 k with b:=aG (ws.getD 0 []),ps:=jy (ws.drop 1)}
 else if k=8 then{d0 k with b:=aG (ws.getD 0 []),o:=aG (ws.getD 1 []),w:=ac .i64 (fu (ws.getD 2 []))}
 else if k=10 then{d0 k with i:=ac .u32 (fu (ws.getD 0 [])),key:=dz (ws.getD 1 [])}
 else if k=11∨k=14 then{d0 k with i:=ac .u32 (fu (ws.getD 0 []))}
 else if k=12 then{d0 k with i:=ac .u32 (fu (ws.getD 0 [])),t:=ac .u32 (fu (ws.getD 1 []))}
 else if k=13 then{d0 k with b:=aG (ws.getD 0 []),cs:=jT (ws.drop 1)}
 else if k=15 then{d0 k with s:=ac .i64 (fu (ws.getD 0 [])),key:=dz (ws.getD 1 []),v:=dz (ws.getD 2 [])}
 else if k=16∨k=17 then{d0 k with s:=ac .i64 (fu (ws.getD 0 [])),key:=dz (ws.getD 1 [])}
 else if k=18∨k=20 then{d0 k with s:=ac .i64 (fu (ws.getD 0 []))}
 else if k=19 then{d0 k with s:=ac .i64 (fu (ws.getD 0 [])),b:=aG (ws.getD 1 [])}
 else if k=21 then{d0 k with i:=ac .u32 (fu (ws.getD 0 [])),key:=dz (ws.getD 1 []),w:=ac .i64 (fu (ws.getD 2 []))}
 else if k=22 then{d0 k with i:=ac .u32 (fu (ws.getD 0 [])),fr:=dz (ws.getD 1 []),op:=decide (ws.getD 2 []= [42]),up:=(if ws.getD 2 []= [42]then⟨#[]⟩else dz (ws.getD 2 [])),back:=decide (ws.length=4)&&decide (ws.getD 3 []=iw)}
 else d0 k
theorem xB{P:OpD→Prop}(k:Int)(ws:List (List UInt8))
  (c0:P {d0 k with b:=aG (ws.getD 0 []),i:=ac .u32 (fu (ws.getD 1 []))})
  (c1:P {d0 k with b:=aG (ws.getD 0 [])})
  (z:P {d0 k with b:=aG (ws.getD 0 []),key:=dz (ws.getD 1 []),v:=dz (ws.getD 2 [])})
  (j:P {d0 k with b:=aG (ws.getD 0 []),key:=dz (ws.getD 1 [])})
  (m:P {d0 k with b:=aG (ws.getD 0 []),ps:=jy (ws.drop 1)})
  (y:P {d0 k with b:=aG (ws.getD 0 []),o:=aG (ws.getD 1 []),w:=ac .i64 (fu (ws.getD 2 []))})
  (n:P {d0 k with i:=ac .u32 (fu (ws.getD 0 [])),key:=dz (ws.getD 1 [])})
  (x:P {d0 k with i:=ac .u32 (fu (ws.getD 0 []))})
  (u:P {d0 k with i:=ac .u32 (fu (ws.getD 0 [])),t:=ac .u32 (fu (ws.getD 1 []))})
  (p:P {d0 k with b:=aG (ws.getD 0 []),cs:=jT (ws.drop 1)})
  (c:P {d0 k with s:=ac .i64 (fu (ws.getD 0 [])),key:=dz (ws.getD 1 []),v:=dz (ws.getD 2 [])})
  (d:P {d0 k with s:=ac .i64 (fu (ws.getD 0 [])),key:=dz (ws.getD 1 [])})
  (e:P {d0 k with s:=ac .i64 (fu (ws.getD 0 []))})
  (f:P {d0 k with s:=ac .i64 (fu (ws.getD 0 [])),b:=aG (ws.getD 1 [])})
  (a:P {d0 k with i:=ac .u32 (fu (ws.getD 0 [])),key:=dz (ws.getD 1 []),w:=ac .i64 (fu (ws.getD 2 []))})
  (g:P {d0 k with i:=ac .u32 (fu (ws.getD 0 [])),fr:=dz (ws.getD 1 []),op:=decide (ws.getD 2 []= [42]),up:=(if ws.getD 2 []= [42]then⟨#[]⟩else dz (ws.getD 2 [])),back:=decide (ws.length=4)&&decide (ws.getD 3 []=iw)})
  (q:P (d0 k)):P (cB k ws):=by
 unfold cB;by_cases h:k=0∨k=2∨k=7
 ·rw[if_pos h];exact c0
 rw[if_neg h];clear h;by_cases h:k=1∨k=3
 ·rw[if_pos h];exact c1
 rw[if_neg h];clear h;by_cases h:k=4
 ·rw[if_pos h];exact z
 rw[if_neg h];clear h;by_cases h:k=5
 ·rw[if_pos h];exact j
 rw[if_neg h];clear h;by_cases h:k=6
 ·rw[if_pos h];exact m
 rw[if_neg h];clear h;by_cases h:k=8
 ·rw[if_pos h];exact y
 rw[if_neg h];clear h;by_cases h:k=10
 ·rw[if_pos h];exact n
 rw[if_neg h];clear h;by_cases h:k=11∨k=14
 ·rw[if_pos h];exact x
 rw[if_neg h];clear h;by_cases h:k=12
 ·rw[if_pos h];exact u
 rw[if_neg h];clear h;by_cases h:k=13
 ·rw[if_pos h];exact p
 rw[if_neg h];clear h;by_cases h:k=15
 ·rw[if_pos h];exact c
 rw[if_neg h];clear h;by_cases h:k=16∨k=17
 ·rw[if_pos h];exact d
 rw[if_neg h];clear h;by_cases h:k=18∨k=20
 ·rw[if_pos h];exact e
 rw[if_neg h];clear h;by_cases h:k=19
 ·rw[if_pos h];exact f
 rw[if_neg h];clear h;by_cases h:k=21
 ·rw[if_pos h];exact a
 rw[if_neg h];clear h;by_cases h:k=22
 ·rw[if_pos h];exact g
 rw[if_neg h];clear h;exact q
def LB(a:List UInt8):Option OpD:=match ix 32 a with
 | []=>none
 |w::ws=>match formsL.find? (fun f=>f.2.1==w)with
  |none=>none
  |some f=>if jQ (cB f.1 ws)=some a then some (cB f.1 ws)else none
theorem CJ(n:Int):0≤ac .u32 n∧ac .u32 n≤4294967295:=by rw[qL];omega
theorem Tt(k:Int)(ws:List (List UInt8)):W4 (cB k ws):=by
 have c:0≤(0:Int)∧(0:Int)≤4294967295:=by omega
 have key:∀d:OpD,(0≤d.i∧d.i≤4294967295)→(0≤d.t∧d.t≤4294967295)→W4 d:=fun d a b=>⟨a.1,a.2,b.1,b.2⟩
 apply xB<;>first|exact key _ c c|exact key _ (CJ _) c|exact key _ (CJ _) (CJ _)
theorem XJ(k:Int)(ws:List (List UInt8)):(cB k ws).k=k:=xB (P:=fun d=>d.k=k) k ws rfl rfl rfl rfl rfl rfl rfl rfl rfl rfl rfl rfl rfl rfl rfl rfl rfl
theorem CU(x:ByteArray):dz (eJ x)=x:=by unfold dz;rw[JN];exact JO x
theorem Km:∀l:List Pr,jy (mH l)=l
 | []=>rfl
 |p::l=>by
  show jy (eJ p.1::eJ p.2::mH l)=_
  rw[jy,CU,CU,Km l]
theorem Av{v:ByteArray}{is:Bool}(h:iC v is=true):dz (iB v is)=v∧(!decide (iB v is= [46]))=is:=by
 unfold iB;cases is with
 |true=>rw[if_pos rfl];exact⟨CU v,by rw[decide_eq_false (Ff v)];rfl⟩
 |false=>
  have h:v.data.toList= []:=by simpa[iC]using h
  refine⟨?_,by show(!decide (([46]:List UInt8)= [46]))=false;decide⟩
  rw[←JO v,h];show aG ((i7 [46]).getD [])=aG []
  rfl
theorem Ko:∀(l:List Ch) (ws:List (List UInt8)),mq l=some ws→jT ws=l
 | [],ws,h=>by cases h;rfl
 |c::l,ws,h=>by
  obtain⟨b,a,d,e,rfl⟩:=wJ h;rw[jT,Ko l b e,CU,(Av a).1,(Av a).2,(Av d).1,(Av d).2]
end Go.Proofs
namespace Go.Proofs
open Go Go.Lift
abbrev Vq:List UInt8:= [98,111,107,118,105,116,115,119]
theorem aaE{p:UInt8}(a:p∈Vq){d:OpD}{l:List (List UInt8)}(h:Cl p d=some l):l.length=1:=by
 simp only[ar,bX,or_false]at a;rcases a with rfl|rfl|rfl|rfl|rfl|rfl|rfl|rfl
 ·have h:(if ft d.b then some [d.b.data.toList]else none)=some l:=h
  split at h
  ·cases h;rfl
  ·cases h
 ·have h:(if ft d.o then some [d.o.data.toList]else none)=some l:=h
  split at h
  ·cases h;rfl
  ·cases h
 ·cases h;rfl
 ·cases h;rfl
 ·cases h;rfl
 ·cases h;rfl
 ·have h:(if cZ d.s then some [dL d.s.toNat]else none)=some l:=h
  split at h
  ·cases h;rfl
  ·cases h
 ·have h:(if cZ d.w then some [dL d.w.toNat]else none)=some l:=h
  split at h
  ·cases h;rfl
  ·cases h
theorem sO{d:OpD}:∀{pt:List UInt8},(∀p∈pt,p∈Vq)→∀{l:List (List UInt8)},fC d pt=some l→l.length=pt.length
 | [],_,l,h=>by cases h;rfl
 |p::pt,hp,l,h=>by
  unfold fC at h;split at h
  ·rename_i a b e1 e2
   cases h;rw[List.length_append,aaE (hp p (aP ..)) e1,sO (fun q c=>hp q (aK _ c)) e2,ay]
   omega
  ·cases h
theorem wn{d:OpD}{p:UInt8}{c:List UInt8}{l:List (List UInt8)}(h:fC d (p::c)=some l):∃a b,Cl p d=some a∧fC d c=some b∧l=a++b:=by
 unfold fC at h;split at h
 ·rename_i a b e1 e2
  cases h;exact⟨a,b,e1,e2,rfl⟩
 ·cases h
theorem lf0{ws:List (List UInt8)}{d:OpD}(hd:d=(fV [98,105] ((ws,true),d0 0)).2)(e:fC d [98,105]=some ws):cB 0 ws=d:=by
 have c:=sO (by decide) e;match ws,c with
 | [a,b],_=>rw[hd];rfl
theorem lf1{ws:List (List UInt8)}{d:OpD}(hd:d=(fV [98] ((ws,true),d0 1)).2)(c:fC d [98]=some ws):cB 1 ws=d:=by
 have b:=sO (by decide) c;match ws,b with
 | [a],_=>rw[hd];rfl
theorem lf2{ws:List (List UInt8)}{d:OpD}(hd:d=(fV [98,105] ((ws,true),d0 2)).2)(e:fC d [98,105]=some ws):cB 2 ws=d:=by
 have c:=sO (by decide) e;match ws,c with
 | [a,b],_=>rw[hd];rfl
theorem lf3{ws:List (List UInt8)}{d:OpD}(hd:d=(fV [98] ((ws,true),d0 3)).2)(c:fC d [98]=some ws):cB 3 ws=d:=by
 have b:=sO (by decide) c;match ws,b with
 | [a],_=>rw[hd];rfl
theorem lf4{ws:List (List UInt8)}{d:OpD}(hd:d=(fV [98,107,118] ((ws,true),d0 4)).2)(f:fC d [98,107,118]=some ws):cB 4 ws=d:=by
 have e:=sO (by decide) f;match ws,e with
 | [a,b,c],_=>rw[hd];rfl
theorem lf5{ws:List (List UInt8)}{d:OpD}(hd:d=(fV [98,107] ((ws,true),d0 5)).2)(e:fC d [98,107]=some ws):cB 5 ws=d:=by
 have c:=sO (by decide) e;match ws,c with
 | [a,b],_=>rw[hd];rfl
theorem lf6{ws:List (List UInt8)}{d:OpD}(hd:d=(fV [98,112] ((ws,true),d0 6)).2)(j:fC d [98,112]=some ws):cB 6 ws=d:=by
 obtain⟨k,o,g,f,rfl⟩:=wn j;obtain⟨i,p,c,n,rfl⟩:=wn f;cases n;have m:=aaE (by decide) g;match k,m with
 | [a],_=>
 rw[cE]at*;have e:d={d0 6 with b:=aG a,ps:=d.ps}:=by rw[hd];rfl
 have c:some (mH d.ps)=some i:=c;cases c;show({d0 6 with b:=aG a,ps:=jy (mH d.ps)}:OpD)=d
 rw[Km];exact e.symm
theorem lf7{ws:List (List UInt8)}{d:OpD}(hd:d=(fV [98,105] ((ws,true),d0 7)).2)(e:fC d [98,105]=some ws):cB 7 ws=d:=by
 have c:=sO (by decide) e;match ws,c with
 | [a,b],_=>rw[hd];rfl
theorem lf8{ws:List (List UInt8)}{d:OpD}(hd:d=(fV [98,111,119] ((ws,true),d0 8)).2)(f:fC d [98,111,119]=some ws):cB 8 ws=d:=by
 have e:=sO (by decide) f;match ws,e with
 | [a,b,c],_=>rw[hd];rfl
theorem lf9{ws:List (List UInt8)}{d:OpD}(hd:d=(fV [] ((ws,true),d0 9)).2)(b:fC d []=some ws):cB 9 ws=d:=by
 have a:=sO (by decide) b;match ws,a with
 | [],_=>rw[hd];rfl
theorem abl{ws:List (List UInt8)}{d:OpD}(hd:d=(fV [105,107] ((ws,true),d0 10)).2)(e:fC d [105,107]=some ws):cB 10 ws=d:=by
 have c:=sO (by decide) e;match ws,c with
 | [a,b],_=>rw[hd];rfl
theorem abk{ws:List (List UInt8)}{d:OpD}(hd:d=(fV [105] ((ws,true),d0 11)).2)(c:fC d [105]=some ws):cB 11 ws=d:=by
 have b:=sO (by decide) c;match ws,b with
 | [a],_=>rw[hd];rfl
theorem abj{ws:List (List UInt8)}{d:OpD}(hd:d=(fV [105,116] ((ws,true),d0 12)).2)(e:fC d [105,116]=some ws):cB 12 ws=d:=by
 have c:=sO (by decide) e;match ws,c with
 | [a,b],_=>rw[hd];rfl
theorem abi{ws:List (List UInt8)}{d:OpD}(hd:d=(fV [98,99] ((ws,true),d0 13)).2)(i:fC d [98,99]=some ws):cB 13 ws=d:=by
 obtain⟨j,o,f,c,rfl⟩:=wn i;obtain⟨g,p,m,n,rfl⟩:=wn c;cases n;have k:=aaE (by decide) f;match j,k with
 | [a],_=>
 rw[cE]at*;have e:d={d0 13 with b:=aG a,cs:=d.cs}:=by rw[hd];rfl
 show({d0 13 with b:=aG a,cs:=jT g}:OpD)=d
 rw[Ko _ _ m];exact e.symm
theorem abh{ws:List (List UInt8)}{d:OpD}(hd:d=(fV [105] ((ws,true),d0 14)).2)(c:fC d [105]=some ws):cB 14 ws=d:=by
 have b:=sO (by decide) c;match ws,b with
 | [a],_=>rw[hd];rfl
theorem abg{ws:List (List UInt8)}{d:OpD}(hd:d=(fV [115,107,118] ((ws,true),d0 15)).2)(f:fC d [115,107,118]=some ws):cB 15 ws=d:=by
 have e:=sO (by decide) f;match ws,e with
 | [a,b,c],_=>rw[hd];rfl
theorem abf{ws:List (List UInt8)}{d:OpD}(hd:d=(fV [115,107] ((ws,true),d0 16)).2)(e:fC d [115,107]=some ws):cB 16 ws=d:=by
 have c:=sO (by decide) e;match ws,c with
 | [a,b],_=>rw[hd];rfl
theorem abe{ws:List (List UInt8)}{d:OpD}(hd:d=(fV [115,107] ((ws,true),d0 17)).2)(e:fC d [115,107]=some ws):cB 17 ws=d:=by
 have c:=sO (by decide) e;match ws,c with
 | [a,b],_=>rw[hd];rfl
theorem abd{ws:List (List UInt8)}{d:OpD}(hd:d=(fV [115] ((ws,true),d0 18)).2)(c:fC d [115]=some ws):cB 18 ws=d:=by
 have b:=sO (by decide) c;match ws,b with
 | [a],_=>rw[hd];rfl
theorem abc{ws:List (List UInt8)}{d:OpD}(hd:d=(fV [115,98] ((ws,true),d0 19)).2)(e:fC d [115,98]=some ws):cB 19 ws=d:=by
 have c:=sO (by decide) e;match ws,c with
 | [a,b],_=>rw[hd];rfl
theorem abb{ws:List (List UInt8)}{d:OpD}(hd:d=(fV [115] ((ws,true),d0 20)).2)(c:fC d [115]=some ws):cB 20 ws=d:=by
 have b:=sO (by decide) c;match ws,b with
 | [a],_=>rw[hd];rfl
theorem aba{ws:List (List UInt8)}{d:OpD}(hd:d=(fV [105,107,119] ((ws,true),d0 21)).2)(f:fC d [105,107,119]=some ws):cB 21 ws=d:=by
 have e:=sO (by decide) f;match ws,e with
 | [a,b,c],_=>rw[hd];rfl
theorem aa9{ws:List (List UInt8)}{d:OpD}(hd:d=(fV [105,114] ((ws,true),d0 22)).2)(j:fC d [105,114]=some ws):cB 22 ws=d:=by
 obtain⟨n,m,f,b,rfl⟩:=wn j;obtain⟨g,o,a,k,rfl⟩:=wn b;cases f;cases k;have a:some [eJ d.fr,if d.op then[42]else eJ d.up,if d.back then iw else Gk]=some g:=a
 cases a;generalize dL d.i.toNat=x1 at*;generalize eJ d.fr=x2 at*;generalize (if d.op then[42]else eJ d.up)=x3 at*
 generalize (if d.back then iw else Gk)=x4 at*
 rw[hd];show({d0 22 with i:=_,fr:=_,op:=decide (x3= [42]),up:=(if x3= [42]then⟨#[]⟩else dz x3),back:=decide (x4=iw)}:OpD)=(uw 114 (uw 105 (([x1,x2,x3,x4],true),d0 22))).2
 by_cases e:x3= [42]
 ·subst e;rfl
 ·have e2:jS ([x3,x4],(bw ([x2,x3,x4],(eI 4294967295 ([x1,x2,x3,x4],true)).2.2)).2.2)=((dz x3,false),(bw ([x3,x4],(bw ([x2,x3,x4],(eI 4294967295 ([x1,x2,x3,x4],true)).2.2)).2.2)).2):=if_neg (fun h=>e (Option.some.inj h))
  have c:uw 114 (uw 105 (([x1,x2,x3,x4],true),d0 22))=((wA (jS ([x3,x4],(bw ([x2,x3,x4],(eI 4294967295 ([x1,x2,x3,x4],true)).2.2)).2.2)).2).2,{d0 22 with i:=ac .u32 (fu x1),fr:=dz x2,up:=(if(jS ([x3,x4],(bw ([x2,x3,x4],(eI 4294967295 ([x1,x2,x3,x4],true)).2.2)).2.2)).1.2 then⟨#[]⟩else(jS ([x3,x4],(bw ([x2,x3,x4],(eI 4294967295 ([x1,x2,x3,x4],true)).2.2)).2.2)).1.1),op:=(if(jS ([x3,x4],(bw ([x2,x3,x4],(eI 4294967295 ([x1,x2,x3,x4],true)).2.2)).2.2)).1.2 then true else false),back:=(wA (jS ([x3,x4],(bw ([x2,x3,x4],(eI 4294967295 ([x1,x2,x3,x4],true)).2.2)).2.2)).2).1}):=rfl
  rw[c,e2,if_neg e,decide_eq_false e];rfl
theorem aa8{ws:List (List UInt8)}{d:OpD}(hd:d=(fV [] ((ws,true),d0 23)).2)(b:fC d []=some ws):cB 23 ws=d:=by
 have a:=sO (by decide) b;match ws,a with
 | [],_=>rw[hd];rfl
theorem aa7{ws:List (List UInt8)}{d:OpD}(hd:d=(fV [] ((ws,true),d0 24)).2)(b:fC d []=some ws):cB 24 ws=d:=by
 have a:=sO (by decide) b;match ws,a with
 | [],_=>rw[hd];rfl
theorem aa6{ws:List (List UInt8)}{d:OpD}(hd:d=(fV [] ((ws,true),d0 25)).2)(b:fC d []=some ws):cB 25 ws=d:=by
 have a:=sO (by decide) b;match ws,a with
 | [],_=>rw[hd];rfl
theorem Hr{f:Int×List UInt8×List UInt8}(b:f∈formsL){ws:List (List UInt8)}{d:OpD}(hd:d=(fV f.2.2 ((ws,true),d0 f.1)).2)(a:fC d f.2.2=some ws):cB f.1 ws=d:=by
 simp only[formsL,ar,bX,or_false]at b;rcases b with rfl|rfl|rfl|rfl|rfl|rfl|rfl|rfl|rfl|rfl|rfl|rfl|rfl|rfl|rfl|rfl|rfl|rfl|rfl|rfl|rfl|rfl|rfl|rfl|rfl|rfl
 ·exact lf0 hd a
 ·exact lf1 hd a
 ·exact lf2 hd a
 ·exact lf3 hd a
 ·exact lf4 hd a
 ·exact lf5 hd a
 ·exact lf6 hd a
 ·exact lf7 hd a
 ·exact lf8 hd a
 ·exact lf9 hd a
 ·exact abl hd a
 ·exact abk hd a
 ·exact abj hd a
 ·exact abi hd a
 ·exact abh hd a
 ·exact abg hd a
 ·exact abf hd a
 ·exact abe hd a
 ·exact abd hd a
 ·exact abc hd a
 ·exact abb hd a
 ·exact aba hd a
 ·exact aa9 hd a
 ·exact aa8 hd a
 ·exact aa7 hd a
 ·exact aa6 hd a
theorem Tk(a:List UInt8):LB a=iq a:=by
 cases e:iq a with
 |some d=>
  obtain⟨w,ws,f,g,b,j,m,n,c,o⟩:=Em e;have i:=Hr b m c;have k:=GS e;unfold LB;rw[g];simp only;rw[←j,LZ b];simp only;rw[i,if_pos k]
 |none=>
  unfold LB;split
  ·rfl
  split
  ·rfl
  split
  ·rename_i h
   have:=Hi (Tt _ _) h;rw[e]at this;cases this
  ·rfl
structure SmallD(d:OpD):Prop where
 b:d.b.size≤20000
 o:d.o.size≤20000
 key:d.key.size≤20000
 v:d.v.size≤20000
 fr:d.fr.size≤20000
 up:d.up.size≤20000
 ps:d.ps.length≤20000∧∀p∈d.ps,p.1.size≤20000∧p.2.size≤20000
 cs:d.cs.length≤20000∧∀c∈d.cs,c.1.size≤20000∧c.2.1.size≤20000∧c.2.2.1.size≤20000
 num:W4 d
 s: -9223372036854775808≤d.s∧d.s≤9223372036854775807
 w: -9223372036854775808≤d.w∧d.w≤9223372036854775807
theorem GN:∀(w s:List UInt8),gd w=some s→s.length≤w.length
 | [],s,h=>by cases h;exact av _
 | [_],s,h=>by cases h
 |a::b::l,s,h=>by
  rw[ux]at h;split at h
  ·obtain⟨t,c,rfl⟩:=eA.1 h
   have:=GN l t c;simp only[ay];omega
  ·cases h
theorem tl(w:List UInt8):(dz w).size≤w.length:=by
 unfold dz;rw[cu];cases e:i7 w with
 |none=>exact aV _
 |some s=>
  unfold i7 at e;split at e
  ·cases e;exact aV _
  split at e
  ·cases e
  ·exact GN w s e
theorem A2{N:Nat}:∀l:List (List UInt8),(∀w∈l,w.length≤N)→(jy l).length≤l.length∧∀p∈jy l,p.1.size≤N∧p.2.size≤N
 | [],_=>⟨av _,fun p c=>by cases c⟩
 | [_],_=>⟨aV _,fun p c=>by cases c⟩
 |a::b::l,h=>by
  obtain⟨f,d⟩:=A2 (N:=N) l fun w e=>h w (aK _ (aK _ e))
  rw[jy];refine⟨by simp only[ay];omega,fun p c=>?_⟩
  rcases ar.1 c with rfl|c
  ·exact⟨aU (tl a) (h a (by simp)),aU (tl b) (h b (by simp))⟩
  ·exact d p c
theorem A4{N:Nat}:∀l:List (List UInt8),(∀w∈l,w.length≤N)→(jT l).length≤l.length∧∀c∈jT l,c.1.size≤N∧c.2.1.size≤N∧c.2.2.1.size≤N
 | [],_=>⟨av _,fun p d=>by cases d⟩
 | [_],_=>⟨aV _,fun p d=>by cases d⟩
 | [_,_],_=>⟨aV _,fun p d=>by cases d⟩
 |a::b::c::l,h=>by
  obtain⟨g,e⟩:=A4 (N:=N) l fun w f=>h w (aK _ (aK _ (aK _ f)))
  rw[jT];refine⟨by simp only[ay];omega,fun p d=>?_⟩
  rcases ar.1 d with rfl|d
  ·exact⟨aU (tl a) (h a (by simp)),aU (tl b) (h b (by simp)),aU (tl c) (h c (by simp))⟩
  ·exact e p d
theorem Ut(n:Int): -9223372036854775808≤ac .i64 n∧ac .i64 n≤9223372036854775807:=by rw[IntKind.wrap_i64];omega
theorem Fc(k:Int){ws:List (List UInt8)}(h:∀w∈ws,w.length≤20000)(s:ws.length≤20000):SmallD (cB k ws):=by
 have g:∀j,(ws.getD j []).length≤20000:=fun j=>by
  rw[List.getD_eq_getElem?_getD];cases e:ws[j]? with
  |none=>exact aV _
  |some w=>exact h w (List.mem_of_getElem? e)
 have gs:∀j,(aG (ws.getD j [])).size≤20000:=fun j=>by rw[cu];exact g j
 have f:∀j,(dz (ws.getD j [])).size≤20000:=fun j=>aU (tl _) (g j)
 have z:(⟨#[]⟩:ByteArray).size≤20000:=aV _;have o: -9223372036854775808≤(0:Int)∧(0:Int)≤9223372036854775807:=by omega
 have i:([]:List Pr).length≤20000∧∀p∈([]:List Pr),p.1.size≤20000∧p.2.size≤20000:=⟨aV _,fun _ h=>by cases h⟩
 have n:([]:List Ch).length≤20000∧∀c∈([]:List Ch),c.1.size≤20000∧c.2.1.size≤20000∧c.2.2.1.size≤20000:=⟨aV _,fun _ h=>by cases h⟩
 have hd:∀w∈ws.drop 1,w.length≤20000:=fun w m=>h w (List.mem_of_mem_drop m)
 have q:(ws.drop 1).length≤20000:=by rw[List.length_drop];omega
 have b:=A2 _ hd;have d:=A4 _ hd;have b:(jy (ws.drop 1)).length≤20000∧∀p∈jy (ws.drop 1),p.1.size≤20000∧p.2.size≤20000:=⟨by omega,b.2⟩;have d:(jT (ws.drop 1)).length≤20000∧∀c∈jT (ws.drop 1),c.1.size≤20000∧c.2.1.size≤20000∧c.2.2.1.size≤20000:=⟨by omega,d.2⟩;have up:(if ws.getD 2 []= [42]then(⟨#[]⟩:ByteArray)else dz (ws.getD 2 [])).size≤20000:=by split<;>first|exact z|exact f 2
 have a:0≤(0:Int)∧(0:Int)≤4294967295:=by omega
 apply xB<;>refine⟨?_,?_,?_,?_,?_,?_,?_,?_,?_,?_,?_⟩<;>first|exact up|exact z|exact gs _|exact f _|exact i|exact n|exact b|exact d|exact o|exact Ut _|exact⟨a.1,a.2,a.1,a.2⟩|exact⟨(CJ _).1,(CJ _).2,a.1,a.2⟩|exact⟨(CJ _).1,(CJ _).2,(CJ _).1,(CJ _).2⟩
theorem C7(c:UInt8):∀l:List UInt8,(ix c l).length≤l.length+1∧∀w∈ix c l,w.length≤l.length
 | []=>⟨av _,fun w b=>by rw[List.mem_singleton.1 b];exact av _⟩
 |a::l=>by
  obtain⟨f,d⟩:=C7 c l;unfold ix;split
  ·refine⟨by simp only[ay];omega,fun w b=>?_⟩
   rcases ar.1 b with rfl|b
   ·exact aV _
   ·have:=d w b;simp only[ay];omega
  ·cases e:ix c l with
   |nil=>exact absurd e (GB c l)
   |cons u ws=>
    rw[e]at f d;refine⟨by simp only[ay]at*;omega,fun w b=>?_⟩
    rcases ar.1 b with rfl|b
    ·have:=d u (aP ..);simp only[ay];omega
    ·have:=d w (aK _ b);simp only[ay];omega
theorem NM{a:List UInt8}(i:a.length≤19999){d:OpD}(h:iq a=some d):SmallD d:=by
 obtain⟨w,ws,f,e,b,j,g,k,c,m⟩:=Em h;rw[←Hr b g c];have hc:=C7 32 a;rw[e]at hc;refine Fc _ (fun x hx=>?_) ?_
 ·have:=hc.2 x (aK _ hx);omega
 ·have:=hc.1;simp only[ay]at this;omega
end Go.Proofs
set_option maxRecDepth 100000
namespace Go.Proofs
open Go Go.Lift Go.Shelf
def Vg:Ren:=⟨fun n=>bif az n 129 then 130 else bif az n 156 then 47 else bif az n 165 then 78 else bif az n 166 then 79 else bif az n 169 then 42 else bif az n 171 then 63 else bif az n 240 then 74 else bif az n 241 then 111 else bif az n 243 then 91 else bif az n 246 then 125 else bif az n 276 then 107 else bif az n 277 then 135 else bif az n 283 then 103 else bif az n 284 then 104 else bif az n 285 then 105 else bif az n 286 then 106 else bif az n 317 then 129 else bif az n 318 then 131 else bif az n 319 then 132 else bif az n 320 then 133 else bif az n 337 then 189 else bif az n 338 then 190 else 0,
 fun n=>bif az n 0 then 0 else bif az n 2 then 2 else bif az n 3 then 3 else bif az n 4 then 4 else bif az n 5 then 5 else bif az n 9 then 9 else bif az n 20 then 20 else bif az n 31 then 76 else bif az n 37 then 95 else bif az n 46 then 32 else bif az n 51 then 23 else bif az n 53 then 52 else bif az n 70 then 103 else bif az n 72 then 105 else bif az n 75 then 99 else bif az n 76 then 144 else bif az n 80 then 107 else bif az n 127 then 141 else bif az n 164 then 168 else bif az n 171 then 163 else bif az n 173 then 166 else bif az n 212 then 202 else bif az n 213 then 203 else bif az n 232 then 333 else bif az n 233 then 334 else 0,
 fun n=>bif az n 17 then 3 else bif az n 18 then 6 else bif az n 19 then 7 else 0⟩
theorem Jd:Lays.n156 PG Vg:=by constructor<;>first|kernel_rfl|(intro w;kernel_rfl)
theorem Jc:Lays.n171 PG Vg:=by constructor<;>first|kernel_rfl|(intro w;kernel_rfl)
theorem Hu:LaysM.n171 PG Vg:=by constructor<;>first|exact Jc|kernel_rfl|(intro w;kernel_rfl)
theorem XM:Builder.X72 PG Vg:=by constructor<;>kernel_rfl
theorem Ty:Builder.Extra PG Vg:=by constructor<;>first|exact XM|kernel_rfl|(intro w;kernel_rfl)|decide
end Go.Proofs
namespace Go.Proofs
open Go Go.Lift
section
variable {W:Nat→Prop} {h:ad} {sp vp:Nat} {s:VS} {sm:Option Nat} {last:Int} {pool:Option Addr} {o:xm}
theorem VaultAt.hM(v:VaultAt W h vp s):∀y,s.M y→y<h.size:=fun y a=>v.g.lt y (v.w y a)
theorem Ou(v:VaultAt W h vp s)(b:h[sp]? =some (.cells (PN vp sm last pool).toArray dB (0,0))) (ek:o.1=0) {K:An→ad→Prop} (f:∀h',Upd s.M h h'→VaultAt W h' vp {s with B:=if AH s.B s.L o.2.1 o.2.2.2.2.2.1 false=0 then pP s.B o.2.1 o.2.2.2.2.2.1 else s.B}→K (AH s.B s.L o.2.1 o.2.2.2.2.2.1 false,0,0,⟨#[]⟩,false,0,eH,eH,eH,eH,eH) h'):
  HC PG gX [.pointer (some ⟨sp,0,none⟩),LG o] Q5 K h:=
 V6 (k:=0) ek (by omega) rfl fun p m a n j=>Nd (v.pro a) (a.get0 b) fun h' u g=>⟨s.M,u,fun e=>by have:=v.hM _ e;omega,fun i c=>f i ((a.wide.tr u).trans c fun y d=>.inr (by have d:y=m:=d;omega)) ((g.own v.hM c n j).dn v.w)⟩
theorem V7(v:VaultAt W h vp s)(b:h[sp]? =some (.cells (PN vp sm last pool).toArray dB (0,0))) (c:¬s.M sp) (ek:o.1=4) {hd:Int} (x:dM s.B o.2.1=some hd) (q:hd=0∨hd∈ids s.L) {N:Nat} (A:N≤900) (j:∀B,BaseOf s hd B→Few N B.2) (w:o.2.2.2.1.size≤30) (n:o.2.2.2.2.1.size≤30) {id:Int} (g:(mr s.L s.nx (nz [hd])).1=(id,0)) {K:An→ad→Prop}
  (E:∀h' B f,BaseOf s hd B→Upd s.M h h'→VaultAt W h' vp (Bq s o.2.1 (f,km (o.2.2.2.1,o.2.2.2.2.1) B.2) (nz [hd])).2→K (0,id,0,⟨#[]⟩,false,0,eH,eH,eH,eH,eH) h'):
  HC PG gX [.pointer (some ⟨sp,0,none⟩),LG o] Q5 K h:=
 V6 (k:=4) ek (by omega) rfl fun F z d p m=>U0 (v.pro d) (d.get0 b) c x q A j w n g fun h' B f D u t=>⟨s.M,u,fun e=>by have:=v.hM _ e;omega,fun C i=>E C B f D ((d.wide.tr u).trans i fun y a=>.inr (by have a:y=z:=a;omega)) ((t.own (fun y a=>v.hM y ((Eb y).1 a)) i p m).dn fun y a=>v.w y ((Eb y).1 a))⟩
theorem V8(v:VaultAt W h vp s)(b:h[sp]? =some (.cells (PN vp sm last pool).toArray dB (0,0))) (ek:o.1=10) (hi:o.2.2.2.2.2.1=0∨o.2.2.2.2.2.1∈ids s.L) (f:∀B,BaseOf s o.2.2.2.2.2.1 B→fe B.2∧B.2.length≤60000) {K:An→ad→Prop}
  (c:∀h' B,BaseOf s o.2.2.2.2.2.1 B→Upd No h h'→K (0,0,0,(look B.2 o.2.2.2.1).getD ⟨#[]⟩,(look B.2 o.2.2.2.1).isSome,0,eH,eH,eH,eH,eH) h'):
  HC PG gX [.pointer (some ⟨sp,0,none⟩),LG o] Q5 K h:=
 V6 (k:=10) ek (by omega) rfl fun j m a i _=>U1 (v.upd0 a) (a.get0 b) hi f fun h' B g u=>⟨No,u,fun h=>h,fun e d=>c e B g ((a.tr u).own d i)⟩
end
abbrev rU:ByteArray:=⟨#[109,97,105,110]⟩
end Go.Proofs
namespace Go.Proofs
open Go Go.Lift
theorem U7{h:ad}{K:ByteArray→ad→Prop}(a:K ⟨#[111,107]⟩ h):HC PG uN [.int .i64 0] [.c .str] K h:=by
 refine O8 0 ?_;unfold FQ;exact af.2 a
abbrev iV(n:Int):Value:=.int .i64 n
theorem Tz(h:ad):MapAt kStr iV (m9 (m9 (h.push (.map #[] 0)) h.size (.string ⟨#[99,104,97,109,112]⟩) (.int .i64 0)) h.size (.string ⟨#[114,97,100,105,120]⟩) (.int .i64 1)) h.size (pP (pP [] (⟨#[99,104,97,109,112]⟩:ByteArray) (0:Int)) (⟨#[114,97,100,105,120]⟩:ByteArray) (1:Int)):=
 ((MapAt.new h).put _ _).put _ _
theorem Kt(h:ad):Upd No h (m9 (m9 (h.push (.map #[] 0)) h.size (.string ⟨#[99,104,97,109,112]⟩) (.int .i64 0)) h.size (.string ⟨#[114,97,100,105,120]⟩) (.int .i64 1)):=
 ((Upd.push No h (.map #[] 0)).trans (ww (M:=(· =h.size)) _ _ _ rfl) fun y a=>.inr (by have a:y=h.size:=a;omega)).trans (ww (M:=(· =h.size)) _ _ _ rfl) fun y a=>.inr (by have a:y=h.size:=a;omega)
theorem Vx{h:ad}{d:Option Addr}{s:SliceV}(b:s.len≠5){K:ByteArray×Bool→ad→Prop}(a:∀h',Upd No h h'→K (⟨#[]⟩,false) h'):HC PG mf [.pointer d,.slice s.a s.len s.cap] [.c .str,.c .bool] K h:=by
 refine uU d s ?_;unfold pS bi cU bM rQ;refine bj ⟨h.size,rfl,(MapAt.new (E:=kStr) (g:=iV) h).isMap,bj ⟨h.size,rfl,(((MapAt.new (E:=kStr) (g:=iV) h)).put _ _).isMap,bj (Join.plain (CondP.intro (fun _=>aA.2 (a _ (Kt h))) fun e=>?_))⟩⟩
 have:s.len=5:=by
  have e:(s.len:Int)=5:=by simpa using e
  omega
 exact absurd this b
theorem PF{h:ad}{d:Option Addr}{s:SliceV}(b:s.len≠2){K:ByteArray×Bool→ad→Prop}(a:K (⟨#[]⟩,false) h):HC PG nO [.pointer d,.slice s.a s.len s.cap] [.c .str,.c .bool] K h:=by
 refine AQ d s ?_;unfold sN bi cU bM;refine Join.plain (CondP.intro (fun _=>aA.2 a) fun e=>?_)
 have:s.len=2:=by
  have e:(s.len:Int)=2:=by simpa using e
  omega
 exact absurd this b
theorem aaf{n:Nat}(b:n<4294967296){h:ad}(l:Laid h){K:ByteArray→ad→Prop}(a:∀h',Upd No h h'→K (aG (dL n)) h'):HC PG wG [.int .u32 (n:Int)] [.c .str] K h:=by
 refine Ud (n:Int) ?_;unfold K6 AZ;rw[show ac .u64 (n:Int)=(n:Int)from by rw[dZ];omega]
 exact qR (by omega) l.tab a
theorem Tl{W0:Nat→Prop}{h:ad}(q:∀y,W0 y→y<h.size){b:Nat}(hd:h[b]? =some (.cells #[.pointer none] il (0,0))) (l:Laid h) (_:4≤b) {s:SliceV} {W:Nat→Prop} (z:Sl Cm 1 W h s [[111,112,101,110],[114,97,100,105,120],[48],[48],[48]]) {K:ByteArray×Bool→ad→Prop}
  (T:∀c h' sp k gp gm tm bm nm t sm pb n,VaultAt (fun y=>W0 y∨VS.M ⟨gp,gm,tm,bm,nm,1,⟨0,0,0⟩,t,[],1,[],[],[]⟩ y) c k ⟨gp,gm,tm,bm,nm,1,⟨0,0,0⟩,t,[],1,[],[],[]⟩→c[sp]? =some (.cells (PN k (some sm) 0 (some ⟨pb,0,none⟩)).toArray dB (0,0))→
   (∀y,VS.M ⟨gp,gm,tm,bm,nm,1,⟨0,0,0⟩,t,[],1,[],[],[]⟩ y→h.size≤y∧y<n)→n<sp→Upd No h c→h'[b]? =some (.cells #[.pointer (some ⟨sp,0,none⟩)] il (0,0))→Upd (· =b) c h'→K (⟨#[111,107]⟩,true) h'):
  HC PG mf [.pointer (some ⟨b,0,none⟩),.slice s.a s.len s.cap] [.c .str,.c .bool] K h:=by
 refine uU (some ⟨b,0,none⟩) s ?_;unfold pS bi cU bM rQ;refine bj ⟨h.size,rfl,(MapAt.new (E:=kStr) (g:=iV) h).isMap,bj ⟨h.size,rfl,(((MapAt.new (E:=kStr) (g:=iV) h)).put _ _).isMap,bj ?_⟩⟩;have u:=Tz h;have k1:=Kt h;generalize m9 (m9 (h.push (.map #[] 0)) h.size (.string ⟨#[99,104,97,109,112]⟩) (.int .i64 0)) h.size (.string ⟨#[114,97,100,105,120]⟩) (.int .i64 1)=h1 at u k1
 have a:=z.upd k1 fun _ h=>h.elim
 have d:s.len=5:=z.len;obtain⟨P,S,_,c0⟩:=a.at0 (g:=fun w=>Value.string (aG w)) (i:=0) rfl
 obtain⟨H,e1,_,c1⟩:=a.at0 (g:=fun w=>Value.string (aG w)) (i:=1) rfl
 refine Join.plain (CondP.intro (fun e=>absurd e (by rw[d];decide)) fun _=>⟨⟨by omega,by omega⟩,P,S,_,c0,?_⟩)
 refine CondP.intro (fun e=>absurd e (by decide+kernel)) fun _=>⟨⟨by omega,by omega⟩,H,e1,_,c1,_,_,u.get (⟨#[114,97,100,105,120]⟩:ByteArray) 0,⟨by omega,by omega⟩,?_⟩
 obtain⟨X,e2,_,L⟩:=a.at0 (g:=fun w=>Value.string (aG w)) (i:=2) rfl
 have G:mI (aG [48]).data.toList=some 0:=by
  have:mI (dL 0)=some 0:=CI (by omega);rw[oJ (by omega)]at this;exact this
 refine⟨X,e2,_,L,Aq (x:=aG [48]) (by decide) (l.upd0 k1) fun c f=>⟨⟨by omega,by omega⟩,?_⟩⟩
 obtain⟨B,F,_,A⟩:=(a.upd f fun _ h=>h.elim).at0 (g:=fun w=>Value.string (aG w)) (i:=3) rfl
 refine⟨B,F,_,A,Aq (x:=aG [48]) (by decide) ((l.upd0 k1).upd0 f) fun h3 o=>⟨⟨by omega,by omega⟩,?_⟩⟩
 obtain⟨O,Q,_,C⟩:=(a.upd (f.tr o) fun _ h=>h.elim).at0 (g:=fun w=>Value.string (aG w)) (i:=4) rfl
 refine⟨O,Q,_,C,Aq (x:=aG [48]) (by decide) (((l.upd0 k1).upd0 f).upd0 o) fun h4 N=>?_⟩
 rw[G];have R:dM (pP (pP [] (⟨#[99,104,97,109,112]⟩:ByteArray) (0:Int)) (⟨#[114,97,100,105,120]⟩:ByteArray) (1:Int)) (⟨#[114,97,100,105,120]⟩:ByteArray)=some 1:=by decide+kernel
 rw[R];have j:=((k1.tr f).tr o).tr N;refine Join.plain (af.2 (af.2 (af.2 (af.2 ?_))));refine SU (W:=W0) (kind:=1) (.inr rfl) (x:=⟨0,0,0⟩) (fun y m=>Nat.lt_of_lt_of_le (q y m) j.size) fun Y sp k gp gm tm bm nm t sm pb n D bs I pl hM q1 Z q3 q4 q5 v=>⟨_,rfl,?_⟩
 have p:=(j.tr v).get0 hd;have z4:=j.size;refine kP p (by simp) rfl fun V J U=>U7 (T Y V sp k gp gm tm bm nm t sm pb n D bs (fun y m=>⟨by have:=(hM y m).1;omega,(hM y m).2⟩) (by omega) (j.tr v) J U)
end Go.Proofs
namespace Go.Proofs
open Go Go.Lift
abbrev OJ(e:An):Value:=.agg (Zo e).toArray
theorem nP{h:ad}{cs:List Value}{t:TypeId}{k:ad→Prop}(a:∀h1,h1[h.size]? =some (.cells cs.toArray t (0,0))→Upd No h h1→k h1):At (hnew h cs t) k:=a _ (bI ..) (Upd.hnew ..)
theorem Qq{e:An}{h:ad}{K:ByteArray→ad→Prop}(a:∀h',Upd No h h'→K ⟨#[111,107]⟩ h'):HC PG vP [.int .i64 0,OJ e] [.c .str] K h:=by
 refine Ju 0 e ?_;unfold Bi ao bC ag aX aI FZ YH YK eu;refine nP fun b b1 k1=>?_
 exact af.2 (af.2 (Join.plain (af.2 (af.2 (af.2 (af.2 (Join.plain (af.2 (af.2 (af.2 (a _ k1)))))))))))
theorem UO{e:An}(d:e.1=0){h:ad}{K:ByteArray→ad→Prop}(a:∀h',Upd No h h'→K ⟨#[111,107]⟩ h'):HC PG pj [.int .i64 0,OJ e] [.c .str] K h:=by
 refine Aa 0 e ?_;unfold vu ao bC ag aX aI FZ YH YK;refine nP fun f b1 k1=>⟨e.1,vc b1 0,?_⟩
 rw[d];refine af.2 (Join.plain (Join.plain (af.2 (Join.plain (af.2 (af.2 (af.2 (af.2 (af.2 (af.2 (af.2 (?_))))))))))));exact⟨_,vc b1 0,_,vc b1 1,_,vc b1 2,_,vc b1 3,_,vc b1 4,_,vc b1 5,_,vc b1 6,_,vc b1 7,_,vc b1 8,_,vc b1 9,_,vc b1 10,Qq (e:=e) fun b c=>a b (k1.tr c)⟩
theorem VQ{x:ByteArray}(hx:x.size≤3000000){h:ad}{K:ByteArray→ad→Prop}(a:K ((⟨#[105,115,32]⟩:ByteArray)++x) h):HC PG sX [.bool true,.string x] [.c .str] K h:=by
 refine MA true x ?_;unfold DS;refine af.2 ⟨?_,a⟩;have:(⟨#[105,115,32]⟩:ByteArray).size=3:=rfl;omega
theorem UN{e:An}(f:e.1=0){n:Nat}(g:n<4294967296)(hi:e.2.1=(n:Int)){h:ad}(l:Laid h){K:ByteArray→ad→Prop}(a:∀h',Upd No h h'→K (((⟨#[118,101,114,115,105,111,110,32]⟩:ByteArray)++aG (dL n))++(⟨#[]⟩:ByteArray)) h'):HC PG pj [.int .i64 4,OJ e] [.c .str] K h:=by
 refine Aa 4 e ?_;unfold vu ao bC ag aX aI FZ YH YK;refine nP fun j b1 k1=>⟨e.1,vc b1 0,?_⟩
 rw[f];refine af.2 (Join.plain (Join.plain (af.2 (Join.plain (aA.2 (aA.2 (?_)))))));have c:=KS (n:=n) (by omega);have i:(⟨#[118,101,114,115,105,111,110,32]⟩:ByteArray).size=8:=rfl;have k:(⟨#[]⟩:ByteArray).size=0:=rfl;have es:=cu (dL n);refine⟨e.2.1,vc b1 1,?_⟩;rw[hi];refine aaf g (l.upd0 k1) fun b d=>⟨by omega,?_,Ft (a b (k1.tr d))⟩
 rw[aE];omega
theorem SN{e:An}(g:e.1=0)(hi:e.2.2.2.2.1=true){v:ByteArray}(b:e.2.2.2.1=v)(d:v.size≤1000000){h:ad}{K:ByteArray→ad→Prop}(c:∀h',Upd No h h'→K (((⟨#[105,115,32]⟩:ByteArray)++aG (lU v.data.toList))++(⟨#[]⟩:ByteArray)) h'):HC PG pj [.int .i64 10,OJ e] [.c .str] K h:=by
 refine Aa 10 e ?_;unfold vu ao bC ag aX aI FZ YH YK;refine nP fun j b1 k1=>⟨e.1,vc b1 0,?_⟩
 rw[g];refine af.2 (Join.plain (Join.plain (af.2 (Join.plain (af.2 (af.2 (af.2 (af.2 (af.2 (af.2 (aA.2 (?_))))))))))));have i:(⟨#[105,115,32]⟩:ByteArray).size=3:=rfl;have m:(⟨#[]⟩:ByteArray).size=0:=rfl;have k:(aG (lU v.data.toList)).size≤2000001:=by
  rw[cu,lU];split
  ·simp
  ·rw[wD,nI];omega
 refine⟨e.2.2.2.2.1,vc b1 4,e.2.2.2.1,vc b1 3,?_⟩;rw[hi,b];refine xC d fun f a=>⟨?_,VQ (by omega) ⟨?_,c f (k1.tr a)⟩⟩
 ·have:=a.cell0 (vc b1 4)
  rw[hi]at this;exact this
 ·rw[aE];omega
end Go.Proofs
namespace Go.Proofs
open Go Go.Lift Go.RowKit
theorem KP{n:Int}(g: -9223372036854775808≤n)(d:n≤9223372036854775807){h:ad}(b:Tab10 h){K:ByteArray→ad→Prop}(c:∀x h',(0≤n→x=aG (dL n.toNat))→Upd No h h'→K x h'):HC PG lP [.int .i64 n] [.c .str] K h:=by
 refine Jv n ?_;unfold Bj;refine HC.shelf Tryz.call63 fun w f=>?_
 subst f;obtain⟨t,m,b⟩:=b;refine(Any.strconv_Itoa Hu n g d w ?_).mono fun e w' ⟨i,k,os,a⟩=>?_
 ·unfold Lib.TabIs World.var?
  rw[VO];simp[b]
 ·subst a
  refine⟨⟨rfl,rfl,rfl⟩,aG (Lib.itoa n),i,c _ _ (fun j=>?_) (wL (Lib.below_grow _ _ (av _) _ _))⟩
  unfold Lib.itoa;rw[if_neg (by omega),zL]
theorem xq{n:Int}{h:ad}{K:Bool→ad→Prop}(a:K (cZ n) h):HC PG nn [.int .i64 n] [.c .bool] K h:=by
 refine My n ?_;unfold DQ;refine aF (fun e=>?_) fun e=>?_
 ·rw[show decide (n≤2147483647)=cZ n from by unfold cZ;rw[decide_eq_true (show 0≤n by omega),dj]];exact a
 ·rw[show false=cZ n from by unfold cZ;rw[decide_eq_false (show ¬0≤n by omega),iA]];exact a
theorem JP{v:ByteArray}{is:Bool}(b:v.size≤20000){h:ad}{K:ByteArray×Bool→ad→Prop}(a:∀h',Upd No h h'→K (aG (iB v is),iC v is) h'):HC PG uL [.string v,.bool is] [.c .str,.c .bool] K h:=by
 refine O7 v is ?_;unfold FP;cases is with
 |false=>
  have:=a h (Upd.refl _ _);rw[Ar];exact aA.2 this
 |true=>exact af.2 (xC (by omega) a)
theorem Cq{M:Nat→Prop}{h:ad}{b:Nat}{w:List UInt8}(a:h[b]? =some (.cells #[.string (aG w)] bR (0,0))) (hM:M b):OwnS Cm 1 bR M h ⟨some ⟨b,0,none⟩,1,1⟩ [w]:=
 ⟨rfl,yS,av _,.inr ⟨b,[],rfl,hM,a,rfl⟩⟩
theorem Yg{M:Nat→Prop}{h:ad}{b:Nat}{u v w:List UInt8}(a:h[b]? =some (.cells #[.string (aG u),.string (aG v),.string (aG w)] bR (0,0))) (hM:M b):OwnS Cm 1 bR M h ⟨some ⟨b,0,none⟩,3,3⟩ [u,v,w]:=
 ⟨rfl,yS,av _,.inr ⟨b,[],rfl,hM,a,rfl⟩⟩
theorem Gm:∀l:List (List UInt8),cx (l.flatMap Cm)=true
 | []=>rfl
 |a::l=>by rw[List.flatMap_cons];exact Gm l
theorem PO{c:Ch}(v:c.1.size≤20000)(k:c.2.1.size≤20000)(q:c.2.2.1.size≤20000){h:ad}{K:SliceV×Bool→ad→Prop}(t:∀h' s,OwnS Cm 1 bR (fun y=>h.size≤y) h' s [eJ c.1,iB c.2.1 c.2.2.2.1,iB c.2.2.1 c.2.2.2.2]→Upd No h h'→K (s,iC c.2.1 c.2.2.2.1&&iC c.2.2.1 c.2.2.2.2) h'):
  HC PG sW [.agg #[.string c.1,.string c.2.1,.string c.2.2.1,.bool c.2.2.2.1,.bool c.2.2.2.2]] [.c .slice,.c .bool] K h:=by
 refine Mz c ?_;unfold DR ag aX MW W7 Qh;refine nP fun x f m=>⟨_,vc f 1,_,vc f 3,JP k fun z i=>?_⟩
 have d:=i.get0 f;refine⟨_,vc d 2,_,vc d 4,JP q fun w g=>⟨_,vc (g.get0 d) 0,xC (by omega) fun p n=>nP fun u o j=>?_⟩⟩
 have b:=((m.tr i).tr g).tr n;have a:=t u ⟨some ⟨p.size,0,none⟩,3,3⟩ (Yg o b.size) (b.tr j);refine CondP.intro (fun e=>?_) fun e=>?_
 ·have e:iC c.2.1 c.2.2.2.1=true:=e
  rw[e,dj]at a;exact a
 ·have e:iC c.2.1 c.2.2.2.1=false:=e
  rw[e,iA]at a;exact a
abbrev mo(d:OpD)(sp a:SliceV):xm:=(d.k,d.b,d.o,d.key,d.v,d.i,d.t,d.s,d.w,d.back,d.fr,d.up,d.op,sp,a)
theorem NG(a b:List Pr):mH (a++b)=mH a++mH b:=by unfold mH;rw[List.flatMap_append]
theorem Wk(c:Ch)(l:List Ch):mq (c::l)=match X4 c,mq l with|some a,some b=>some (a++b)|_,_=>none:=rfl
theorem H9:∀a b:List Ch,mq (a++b)=match mq a,mq b with|some x,some y=>some (x++y)|_,_=>none
 | [],b=>by
  show mq b=_
  cases mq b<;>rfl
 |c::a,b=>by
  rw[List.cons_append,Wk,Wk,H9 a b];cases X4 c<;>cases mq a<;>cases mq b<;>simp
theorem E0{α:Type}{l:List α}{i:Nat}(hi:i<l.length):l.take (i+1)=l.take i++ [l[i]]:=by
 rw[List.take_add_one,ah hi];rfl
theorem H8:∀(l:List Ch) (ws:List (List UInt8)),mq l=some ws→ws.length=3*l.length
 | [],ws,h=>by cases h;rfl
 |c::l,ws,h=>by
  obtain⟨b,_,_,a,rfl⟩:=wJ h;have:=H8 l b a;simp only[ay];omega
section
variable {d:OpD} {sp sc:SliceV} {h:ad}
theorem Pv(sm:SmallD d)(H:Sl iZ 2 No h sp d.ps){K:SliceV×Bool→ad→Prop}(hk:∀h' s,OwnS Cm 1 bR (fun y=>h.size≤y) h' s (mH d.ps)→Upd No h h'→K (s,true) h'):
  LoopP (fun(D:SliceV×Int→ad→Prop) (b:SliceV×Int) e=>CondP (decide (b.2<(sp.len:Int))) (
    Join (fun(F:SliceV) w=>D (F,ac .i64 (b.2+1)) w) (fun v=>
     (((0:Int)≤b.2∧b.2<((sp.len:Nat):Int))∧∃a74:Addr,sp.a=some a74∧
      ∃v75:ByteArray,aD e (adr (adr a74 (b.2.toNat*2)) 0)=some (.string v75)∧
      ∃v76:ByteArray,aD e (adr (adr a74 (b.2.toNat*2)) 1)=some (.string v76)∧
      At (hnew e [.string (⟨#[]⟩:ByteArray),.string (⟨#[]⟩:ByteArray)] ax) (fun k=>
       (tc k (some (aH e)) 0 [.string v75,.string v76]∧
        At (ir k (aH e) 0 [.string v75,.string v76]) (fun g=>
         ∃v79:ByteArray,aD g (adr (aH e) 0)=some (.string v79)∧
         ∃v80:ByteArray,aD g (adr (aH e) 1)=some (.string v80)∧
         HC PG fS [.string v79] [.c .str] (fun(x:ByteArray) o=>
          (aD o (adr (aH e) 1)=some (.string v80)∧
           HC PG fS [.string v80] [.c .str] (fun(C:ByteArray) m=>
            At (hnew m [.string x,.string C] bR) (fun n=>
             ∃xs86,SRow n (some (aH m)) (2*1) xs86∧
             AppP (some [.string (⟨#[]⟩:ByteArray)]) 1 16 bR b.1.a b.1.len b.1.cap 2 xs86 n (fun B E=>
              v B E))) o)) g)))))) (
    K (b.1,true) e)) (⟨none,0,0⟩,0) h:=by
 have hl:=H.len;have hn:=sm.ps.1;refine LoopP.ghost (fun(i:Nat) (t:SliceV×Int) h'=>t.2=(i:Int)∧i≤d.ps.length∧OwnS Cm 1 bR (fun y=>h.size≤y) h' t.1 (mH (d.ps.take i))∧Upd No h h') (fun i=>d.ps.length-i) 0 ⟨rfl,aV _,OwnS.nil yS,Upd.refl _ _⟩ ?_
 rintro I i ⟨S,ti⟩ h' ⟨e1,hi,q,u⟩ O;simp only at e1 q;subst e1;refine aF (fun f=>Join.plain ?_) fun z=>?_
 ·have f:i<d.ps.length:=by have:(i:Int)<(sp.len:Int):=f;omega
  obtain⟨a,ha,_,A⟩:=(H.upd u fun _ h=>h.elim).at (ah f)
  obtain⟨q1,T⟩:=sm.ps.2 _ (bZ f);have J:=E0 f;generalize d.ps[i]=p at A q1 T J;refine⟨⟨by simp only;omega,by simp only;omega⟩,a,ha,p.1,?_,p.2,?_,nP fun h2 b2 Q=>cS (c:= [.string ⟨#[]⟩,.string ⟨#[]⟩]) (vs:=iZ p) b2 rfl fun h3 b3 N=>⟨_,vc b3 0,_,vc b3 1,xC (by omega) fun h4 G=>⟨vc (G.get0 b3) 1,xC (by omega) fun L k5=>nP fun h6 V P=>?_⟩⟩⟩
  ·simp only[ak];exact A 0 _ rfl
  ·simp only[ak];exact A 1 _ rfl
  have X:Upd No h' h3:=Q.own N (av _);have j:=((X.tr G).tr k5).tr P;have Y:=u.size;have R:OwnS Cm 1 bR (fun _=>True) h6 ⟨some (aH L),2,2⟩ [eJ p.1,eJ p.2]:=⟨rfl,yS,av _,.inr ⟨L.size,[],rfl,trivial,V,rfl⟩⟩
  refine⟨_,(R.sl (W:=No) fun _ _ _ h=>h).srow,AppP.own (ys:= [eJ p.1,eJ p.2]) (q.upd j fun _ _ h=>h) rfl rfl (Gm _) rfl (by omega) ?_ (by have:=j.size;omega) fun s' Z o7 U=>?_⟩
  ·rw[CF];simp only[be,ay,bN];omega
  ·show I (s',ac .i64 ((i:Int)+1)) Z
   rw[cM f (by omega)];refine O (i+1) _ _ ⟨rfl,f,?_,(u.tr j).trans U fun y hy=>.inr hy⟩ (by omega)
   rw[J,NG];exact o7
 ·have hi:i=d.ps.length:=by have:¬(i:Int)<(sp.len:Int):=z;omega
  rw[hi,bJ]at q;exact hk h' S q u
theorem Pw(sm:SmallD d)(hc:Sl oX 5 No h sc d.cs){K:SliceV×Bool→ad→Prop}(hk:∀h' s l,mq d.cs=some l→OwnS Cm 1 bR (fun y=>h.size≤y) h' s l→Upd No h h'→K (s,true) h')(C:mq d.cs=none→∀h',Upd No h h'→K (⟨none,0,0⟩,false) h'):
  LoopP (fun(F:SliceV×Int→ad→Prop) (f:SliceV×Int) b=>CondP (decide (f.2<(sc.len:Int))) (
      Join (fun(x:SliceV) z=>F (x,ac .i64 (f.2+1)) z) (fun E=>
       (((0:Int)≤f.2∧f.2<((sc.len:Nat):Int))∧∃a96:Addr,sc.a=some a96∧
        ∃v97:ByteArray,aD b (adr (adr a96 (f.2.toNat*5)) 0)=some (.string v97)∧
        ∃v98:ByteArray,aD b (adr (adr a96 (f.2.toNat*5)) 1)=some (.string v98)∧
        ∃v99:ByteArray,aD b (adr (adr a96 (f.2.toNat*5)) 2)=some (.string v99)∧
        ∃v100:Bool,aD b (adr (adr a96 (f.2.toNat*5)) 3)=some (.bool v100)∧
        ∃v101:Bool,aD b (adr (adr a96 (f.2.toNat*5)) 4)=some (.bool v101)∧
        At (hnew b [.string (⟨#[]⟩:ByteArray),.string (⟨#[]⟩:ByteArray),.string (⟨#[]⟩:ByteArray),.bool false,.bool false] bE) (fun p=>
         (tc p (some (aH b)) 0 [.string v97,.string v98,.string v99,.bool v100,.bool v101]∧
          At (ir p (aH b) 0 [.string v97,.string v98,.string v99,.bool v100,.bool v101]) (fun j=>
           ∃v104:ByteArray,aD j (adr (aH b) 0)=some (.string v104)∧
           ∃v105:ByteArray,aD j (adr (aH b) 1)=some (.string v105)∧
           ∃v106:ByteArray,aD j (adr (aH b) 2)=some (.string v106)∧
           ∃v107:Bool,aD j (adr (aH b) 3)=some (.bool v107)∧
           ∃v108:Bool,aD j (adr (aH b) 4)=some (.bool v108)∧
           HC PG sW [.agg #[.string v104,.string v105,.string v106,.bool v107,.bool v108]] [.c .slice,.c .bool] (fun(m:SliceV×Bool) n=>
            CondP (!m.2) (
             K (⟨none,0,0⟩,false) n) (
             ∃xs111,SRow n m.1.a (m.1.len*1) xs111∧
             AppP (some [.string (⟨#[]⟩:ByteArray)]) 1 16 bR f.1.a f.1.len f.1.cap m.1.len xs111 n (fun v w=>
              E v w))) j)))))) (
      K (f.1,true) b)) (⟨none,0,0⟩,0) h:=by
 have hl:=hc.len;have hn:=sm.cs.1;refine LoopP.ghost (fun(g:Nat×List (List UInt8)) (t:SliceV×Int) h'=>t.2=(g.1:Int)∧g.1≤d.cs.length∧mq (d.cs.take g.1)=some g.2∧OwnS Cm 1 bR (fun y=>h.size≤y) h' t.1 g.2∧Upd No h h') (fun g=>d.cs.length-g.1) (0,[]) ⟨rfl,aV _,rfl,OwnS.nil yS,Upd.refl _ _⟩ ?_
 rintro I ⟨i,ws⟩ ⟨S,ti⟩ h' ⟨e1,hi,u,B,A⟩ Q;simp only at e1 hi u B;subst e1;refine aF (fun k=>Join.plain ?_) fun D=>?_
 ·have k:i<d.cs.length:=by have:(i:Int)<(sc.len:Int):=k;omega
  obtain⟨a,ha,_,q⟩:=(hc.upd A fun _ h=>h.elim).at (ah k)
  obtain⟨N,L,O⟩:=sm.cs.2 _ (bZ k);have H:=E0 k;have hd:d.cs=d.cs.take i++([d.cs[i]]++d.cs.drop (i+1)):=by rw[←aM,←H,List.take_append_drop]
  generalize d.cs[i]=c at q N L O H hd;refine⟨⟨by simp only;omega,by simp only;omega⟩,a,ha,c.1,?_,c.2.1,?_,c.2.2.1,?_,c.2.2.2.1,?_,c.2.2.2.2,?_,nP fun h2 b2 R=>cS (c:= [.string ⟨#[]⟩,.string ⟨#[]⟩,.string ⟨#[]⟩,.bool false,.bool false]) (vs:=oX c) b2 rfl fun h3 b3 P=>⟨_,vc b3 0,_,vc b3 1,_,vc b3 2,_,vc b3 3,_,vc b3 4,PO N L O fun h4 s4 J U=>?_⟩⟩
  ·simp only[ak];exact q 0 _ rfl
  ·simp only[ak];exact q 1 _ rfl
  ·simp only[ak];exact q 2 _ rfl
  ·simp only[ak];exact q 3 _ rfl
  ·simp only[ak];exact q 4 _ rfl
  have V:Upd No h' h3:=R.own P (av _);have o:=V.tr U;have Y:=A.size;have X:=o.size;cases e:iC c.2.1 c.2.2.2.1&&iC c.2.2.1 c.2.2.2.2 with
  |false=>
   refine aA.2 (C ?_ h4 (A.tr o));have G:mq ([c]++d.cs.drop (i+1))=none:=by
    show mq (c::d.cs.drop (i+1))=none
    unfold mq X4;rw[e];rfl
   rw[hd,H9,G,u]
  |true=>
   have Z:=J.len;refine af.2 ⟨_,(J.sl (W:=No) fun _ _ _ h=>h).srow,AppP.own (ys:= [eJ c.1,iB c.2.1 c.2.2.2.1,iB c.2.2.1 c.2.2.2.2]) (B.upd o fun _ _ h=>h) Z rfl (Gm _) rfl (by omega) ?_ (by omega) fun s' h7 o7 T=>?_⟩
   ·have:=H8 _ _ u
    rw[be]at this;simp only[ay,bN];omega
   ·show I (s',ac .i64 ((i:Int)+1)) h7
    rw[cM k (by omega)];refine Q (i+1,_) _ _ ⟨rfl,k,?_,o7,(A.tr o).trans T fun y hy=>.inr hy⟩ (by simp only;omega)
    have G:mq [c]=some [eJ c.1,iB c.2.1 c.2.2.2.1,iB c.2.2.1 c.2.2.2.2]:=by
     unfold mq X4;rw[e];rfl
    show mq (d.cs.take (i+1))=_
    rw[H,H9,u,G]
 ·have hi:i=d.cs.length:=by have:¬(i:Int)<(sc.len:Int):=D;omega
  rw[hi,bJ]at u;exact hk h' S ws u B A
theorem SF{p:UInt8}(Q:p∈kp)(sm:SmallD d)(J:Sl iZ 2 No h sp d.ps)(I:Sl oX 5 No h sc d.cs)(l:Laid h){K:SliceV×Bool→ad→Prop}(n:∀h' s ws,Cl p d=some ws→OwnS Cm 1 bR (fun y=>h.size≤y) h' s ws→Upd No h h'→K (s,true) h')(u:Cl p d=none→∀h' s,Upd No h h'→K (s,false) h'):
  HC PG xM [LG (mo d sp sc),.int .i32 (p.toNat:Int)] [.c .slice,.c .bool] K h:=by
 have nm:∀{x:ByteArray} {F f:ad} {b:Nat},Upd No h F→Upd No F f→f[b]? =some (.cells #[.string x] bR (0,0))→h.size≤b→(∀y,ft x=y→Cl p d=if y then some [x.data.toList]else none)→K (⟨some ⟨b,0,none⟩,1,1⟩,ft x) f:=by
  intro x F f b k1 a v B S;cases e:ft x with
  |true=>exact n _ _ _ (by rw[S _ e];rfl) (Cq v B) (k1.tr a)
  |false=>exact u (by rw[S _ e];rfl) _ _ (k1.tr a)
 refine Mx (mo d sp sc) (p.toNat:Int) ?_;unfold DP cU ao bC ag aX aI nv BI AZ bL cI ic eu rO my W7 Cs;refine nP fun F b1 k1=>?_
 have m:=k1.size;have G:=l.upd0 k1;simp only[ar,bX,or_false]at Q;rcases Q with rfl|rfl|rfl|rfl|rfl|rfl|rfl|rfl|rfl|rfl|rfl
 ·refine CondP.intro (fun _=>?_) fun e=>absurd e (by decide)
  refine⟨_,vc b1 1,_,vc b1 1,nP fun f b2 a=>⟨vc (a.get0 b1) 1,tg fun g c=>nm (k1.tr a) c (c.get0 b2) m fun y j=>?_⟩,tg fun f a=>⟨vc (a.get0 b1) 1,nP fun g b3 c=>nm (k1.tr a) c b3 (aU m a.size) fun y j=>?_⟩⟩
  ·subst j;rfl
  ·subst j;rfl
 ·refine CondP.intro (fun e=>absurd e (by decide)) fun _=>CondP.intro (fun _=>?_) fun e=>absurd e (by decide)
  refine⟨_,vc b1 2,_,vc b1 2,nP fun f b2 a=>⟨vc (a.get0 b1) 2,tg fun g c=>nm (k1.tr a) c (c.get0 b2) m fun y j=>?_⟩,tg fun f a=>⟨vc (a.get0 b1) 2,nP fun g b3 c=>nm (k1.tr a) c b3 (aU m a.size) fun y j=>?_⟩⟩
  ·subst j;rfl
  ·subst j;rfl
 ·refine CondP.intro (fun e=>absurd e (by decide)) fun _=>CondP.intro (fun e=>absurd e (by decide)) fun _=>CondP.intro (fun _=>?_) fun e=>absurd e (by decide)
  exact⟨_,vc b1 3,xC (show d.key.size≤1000000 by have:=sm.key;omega) fun f a=>nP fun g b3 c=>n _ _ _ rfl (Cq b3 (aU m a.size)) ((k1.tr a).tr c)⟩
 ·refine CondP.intro (fun e=>absurd e (by decide)) fun _=>CondP.intro (fun e=>absurd e (by decide)) fun _=>CondP.intro (fun e=>absurd e (by decide)) fun _=>CondP.intro (fun _=>?_) fun e=>absurd e (by decide)
  exact⟨_,vc b1 4,xC (show d.v.size≤1000000 by have:=sm.v;omega) fun f a=>nP fun g b3 c=>n _ _ _ rfl (Cq b3 (aU m a.size)) ((k1.tr a).tr c)⟩
 ·refine CondP.intro (fun e=>absurd e (by decide)) fun _=>CondP.intro (fun e=>absurd e (by decide)) fun _=>CondP.intro (fun e=>absurd e (by decide)) fun _=>CondP.intro (fun e=>absurd e (by decide)) fun _=>CondP.intro (fun _=>?_) fun e=>absurd e (by decide)
  refine⟨_,vc b1 5,?_⟩;obtain⟨V,U,_,_⟩:=sm.num;rw[show ac .u64 (mo d sp sc).2.2.2.2.2.1=((d.i.toNat:Nat):Int)from by show ac .u64 d.i=_;rw[dZ];omega]
  exact qR (by omega) G.tab fun f a=>nP fun g b3 c=>n _ _ _ rfl (Cq b3 (aU m a.size)) ((k1.tr a).tr c)
 ·refine CondP.intro (fun e=>absurd e (by decide)) fun _=>CondP.intro (fun e=>absurd e (by decide)) fun _=>CondP.intro (fun e=>absurd e (by decide)) fun _=>CondP.intro (fun e=>absurd e (by decide)) fun _=>CondP.intro (fun e=>absurd e (by decide)) fun _=>CondP.intro (fun _=>?_) fun e=>absurd e (by decide)
  refine⟨_,vc b1 6,?_⟩;obtain⟨_,_,V,U⟩:=sm.num;rw[show ac .u64 (mo d sp sc).2.2.2.2.2.2.1=((d.t.toNat:Nat):Int)from by show ac .u64 d.t=_;rw[dZ];omega]
  exact qR (by omega) G.tab fun f a=>nP fun g b3 c=>n _ _ _ rfl (Cq b3 (aU m a.size)) ((k1.tr a).tr c)
 ·refine CondP.intro (fun e=>absurd e (by decide)) fun _=>CondP.intro (fun e=>absurd e (by decide)) fun _=>CondP.intro (fun e=>absurd e (by decide)) fun _=>CondP.intro (fun e=>absurd e (by decide)) fun _=>CondP.intro (fun e=>absurd e (by decide)) fun _=>CondP.intro (fun e=>absurd e (by decide)) fun _=>CondP.intro (fun _=>?_) fun e=>absurd e (by decide)
  refine⟨_,vc b1 7,_,vc b1 7,KP sm.s.1 sm.s.2 G.tab fun x f hx a=>?_⟩
  have i:∀{g q:ad} {b:Nat},Upd No f g→Upd No g q→q[b]? =some (.cells #[.string x] bR (0,0))→h.size≤b→K (⟨some ⟨b,0,none⟩,1,1⟩,cZ d.s) q:=by
   intro g q b c A v B;have D:=((k1.tr a).tr c).tr A;cases e:cZ d.s with
   |true=>
    have e2:=e;simp only[cZ,aJ,decide_eq_true_eq]at e2;rw[hx e2.1]at v;exact n _ _ _ (by show(if cZ d.s then some [dL d.s.toNat]else none)=_;rw[e];rfl) (Cq v B) D
   |false=>exact u (by show(if cZ d.s then some [dL d.s.toNat]else none)=_;rw[e];rfl) _ _ D
  have T:=a.size;exact⟨vc (a.get0 b1) 7,nP fun g b3 c=>⟨vc ((a.tr c).get0 b1) 7,xq (i c (Upd.refl _ _) b3 (by omega))⟩,xq (nP fun g b3 c=>i (Upd.refl _ _) c b3 (by omega))⟩
 ·refine CondP.intro (fun e=>absurd e (by decide)) fun _=>CondP.intro (fun e=>absurd e (by decide)) fun _=>CondP.intro (fun e=>absurd e (by decide)) fun _=>CondP.intro (fun e=>absurd e (by decide)) fun _=>CondP.intro (fun e=>absurd e (by decide)) fun _=>CondP.intro (fun e=>absurd e (by decide)) fun _=>CondP.intro (fun e=>absurd e (by decide)) fun _=>CondP.intro (fun _=>?_) fun e=>absurd e (by decide)
  refine⟨_,vc b1 8,_,vc b1 8,KP sm.w.1 sm.w.2 G.tab fun x f hx a=>?_⟩
  have i:∀{g q:ad} {b:Nat},Upd No f g→Upd No g q→q[b]? =some (.cells #[.string x] bR (0,0))→h.size≤b→K (⟨some ⟨b,0,none⟩,1,1⟩,cZ d.w) q:=by
   intro g q b c A v B;have D:=((k1.tr a).tr c).tr A;cases e:cZ d.w with
   |true=>
    have e2:=e;simp only[cZ,aJ,decide_eq_true_eq]at e2;rw[hx e2.1]at v;exact n _ _ _ (by show(if cZ d.w then some [dL d.w.toNat]else none)=_;rw[e];rfl) (Cq v B) D
   |false=>exact u (by show(if cZ d.w then some [dL d.w.toNat]else none)=_;rw[e];rfl) _ _ D
  have T:=a.size;exact⟨vc (a.get0 b1) 8,nP fun g b3 c=>⟨vc ((a.tr c).get0 b1) 8,xq (i c (Upd.refl _ _) b3 (by omega))⟩,xq (nP fun g b3 c=>i (Upd.refl _ _) c b3 (by omega))⟩
 ·refine CondP.intro (fun e=>absurd e (by decide)) fun _=>CondP.intro (fun e=>absurd e (by decide)) fun _=>CondP.intro (fun e=>absurd e (by decide)) fun _=>CondP.intro (fun e=>absurd e (by decide)) fun _=>CondP.intro (fun e=>absurd e (by decide)) fun _=>CondP.intro (fun e=>absurd e (by decide)) fun _=>CondP.intro (fun e=>absurd e (by decide)) fun _=>CondP.intro (fun e=>absurd e (by decide)) fun _=>CondP.intro (fun _=>?_) fun e=>absurd e (by decide)
  refine⟨_,xg b1 10 1,xC (show d.up.size≤1000000 by have:=sm.up;omega) fun f a=>?_⟩
  have b2:=a.get0 b1;have T:=a.size;have z:∀to:List UInt8,to=(if d.op then[42]else eJ d.up)→Join (fun(N:ByteArray) C=>
     ∃v65:ByteArray,aD C (adr (adr (aH h) 10) 0)=some (.string v65)∧
     HC PG fS [.string v65] [.c .str] (fun(O:ByteArray) E=>
      At (hnew E [.string O,.string (aG to),.string N] bR) (fun L=>
       K (⟨some (aH E),3,3⟩,true) L)) C) (fun w=>
     ∃v62:Bool,aD f (adr (aH h) 9)=some (.bool v62)∧
     CondP v62 (
      w (⟨#[100,111,119,110]⟩:ByteArray) f) (
      w (⟨#[117,112]⟩:ByteArray) f)):=by
   intro to H;refine Join.intro (fun(t:ByteArray) h'=>h'=f∧t=aG (if d.back then iw else Gk)) (fun R P=>⟨d.back,vc b2 9,?_⟩) ?_
   ·cases e:d.back with
    |true=>exact aA.2 (P _ _ ⟨rfl,by rw[e];rfl⟩)
    |false=>exact af.2 (P _ _ ⟨rfl,by rw[e];rfl⟩)
   ·rintro t h' ⟨rfl,rfl⟩
    refine⟨_,xg b2 10 0,xC (show d.fr.size≤1000000 by have:=sm.fr;omega) fun g c=>nP fun q W A=>?_⟩
    subst H;exact n _ _ _ rfl (Yg W (by have:=c.size;omega)) (((k1.tr a).tr c).tr A)
  refine Join.plain ⟨d.op,xg b2 10 2,?_⟩;cases e:d.op with
  |true=>exact aA.2 (z [42] (by rw[e];rfl))
  |false=>exact af.2 (z (eJ d.up) (by rw[e];rfl))
 ·refine CondP.intro (fun e=>absurd e (by decide)) fun _=>CondP.intro (fun e=>absurd e (by decide)) fun _=>CondP.intro (fun e=>absurd e (by decide)) fun _=>CondP.intro (fun e=>absurd e (by decide)) fun _=>CondP.intro (fun e=>absurd e (by decide)) fun _=>CondP.intro (fun e=>absurd e (by decide)) fun _=>CondP.intro (fun e=>absurd e (by decide)) fun _=>CondP.intro (fun e=>absurd e (by decide)) fun _=>CondP.intro (fun e=>absurd e (by decide)) fun _=>CondP.intro (fun _=>?_) fun e=>absurd e (by decide)
  exact⟨sp,vc b1 13,Pv sm (J.upd k1 fun _ h=>h.elim) fun h' s o k=>n h' s _ rfl (o.more fun y j=>aU m j) (k1.tr k)⟩
 ·refine CondP.intro (fun e=>absurd e (by decide)) fun _=>CondP.intro (fun e=>absurd e (by decide)) fun _=>CondP.intro (fun e=>absurd e (by decide)) fun _=>CondP.intro (fun e=>absurd e (by decide)) fun _=>CondP.intro (fun e=>absurd e (by decide)) fun _=>CondP.intro (fun e=>absurd e (by decide)) fun _=>CondP.intro (fun e=>absurd e (by decide)) fun _=>CondP.intro (fun e=>absurd e (by decide)) fun _=>CondP.intro (fun e=>absurd e (by decide)) fun _=>CondP.intro (fun e=>absurd e (by decide)) fun _=>?_
  exact⟨sc,vc b1 14,Pw sm (I.upd k1 fun _ h=>h.elim) (fun h' s ws X o k=>n h' s ws X (o.more fun y j=>aU m j) (k1.tr k)) fun Y h' k=>u Y h' _ (k1.tr k)⟩
end
end Go.Proofs
