/- A part of the proof that the named laws of this program answer true, whatever the input. -/
import Derived.Test.YtopdngagmfanlaaGreatDoorPart7
import Derived.Shelf.Lays
import Derived.Shelf.LaysM
import Derived.Shelf.Strings.OnBuilder
import Derived.Shelf.Strconv.Itoa3
import Derived.Test.YtopdngagmfanlaaGreatDoorTreeF0
import Derived.Test.YtopdngagmfanlaaGreatDoorTreeF1
import Derived.Test.YtopdngagmfanlaaGreatDoorTreeF2
import Derived.Lib.AppendIntMem
open Bool renaming and_eq_true→aJ,true_and→dj,false_and→il
open ByteArray renaming size_append→aE
open Go.IntKind renaming wrap→ac,wrap_u32→qz,wrap_u64→dW
open Int renaming toNat_natCast→ak
open List renaming append_assoc→aK,mem_cons→ar,not_mem_nil→bU,nil_append→jE,mem_cons_of_mem→aI,mem_cons_self→aN,append_nil→cE,length_cons→ay,getElem?_eq_getElem→ax,getElem_mem→bV,length_take→aY,length_nil→bN,take_length→bG
open Nat renaming le_refl→au,zero_le→bc,le_trans→bv,beq→av
open Option renaming map_eq_some_iff→ft,getD_some→qw
open Prod renaming mk→pJ
open UInt8 renaming ofNat→cp
namespace Go.Proofs
open Go Go.Lift
theorem NA{c:UInt8}(h:qq c<16):sE (qq c)=c:=by
 have key:∀n:Fin 256,qq (cp n.val)<16→sE (qq (cp n.val))=cp n.val:=by decide+kernel
 have:=key ⟨c.toNat,c.toNat_lt⟩;rw[UInt8.ofNat_toNat]at this;exact this h
theorem EI:∀(w s:List UInt8),fY w=some s→xX s=w
 | [],s,h=>by cases h;rfl
 | [_],s,h=>by cases h
 |a::b::l,s,h=>by
  rw[ug]at h;split at h
  ·rename_i hd
   obtain⟨t,c,rfl⟩:=ft.1 h;show sE _::sE _::xX t=_
   rw[EI l t c,UInt8.toNat_ofNat_of_lt' (by show _<256;omega)];rw[show(16*qq a+qq b)/16=qq a by omega,show(16*qq a+qq b)%16=qq b by omega,NA hd.1,NA hd.2]
  ·cases h
theorem P4{w s:List UInt8}(h:iP w=some s):lI s=w:=by
 unfold iP at h;split at h
 ·rename_i e;cases h;rw[e];rfl
 split at h
 ·cases h
 ·rename_i e1 e2
  have:=EI w s h;unfold lI;rw[if_neg (fun e=>by rw[e]at this;exact e2 this.symm),this]
theorem Vp{w:List UInt8}{n:Nat}(h:mr w=some n):dJ n=w∧n<18446744073709551616:=by
 unfold mr at h;split at h
 ·rename_i e;cases h;exact⟨e.2.2.2,e.2.2.1⟩
 ·cases h
theorem GH{ws ws':List (List UInt8)}{ok:Bool}(h:(bX (ws,ok)).2=(ws',true)):ok=true∧ws=(bX (ws,ok)).1::ws':=by
 cases ws with
 |nil=>simp[bX]at h
 |cons w r=>simp[bX]at h;exact⟨h.2,by rw[h.1];rfl⟩
theorem oL{ws ws':List (List UInt8)}{ok:Bool}(h:(bw (ws,ok)).2=(ws',true)):ok=true∧ws=lI (bw (ws,ok)).1::ws':=by
 cases ws with
 |nil=>simp[bw,bX]at h
 |cons w r=>
  simp only[bw,bX,pJ.injEq,aJ]at h⊢;obtain⟨s,a⟩:=Option.isSome_iff_exists.1 h.2.2;rw[a,qw,P4 a];exact⟨h.2.1,by rw[h.1]⟩
theorem zJ{m:Nat}{ws ws':List (List UInt8)}{ok:Bool}(h:(eC m (ws,ok)).2=(ws',true)):ok=true∧ws=dJ (eC m (ws,ok)).1::ws'∧(eC m (ws,ok)).1≤m:=by
 cases ws with
 |nil=>
  have h:(([]:List (List UInt8)),false&&((mr []).isSome&&decide ((mr []).getD 0≤m)))=(ws',true):=h;cases h
 |cons w r=>
  have h:(r,ok&&((mr w).isSome&&decide ((mr w).getD 0≤m)))=(ws',true):=h;show ok=true∧w::r=dJ ((mr w).getD 0)::ws'∧(mr w).getD 0≤m
  cases hs:mr w with
  |none=>rw[hs]at h;cases ok<;>cases h
  |some s=>
   rw[hs]at h;simp only[Option.isSome_some,qw,dj,pJ.injEq,aJ,decide_eq_true_eq]at h⊢;exact⟨h.2.1,by rw[h.1,(Vp hs).1],h.2.2⟩
theorem GI{ws ws':List (List UInt8)}{ok:Bool}(h:(gJ (ws,ok)).2=(ws',true)):ok=true∧ws=(gJ (ws,ok)).1::ws'∧fj (aG (gJ (ws,ok)).1)=true:=by
 cases ws with
 |nil=>simp[gJ,bX]at h
 |cons w r=>
  simp only[gJ,bX,pJ.injEq,aJ]at h⊢;exact⟨h.2.1,by rw[h.1],h.2.2⟩
theorem GE{ws ws':List (List UInt8)}{ok:Bool}(h:(dG (ws,ok)).2=(ws',true)):ok=true∧iq (aG (dG (ws,ok)).1.1) (dG (ws,ok)).1.2=true∧ws=ip (aG (dG (ws,ok)).1.1) (dG (ws,ok)).1.2::ws':=by
 unfold dG at h⊢;split at h
 ·rename_i e
  rw[if_pos e];obtain⟨b,a⟩:=GH h;refine⟨b,by show iq (aG []) false=true;decide,?_⟩
  cases ws with
  |nil=>cases e
  |cons w r=>cases e;rw[List.cons.injEq]at a;rw[a.2];rfl
 ·rename_i e
  rw[if_neg e];obtain⟨b,a⟩:=oL h;exact⟨b,rfl,a⟩
theorem EB:∀(n:Nat) (s:rj) (a:List Pr) {ws':List (List UInt8)},(ga n s a).1=(ws',true)→s.2=true∧∃l,s.1=mq l++ws'∧(ga n s a).2=a++l
 |0,s,a,ws',h=>by
  have h:s=(ws',true):=h;subst h;exact⟨rfl,[],rfl,by simp[ga]⟩
 |n+1,(ws,ok),a,ws',h=>by
  unfold ga at h⊢;split at h
  ·rename_i e
   rw[if_pos e];obtain⟨d,l,f,g⟩:=EB n _ _ h;obtain⟨i,b⟩:=oL (ws:=(bw (ws,ok)).2.1) (ok:=(bw (ws,ok)).2.2) (ws':=mq l++ws') (by
    show(bw (bw (ws,ok)).2).2=_;rw[←f,←d])
   obtain⟨j,c⟩:=oL (ws:=ws) (ok:=ok) (ws':=(bw (ws,ok)).2.1) (by rw[←i]);refine⟨j,(aG (bw (ws,ok)).1,aG (bw (bw (ws,ok)).2).1)::l,?_,by rw[g];simp⟩
   have b:(bw (ws,ok)).2.1=lI (bw (bw (ws,ok)).2).1::(mq l++ws'):=b;show ws=lI _::lI _::(mq l++ws')
   rw[b]at c;simpa using c
  ·rename_i e
   rw[if_neg e];have h:(ws,ok)=(ws',true):=h;rw[h];exact⟨rfl,[],rfl,by simp⟩
theorem UA{ws ws':List (List UInt8)}{ok:Bool}(h:(A8 (ws,ok)).2=(ws',true)):ok=true∧∃l,Xh (A8 (ws,ok)).1=some l∧ws=l++ws':=by
 unfold A8 at h⊢;simp only at h⊢;obtain⟨f,g,b⟩:=GE (ws:=(dG (bw (ws,ok)).2).2.1) (ok:=(dG (bw (ws,ok)).2).2.2) h;obtain⟨i,d,a⟩:=GE (ws:=(bw (ws,ok)).2.1) (ok:=(bw (ws,ok)).2.2) (ws':=(dG (bw (ws,ok)).2).2.1) (by rw[←f]);obtain⟨e,c⟩:=oL (ws:=ws) (ok:=ok) (ws':=(bw (ws,ok)).2.1) (by rw[←i]);refine⟨e,_,by unfold Xh;rw[if_pos (by simp only[aJ];exact⟨d,g⟩)],?_⟩
 have b:(dG (bw (ws,ok)).2).2.1=_:=b;have a:(bw (ws,ok)).2.1=_:=a;rw[b]at a;rw[a]at c;simpa using c
theorem Ju:∀(n:Nat) (s:rj) (a:List Ch) {ws':List (List UInt8)},(nQ n s a).1=(ws',true)→s.2=true∧∃l b,ma l=some b∧s.1=b++ws'∧(nQ n s a).2=a++l
 |0,s,a,ws',h=>by
  have h:s=(ws',true):=h;subst h;exact⟨rfl,[],[],rfl,rfl,by simp[nQ]⟩
 |n+1,(ws,ok),a,ws',h=>by
  unfold nQ at h⊢;split at h
  ·rename_i e
   rw[if_pos e];obtain⟨g,l,b,i,j,k⟩:=Ju n _ _ h;obtain⟨d,c,m,f⟩:=UA (ws:=ws) (ok:=ok) (ws':=(A8 (ws,ok)).2.1) (by rw[←g]);refine⟨d,(A8 (ws,ok)).1::l,c++b,by simp only[ma,m,i],?_,by rw[k];simp⟩
   show ws=_
   rw[aK,←j];exact f
  ·rename_i e
   rw[if_neg e];have h:(ws,ok)=(ws',true):=h;rw[h];exact⟨rfl,[],[],rfl,rfl,by simp⟩
theorem Uz{ws ws':List (List UInt8)}{ok:Bool}(h:(jJ (ws,ok)).2=(ws',true)):ok=true∧ws=(if(jJ (ws,ok)).1.2 then[42]else eE (jJ (ws,ok)).1.1)::ws':=by
 unfold jJ at h⊢;split at h
 ·rename_i e
  rw[if_pos e];obtain⟨b,a⟩:=GH h;refine⟨b,?_⟩;cases ws with
  |nil=>cases e
  |cons w r=>cases e;rw[List.cons.injEq]at a;rw[a.2];rfl
 ·rename_i e
  rw[if_neg e];exact oL h
theorem Si{ws ws':List (List UInt8)}{ok:Bool}(h:(vX (ws,ok)).2=(ws',true)):ok=true∧ws=(if(vX (ws,ok)).1 then ig else FL)::ws':=by
 cases ws with
 |nil=>
  have h:(([]:List (List UInt8)),false&&(decide (([]:List UInt8)=FL)||decide (([]:List UInt8)=ig)))=(ws',true):=h
  cases h
 |cons w r=>
  have h:(r,ok&&(decide (w=FL)||decide (w=ig)))=(ws',true):=h
  show ok=true∧w::r=(if decide (w=ig)then ig else FL)::ws'
  simp only[pJ.injEq,aJ,Bool.or_eq_true,decide_eq_true_eq]at h;refine⟨h.2.1,?_⟩;rw[h.1];rcases h.2.2 with e|e
  ·subst e;rfl
  ·subst e;rfl
def Oy(p:UInt8)(d:OpD):Prop:=(p=114→d.op=false)∧(p=112→d.ps= [])∧(p=99→d.cs= [])
theorem Jc{n:Nat}(h:n≤4294967295):(ac .u32 (n:Int)).toNat=n:=by rw[qz];omega
theorem Jb{n:Nat}(h:n≤2147483647):ac .i64 (n:Int)=(n:Int):=kD (by omega)
theorem WD{p:UInt8}(j:p∈kp){ws ws':List (List UInt8)}{ok:Bool}{d:OpD}(g:Oy p d)(h:(ue p ((ws,ok),d)).1=(ws',true)):ok=true∧∃l,ws=l++ws'∧BS p (ue p ((ws,ok),d)).2=some l:=by
 simp only[ar,bU,or_false]at j;rcases j with rfl|rfl|rfl|rfl|rfl|rfl|rfl|rfl|rfl|rfl|rfl
 ·obtain⟨c,a,e⟩:=GI (ws:=ws) (ok:=ok) h
  exact⟨c,[_],a,if_pos e⟩
 ·obtain⟨c,a,e⟩:=GI (ws:=ws) (ok:=ok) h
  exact⟨c,[_],a,if_pos e⟩
 ·obtain⟨c,a⟩:=oL (ws:=ws) (ok:=ok) h
  exact⟨c,[_],a,rfl⟩
 ·obtain⟨c,a⟩:=oL (ws:=ws) (ok:=ok) h
  exact⟨c,[_],a,rfl⟩
 ·obtain⟨c,a,e⟩:=zJ (ws:=ws) (ok:=ok) h
  refine⟨c,[_],a,?_⟩;show some [dJ (ac .u32 _).toNat]=_
  rw[Jc e]
 ·obtain⟨c,a,e⟩:=zJ (ws:=ws) (ok:=ok) h
  refine⟨c,[_],a,?_⟩;show some [dJ (ac .u32 _).toNat]=_
  rw[Jc e]
 ·obtain⟨c,a,e⟩:=zJ (ws:=ws) (ok:=ok) h
  refine⟨c,[_],a,?_⟩;show(if cY (ac .i64 _)then some [dJ (ac .i64 _).toNat]else none)=_
  rw[Jb e,if_pos (by simp only[cY,aJ,decide_eq_true_eq];omega),ak]
 ·obtain⟨c,a,e⟩:=zJ (ws:=ws) (ok:=ok) h
  refine⟨c,[_],a,?_⟩;show(if cY (ac .i64 _)then some [dJ (ac .i64 _).toNat]else none)=_
  rw[Jb e,if_pos (by simp only[cY,aJ,decide_eq_true_eq];omega),ak]
 ·have h:(vX (jJ (bw (ws,ok)).2).2).2=(ws',true):=h
  obtain⟨c,a⟩:=Si (ws:=(jJ (bw (ws,ok)).2).2.1) (ok:=(jJ (bw (ws,ok)).2).2.2) h;obtain⟨e,f⟩:=Uz (ws:=(bw (ws,ok)).2.1) (ok:=(bw (ws,ok)).2.2) (ws':=(jJ (bw (ws,ok)).2).2.1) (by rw[←c]);obtain⟨m,k⟩:=oL (ws:=ws) (ok:=ok) (ws':=(bw (ws,ok)).2.1) (by rw[←e]);have a:(jJ (bw (ws,ok)).2).2.1=_:=a;have f:(bw (ws,ok)).2.1=_:=f;rw[a]at f;rw[f]at k
  refine⟨m,[_,_,_],k,?_⟩;have i:=g.1 rfl;show some [eE (aG (bw (ws,ok)).1),(if(if(jJ (bw (ws,ok)).2).1.2 then true else d.op)then[42]else eE (if(jJ (bw (ws,ok)).2).1.2 then d.up else(jJ (bw (ws,ok)).2).1.1)),(if(vX (jJ (bw (ws,ok)).2).2).1 then ig else FL)]=_
  rw[i];cases(jJ (bw (ws,ok)).2).1.2<;>rfl
 ·have h:(ga ws.length (ws,ok) d.ps).1=(ws',true):=h
  obtain⟨c,l,a,e⟩:=EB _ _ _ h;refine⟨c,_,a,?_⟩;show some (mq (ga ws.length (ws,ok) d.ps).2)=_
  rw[e,g.2.1 rfl,jE]
 ·have h:(nQ ws.length (ws,ok) d.cs).1=(ws',true):=h
  obtain⟨c,l,b,a,e,f⟩:=Ju _ _ _ h;refine⟨c,b,e,?_⟩;show ma (nQ ws.length (ws,ok) d.cs).2=_
  rw[f,g.2.2 rfl,jE,a]
theorem Q0{p q:UInt8}(b:p∈kp)(c:q∈kp)(a:p≠q)(s:rj)(d:OpD):BS p (ue q (s,d)).2=BS p d∧(Oy p d→Oy p (ue q (s,d)).2):=by
 simp only[ar,bU,or_false]at b c;rcases c with rfl|rfl|rfl|rfl|rfl|rfl|rfl|rfl|rfl|rfl|rfl<;>rcases b with rfl|rfl|rfl|rfl|rfl|rfl|rfl|rfl|rfl|rfl|rfl<;>first|exact absurd rfl a|exact⟨rfl,fun h=>⟨fun e=>by first|exact absurd e (by decide)|exact h.1 e,fun e=>by first|exact absurd e (by decide)|exact h.2.1 e,fun e=>by first|exact absurd e (by decide)|exact h.2.2 e⟩⟩
theorem Jq{p:UInt8}(a:p∈kp):∀(pt:List UInt8) (s:rj) (d:OpD),(∀q∈pt,q∈kp)→p∉pt→BS p (fS pt (s,d)).2=BS p d
 | [],s,d,_,_=>rfl
 |q::pt,s,d,h,hn=>by
  show BS p (fS pt (ue q (s,d))).2=_
  have e:ue q (s,d)=((ue q (s,d)).1,(ue q (s,d)).2):=rfl;rw[e,Jq a pt _ _ (fun x hx=>h x (aI _ hx)) fun hx=>hn (aI _ hx)]
  exact(Q0 a (h q (aN ..)) (fun e=>hn (by rw[e];exact aN ..)) s d).1
theorem MN:∀(pt:List UInt8) (ws:List (List UInt8)) (ok:Bool) (d:OpD) {ws':List (List UInt8)},(∀q∈pt,q∈kp)→pt.Nodup→(∀q∈pt,Oy q d)→(fS pt ((ws,ok),d)).1=(ws',true)→ok=true∧∃l,ws=l++ws'∧fy (fS pt ((ws,ok),d)).2 pt=some l
 | [],ws,ok,d,ws',_,_,_,h=>by
  have h:(ws,ok)=(ws',true):=h;cases h;exact⟨rfl,[],rfl,rfl⟩
 |p::pt,ws,ok,d,ws',hk,hd,hf,h=>by
  have g:=hk p (aN ..);have c:=List.nodup_cons.1 hd;have b:∀q∈pt,q∈kp:=fun q f=>hk q (aI _ f)
  have h:(fS pt (((ue p ((ws,ok),d)).1.1,(ue p ((ws,ok),d)).1.2),(ue p ((ws,ok),d)).2)).1=(ws',true):=h;obtain⟨n,l,o,i⟩:=MN pt _ _ _ b c.2 (fun q f=>(Q0 (b q f) g (fun e=>c.1 (e▸f)) _ d).2 (hf q (aI _ f))) h
  obtain⟨m,a,k,s⟩:=WD g (ws':=l++ws') (hf p (aN ..)) (by rw[←o,←n]);refine⟨m,a++l,by rw[aK];exact k,?_⟩
  have j:=Jq g pt (ue p ((ws,ok),d)).1 (ue p ((ws,ok),d)).2 b c.1;rw[s]at j;show fy (fS pt ((ue p ((ws,ok),d)).1,(ue p ((ws,ok),d)).2)).2 (p::pt)=_
  unfold fy;rw[j];have i:fy (fS pt ((ue p ((ws,ok),d)).1,(ue p ((ws,ok),d)).2)).2 pt=some l:=i;rw[i]
theorem YY{p:UInt8}(a:p∈kp)(x:rj×OpD):(ue p x).2.k=x.2.k:=by
 simp only[ar,bU,or_false]at a;rcases a with rfl|rfl|rfl|rfl|rfl|rfl|rfl|rfl|rfl|rfl|rfl<;>rfl
theorem Uy:∀(pt:List UInt8),(∀q∈pt,q∈kp)→∀(x:rj×OpD),(fS pt x).2.k=x.2.k
 | [],_,_=>rfl
 |p::pt,h,x=>by show(fS pt (ue p x)).2.k=_;rw[Uy pt fun q a=>h q (aI _ a),YY (h p (aN ..))]
theorem Yi(p:UInt8)(k:Int):Oy p (d0 k):=⟨fun _=>rfl,fun _=>rfl,fun _=>rfl⟩
theorem DT{a:List UInt8}{d:OpD}(h:iQ a=some d):∃w ws f,im 32 a=w::ws∧f∈formsL∧f.2.1=w∧d=(fS f.2.2 ((ws,true),d0 f.1)).2∧(fS f.2.2 ((ws,true),d0 f.1)).1=([],true)∧fy d f.2.2=some ws∧d.k=f.1:=by
 unfold iQ at h;split at h
 ·cases h
 rename_i w ws e;split at h
 ·cases h
 rename_i f hf;split at h
 ·rename_i e2
  cases h;have hm:=List.mem_of_find?_eq_some hf;have b:(fS f.2.2 ((ws,true),d0 f.1)).1=([],true):=Prod.ext e2.2 e2.1;obtain⟨_,l,c,g⟩:=MN f.2.2 ws true (d0 f.1) (wc f hm).1 (wc f hm).2 (fun q _=>Yi q _) b
  rw[cE]at c;subst c;exact⟨w,ws,f,e,hm,by simpa using List.find?_some hf,rfl,b,g,Uy _ (wc f hm).1 _⟩
 ·cases h
theorem Gn{a:List UInt8}{d:OpD}(h:iQ a=some d):lP d=some a:=by
 obtain⟨w,ws,f,c,e,g,_,_,b,i⟩:=DT h;unfold lP;rw[Qb e i.symm];simp only[b,Option.map_some];rw[g,←c,Nv]
abbrev dz(w:List UInt8):ByteArray:=aG ((iP w).getD [])
abbrev fl(w:List UInt8):Int:=(((mr w).getD 0:Nat):Int)
def jp:List (List UInt8)→List Pr
 |a::b::l=>(dz a,dz b)::jp l
 |_=> []
def jK:List (List UInt8)→List Ch
 |a::b::c::l=>(dz a,dz b,dz c, !decide (b= [46]), !decide (c= [46]))::jK l
 |_=> []
def cB(k:Int)(ws:List (List UInt8)):OpD:=
 if k=0∨k=2∨k=7 then{d0 k with b:=aG (ws.getD 0 []),i:=ac .u32 (fl (ws.getD 1 []))}
 else if k=1∨k=3 then{d0 k with b:=aG (ws.getD 0 [])}
 else if k=4 then{d0 k with b:=aG (ws.getD 0 []),key:=dz (ws.getD 1 []),v:=dz (ws.getD 2 [])}
 else if k=5 then{d0 k with b:=aG (ws.getD 0 []),key:=dz (ws.getD 1 [])}
 else if k=6 then{d0 k with b:=aG (ws.getD 0 []),ps:=jp (ws.drop 1)}
 else if k=8 then{d0 k with b:=aG (ws.getD 0 []),o:=aG (ws.getD 1 []),w:=ac .i64 (fl (ws.getD 2 []))}
 else if k=10 then{d0 k with i:=ac .u32 (fl (ws.getD 0 [])),key:=dz (ws.getD 1 [])}
 else if k=11∨k=14 then{d0 k with i:=ac .u32 (fl (ws.getD 0 []))}
 else if k=12 then{d0 k with i:=ac .u32 (fl (ws.getD 0 [])),t:=ac .u32 (fl (ws.getD 1 []))}
 else if k=13 then{d0 k with b:=aG (ws.getD 0 []),cs:=jK (ws.drop 1)}
 else if k=15 then{d0 k with s:=ac .i64 (fl (ws.getD 0 [])),key:=dz (ws.getD 1 []),v:=dz (ws.getD 2 [])}
 else if k=16∨k=17 then{d0 k with s:=ac .i64 (fl (ws.getD 0 [])),key:=dz (ws.getD 1 [])}
 else if k=18∨k=20 then{d0 k with s:=ac .i64 (fl (ws.getD 0 []))}
 else if k=19 then{d0 k with s:=ac .i64 (fl (ws.getD 0 [])),b:=aG (ws.getD 1 [])}
 else if k=21 then{d0 k with i:=ac .u32 (fl (ws.getD 0 [])),key:=dz (ws.getD 1 []),w:=ac .i64 (fl (ws.getD 2 []))}
 else if k=22 then{d0 k with i:=ac .u32 (fl (ws.getD 0 [])),fr:=dz (ws.getD 1 []),op:=decide (ws.getD 2 []= [42]),up:=(if ws.getD 2 []= [42]then⟨#[]⟩else dz (ws.getD 2 [])),back:=decide (ws.length=4)&&decide (ws.getD 3 []=ig)}
 else d0 k
theorem wX{P:OpD→Prop}(k:Int)(ws:List (List UInt8))
  (c0:P {d0 k with b:=aG (ws.getD 0 []),i:=ac .u32 (fl (ws.getD 1 []))})
  (c1:P {d0 k with b:=aG (ws.getD 0 [])})
  (x:P {d0 k with b:=aG (ws.getD 0 []),key:=dz (ws.getD 1 []),v:=dz (ws.getD 2 [])})
  (p:P {d0 k with b:=aG (ws.getD 0 []),key:=dz (ws.getD 1 [])})
  (z:P {d0 k with b:=aG (ws.getD 0 []),ps:=jp (ws.drop 1)})
  (y:P {d0 k with b:=aG (ws.getD 0 []),o:=aG (ws.getD 1 []),w:=ac .i64 (fl (ws.getD 2 []))})
  (n:P {d0 k with i:=ac .u32 (fl (ws.getD 0 [])),key:=dz (ws.getD 1 [])})
  (u:P {d0 k with i:=ac .u32 (fl (ws.getD 0 []))})
  (q:P {d0 k with i:=ac .u32 (fl (ws.getD 0 [])),t:=ac .u32 (fl (ws.getD 1 []))})
  (m:P {d0 k with b:=aG (ws.getD 0 []),cs:=jK (ws.drop 1)})
  (a:P {d0 k with s:=ac .i64 (fl (ws.getD 0 [])),key:=dz (ws.getD 1 []),v:=dz (ws.getD 2 [])})
  (d:P {d0 k with s:=ac .i64 (fl (ws.getD 0 [])),key:=dz (ws.getD 1 [])})
  (g:P {d0 k with s:=ac .i64 (fl (ws.getD 0 []))})
  (f:P {d0 k with s:=ac .i64 (fl (ws.getD 0 [])),b:=aG (ws.getD 1 [])})
  (e:P {d0 k with i:=ac .u32 (fl (ws.getD 0 [])),key:=dz (ws.getD 1 []),w:=ac .i64 (fl (ws.getD 2 []))})
  (c:P {d0 k with i:=ac .u32 (fl (ws.getD 0 [])),fr:=dz (ws.getD 1 []),op:=decide (ws.getD 2 []= [42]),up:=(if ws.getD 2 []= [42]then⟨#[]⟩else dz (ws.getD 2 [])),back:=decide (ws.length=4)&&decide (ws.getD 3 []=ig)})
  (j:P (d0 k)):P (cB k ws):=by
 unfold cB;by_cases h:k=0∨k=2∨k=7
 ·rw[if_pos h];exact c0
 rw[if_neg h];clear h;by_cases h:k=1∨k=3
 ·rw[if_pos h];exact c1
 rw[if_neg h];clear h;by_cases h:k=4
 ·rw[if_pos h];exact x
 rw[if_neg h];clear h;by_cases h:k=5
 ·rw[if_pos h];exact p
 rw[if_neg h];clear h;by_cases h:k=6
 ·rw[if_pos h];exact z
 rw[if_neg h];clear h;by_cases h:k=8
 ·rw[if_pos h];exact y
 rw[if_neg h];clear h;by_cases h:k=10
 ·rw[if_pos h];exact n
 rw[if_neg h];clear h;by_cases h:k=11∨k=14
 ·rw[if_pos h];exact u
 rw[if_neg h];clear h;by_cases h:k=12
 ·rw[if_pos h];exact q
 rw[if_neg h];clear h;by_cases h:k=13
 ·rw[if_pos h];exact m
 rw[if_neg h];clear h;by_cases h:k=15
 ·rw[if_pos h];exact a
 rw[if_neg h];clear h;by_cases h:k=16∨k=17
 ·rw[if_pos h];exact d
 rw[if_neg h];clear h;by_cases h:k=18∨k=20
 ·rw[if_pos h];exact g
 rw[if_neg h];clear h;by_cases h:k=19
 ·rw[if_pos h];exact f
 rw[if_neg h];clear h;by_cases h:k=21
 ·rw[if_pos h];exact e
 rw[if_neg h];clear h;by_cases h:k=22
 ·rw[if_pos h];exact c
 rw[if_neg h];clear h;exact j
def K1(a:List UInt8):Option OpD:=match im 32 a with
 | []=>none
 |w::ws=>match formsL.find? (fun f=>f.2.1==w)with
  |none=>none
  |some f=>if lP (cB f.1 ws)=some a then some (cB f.1 ws)else none
theorem Ci(n:Int):0≤ac .u32 n∧ac .u32 n≤4294967295:=by rw[qz];omega
theorem SJ(k:Int)(ws:List (List UInt8)):Yz (cB k ws):=by
 have c:0≤(0:Int)∧(0:Int)≤4294967295:=by omega
 have key:∀d:OpD,(0≤d.i∧d.i≤4294967295)→(0≤d.t∧d.t≤4294967295)→Yz d:=fun d a b=>⟨a.1,a.2,b.1,b.2⟩
 apply wX<;>first|exact key _ c c|exact key _ (Ci _) c|exact key _ (Ci _) (Ci _)
theorem WV(k:Int)(ws:List (List UInt8)):(cB k ws).k=k:=wX (P:=fun d=>d.k=k) k ws rfl rfl rfl rfl rfl rfl rfl rfl rfl rfl rfl rfl rfl rfl rfl rfl rfl
theorem Ct(x:ByteArray):dz (eE x)=x:=by unfold dz;rw[Jf];exact Jg x
theorem JE:∀l:List Pr,jp (mq l)=l
 | []=>rfl
 |p::l=>by
  show jp (eE p.1::eE p.2::mq l)=_
  rw[jp,Ct,Ct,JE l]
theorem zP{v:ByteArray}{is:Bool}(h:iq v is=true):dz (ip v is)=v∧(!decide (ip v is= [46]))=is:=by
 unfold ip;cases is with
 |true=>rw[if_pos rfl];exact⟨Ct v,by rw[decide_eq_false (EJ v)];rfl⟩
 |false=>
  have h:v.data.toList= []:=by simpa[iq]using h
  refine⟨?_,by show(!decide (([46]:List UInt8)= [46]))=false;decide⟩
  rw[←Jg v,h];show aG ((iP [46]).getD [])=aG []
  rfl
theorem JF:∀(l:List Ch) (ws:List (List UInt8)),ma l=some ws→jK ws=l
 | [],ws,h=>by cases h;rfl
 |c::l,ws,h=>by
  obtain⟨b,d,a,e,rfl⟩:=wq h;rw[jK,JF l b e,Ct,(zP d).1,(zP d).2,(zP a).1,(zP a).2]
end Go.Proofs
namespace Go.Proofs
open Go Go.Lift
abbrev UH:List UInt8:= [98,111,107,118,105,116,115,119]
theorem ZM{p:UInt8}(a:p∈UH){d:OpD}{l:List (List UInt8)}(h:BS p d=some l):l.length=1:=by
 simp only[ar,bU,or_false]at a;rcases a with rfl|rfl|rfl|rfl|rfl|rfl|rfl|rfl
 ·have h:(if fj d.b then some [d.b.data.toList]else none)=some l:=h
  split at h
  ·cases h;rfl
  ·cases h
 ·have h:(if fj d.o then some [d.o.data.toList]else none)=some l:=h
  split at h
  ·cases h;rfl
  ·cases h
 ·cases h;rfl
 ·cases h;rfl
 ·cases h;rfl
 ·cases h;rfl
 ·have h:(if cY d.s then some [dJ d.s.toNat]else none)=some l:=h
  split at h
  ·cases h;rfl
  ·cases h
 ·have h:(if cY d.w then some [dJ d.w.toNat]else none)=some l:=h
  split at h
  ·cases h;rfl
  ·cases h
theorem sA{d:OpD}:∀{pt:List UInt8},(∀p∈pt,p∈UH)→∀{l:List (List UInt8)},fy d pt=some l→l.length=pt.length
 | [],_,l,h=>by cases h;rfl
 |p::pt,hp,l,h=>by
  unfold fy at h;split at h
  ·rename_i a b e1 e2
   cases h;rw[List.length_append,ZM (hp p (aN ..)) e1,sA (fun q c=>hp q (aI _ c)) e2,ay]
   omega
  ·cases h
theorem vQ{d:OpD}{p:UInt8}{c:List UInt8}{l:List (List UInt8)}(h:fy d (p::c)=some l):∃a b,BS p d=some a∧fy d c=some b∧l=a++b:=by
 unfold fy at h;split at h
 ·rename_i a b e1 e2
  cases h;exact⟨a,b,e1,e2,rfl⟩
 ·cases h
theorem lf0{ws:List (List UInt8)}{d:OpD}(hd:d=(fS [98,105] ((ws,true),d0 0)).2)(c:fy d [98,105]=some ws):cB 0 ws=d:=by
 have e:=sA (by decide) c;match ws,e with
 | [a,b],_=>rw[hd];rfl
theorem lf1{ws:List (List UInt8)}{d:OpD}(hd:d=(fS [98] ((ws,true),d0 1)).2)(b:fy d [98]=some ws):cB 1 ws=d:=by
 have c:=sA (by decide) b;match ws,c with
 | [a],_=>rw[hd];rfl
theorem lf2{ws:List (List UInt8)}{d:OpD}(hd:d=(fS [98,105] ((ws,true),d0 2)).2)(c:fy d [98,105]=some ws):cB 2 ws=d:=by
 have e:=sA (by decide) c;match ws,e with
 | [a,b],_=>rw[hd];rfl
theorem lf3{ws:List (List UInt8)}{d:OpD}(hd:d=(fS [98] ((ws,true),d0 3)).2)(b:fy d [98]=some ws):cB 3 ws=d:=by
 have c:=sA (by decide) b;match ws,c with
 | [a],_=>rw[hd];rfl
theorem lf4{ws:List (List UInt8)}{d:OpD}(hd:d=(fS [98,107,118] ((ws,true),d0 4)).2)(e:fy d [98,107,118]=some ws):cB 4 ws=d:=by
 have f:=sA (by decide) e;match ws,f with
 | [a,b,c],_=>rw[hd];rfl
theorem lf5{ws:List (List UInt8)}{d:OpD}(hd:d=(fS [98,107] ((ws,true),d0 5)).2)(c:fy d [98,107]=some ws):cB 5 ws=d:=by
 have e:=sA (by decide) c;match ws,e with
 | [a,b],_=>rw[hd];rfl
theorem lf6{ws:List (List UInt8)}{d:OpD}(hd:d=(fS [98,112] ((ws,true),d0 6)).2)(i:fy d [98,112]=some ws):cB 6 ws=d:=by
 obtain⟨j,p,g,k,rfl⟩:=vQ i;obtain⟨f,o,c,m,rfl⟩:=vQ k;cases m;have n:=ZM (by decide) g;match j,n with
 | [a],_=>
 rw[cE]at*;have e:d={d0 6 with b:=aG a,ps:=d.ps}:=by rw[hd];rfl
 have c:some (mq d.ps)=some f:=c;cases c;show({d0 6 with b:=aG a,ps:=jp (mq d.ps)}:OpD)=d
 rw[JE];exact e.symm
theorem lf7{ws:List (List UInt8)}{d:OpD}(hd:d=(fS [98,105] ((ws,true),d0 7)).2)(c:fy d [98,105]=some ws):cB 7 ws=d:=by
 have e:=sA (by decide) c;match ws,e with
 | [a,b],_=>rw[hd];rfl
theorem lf8{ws:List (List UInt8)}{d:OpD}(hd:d=(fS [98,111,119] ((ws,true),d0 8)).2)(e:fy d [98,111,119]=some ws):cB 8 ws=d:=by
 have f:=sA (by decide) e;match ws,f with
 | [a,b,c],_=>rw[hd];rfl
theorem lf9{ws:List (List UInt8)}{d:OpD}(hd:d=(fS [] ((ws,true),d0 9)).2)(a:fy d []=some ws):cB 9 ws=d:=by
 have b:=sA (by decide) a;match ws,b with
 | [],_=>rw[hd];rfl
theorem aas{ws:List (List UInt8)}{d:OpD}(hd:d=(fS [105,107] ((ws,true),d0 10)).2)(c:fy d [105,107]=some ws):cB 10 ws=d:=by
 have e:=sA (by decide) c;match ws,e with
 | [a,b],_=>rw[hd];rfl
theorem aar{ws:List (List UInt8)}{d:OpD}(hd:d=(fS [105] ((ws,true),d0 11)).2)(b:fy d [105]=some ws):cB 11 ws=d:=by
 have c:=sA (by decide) b;match ws,c with
 | [a],_=>rw[hd];rfl
theorem aaq{ws:List (List UInt8)}{d:OpD}(hd:d=(fS [105,116] ((ws,true),d0 12)).2)(c:fy d [105,116]=some ws):cB 12 ws=d:=by
 have e:=sA (by decide) c;match ws,e with
 | [a,b],_=>rw[hd];rfl
theorem aap{ws:List (List UInt8)}{d:OpD}(hd:d=(fS [98,99] ((ws,true),d0 13)).2)(g:fy d [98,99]=some ws):cB 13 ws=d:=by
 obtain⟨i,p,f,j,rfl⟩:=vQ g;obtain⟨c,o,k,m,rfl⟩:=vQ j;cases m;have n:=ZM (by decide) f;match i,n with
 | [a],_=>
 rw[cE]at*;have e:d={d0 13 with b:=aG a,cs:=d.cs}:=by rw[hd];rfl
 show({d0 13 with b:=aG a,cs:=jK c}:OpD)=d
 rw[JF _ _ k];exact e.symm
theorem aao{ws:List (List UInt8)}{d:OpD}(hd:d=(fS [105] ((ws,true),d0 14)).2)(b:fy d [105]=some ws):cB 14 ws=d:=by
 have c:=sA (by decide) b;match ws,c with
 | [a],_=>rw[hd];rfl
theorem aan{ws:List (List UInt8)}{d:OpD}(hd:d=(fS [115,107,118] ((ws,true),d0 15)).2)(e:fy d [115,107,118]=some ws):cB 15 ws=d:=by
 have f:=sA (by decide) e;match ws,f with
 | [a,b,c],_=>rw[hd];rfl
theorem aam{ws:List (List UInt8)}{d:OpD}(hd:d=(fS [115,107] ((ws,true),d0 16)).2)(c:fy d [115,107]=some ws):cB 16 ws=d:=by
 have e:=sA (by decide) c;match ws,e with
 | [a,b],_=>rw[hd];rfl
theorem aal{ws:List (List UInt8)}{d:OpD}(hd:d=(fS [115,107] ((ws,true),d0 17)).2)(c:fy d [115,107]=some ws):cB 17 ws=d:=by
 have e:=sA (by decide) c;match ws,e with
 | [a,b],_=>rw[hd];rfl
theorem aak{ws:List (List UInt8)}{d:OpD}(hd:d=(fS [115] ((ws,true),d0 18)).2)(b:fy d [115]=some ws):cB 18 ws=d:=by
 have c:=sA (by decide) b;match ws,c with
 | [a],_=>rw[hd];rfl
theorem aaj{ws:List (List UInt8)}{d:OpD}(hd:d=(fS [115,98] ((ws,true),d0 19)).2)(c:fy d [115,98]=some ws):cB 19 ws=d:=by
 have e:=sA (by decide) c;match ws,e with
 | [a,b],_=>rw[hd];rfl
theorem aai{ws:List (List UInt8)}{d:OpD}(hd:d=(fS [115] ((ws,true),d0 20)).2)(b:fy d [115]=some ws):cB 20 ws=d:=by
 have c:=sA (by decide) b;match ws,c with
 | [a],_=>rw[hd];rfl
theorem aah{ws:List (List UInt8)}{d:OpD}(hd:d=(fS [105,107,119] ((ws,true),d0 21)).2)(e:fy d [105,107,119]=some ws):cB 21 ws=d:=by
 have f:=sA (by decide) e;match ws,f with
 | [a,b,c],_=>rw[hd];rfl
theorem aag{ws:List (List UInt8)}{d:OpD}(hd:d=(fS [105,114] ((ws,true),d0 22)).2)(j:fy d [105,114]=some ws):cB 22 ws=d:=by
 obtain⟨m,n,f,g,rfl⟩:=vQ j;obtain⟨b,o,a,c,rfl⟩:=vQ g;cases f;cases c;have a:some [eE d.fr,if d.op then[42]else eE d.up,if d.back then ig else FL]=some b:=a
 cases a;generalize dJ d.i.toNat=x1 at*;generalize eE d.fr=x2 at*;generalize (if d.op then[42]else eE d.up)=x3 at*
 generalize (if d.back then ig else FL)=x4 at*
 rw[hd];show({d0 22 with i:=_,fr:=_,op:=decide (x3= [42]),up:=(if x3= [42]then⟨#[]⟩else dz x3),back:=decide (x4=ig)}:OpD)=(ue 114 (ue 105 (([x1,x2,x3,x4],true),d0 22))).2
 by_cases e:x3= [42]
 ·subst e;rfl
 ·have e2:jJ ([x3,x4],(bw ([x2,x3,x4],(eC 4294967295 ([x1,x2,x3,x4],true)).2.2)).2.2)=((dz x3,false),(bw ([x3,x4],(bw ([x2,x3,x4],(eC 4294967295 ([x1,x2,x3,x4],true)).2.2)).2.2)).2):=if_neg (fun h=>e (Option.some.inj h))
  have k:ue 114 (ue 105 (([x1,x2,x3,x4],true),d0 22))=((vX (jJ ([x3,x4],(bw ([x2,x3,x4],(eC 4294967295 ([x1,x2,x3,x4],true)).2.2)).2.2)).2).2,{d0 22 with i:=ac .u32 (fl x1),fr:=dz x2,up:=(if(jJ ([x3,x4],(bw ([x2,x3,x4],(eC 4294967295 ([x1,x2,x3,x4],true)).2.2)).2.2)).1.2 then⟨#[]⟩else(jJ ([x3,x4],(bw ([x2,x3,x4],(eC 4294967295 ([x1,x2,x3,x4],true)).2.2)).2.2)).1.1),op:=(if(jJ ([x3,x4],(bw ([x2,x3,x4],(eC 4294967295 ([x1,x2,x3,x4],true)).2.2)).2.2)).1.2 then true else false),back:=(vX (jJ ([x3,x4],(bw ([x2,x3,x4],(eC 4294967295 ([x1,x2,x3,x4],true)).2.2)).2.2)).2).1}):=rfl
  rw[k,e2,if_neg e,decide_eq_false e];rfl
theorem aaf{ws:List (List UInt8)}{d:OpD}(hd:d=(fS [] ((ws,true),d0 23)).2)(a:fy d []=some ws):cB 23 ws=d:=by
 have b:=sA (by decide) a;match ws,b with
 | [],_=>rw[hd];rfl
theorem aae{ws:List (List UInt8)}{d:OpD}(hd:d=(fS [] ((ws,true),d0 24)).2)(a:fy d []=some ws):cB 24 ws=d:=by
 have b:=sA (by decide) a;match ws,b with
 | [],_=>rw[hd];rfl
theorem aad{ws:List (List UInt8)}{d:OpD}(hd:d=(fS [] ((ws,true),d0 25)).2)(a:fy d []=some ws):cB 25 ws=d:=by
 have b:=sA (by decide) a;match ws,b with
 | [],_=>rw[hd];rfl
theorem GV{f:Int×List UInt8×List UInt8}(b:f∈formsL){ws:List (List UInt8)}{d:OpD}(hd:d=(fS f.2.2 ((ws,true),d0 f.1)).2)(a:fy d f.2.2=some ws):cB f.1 ws=d:=by
 simp only[formsL,ar,bU,or_false]at b;rcases b with rfl|rfl|rfl|rfl|rfl|rfl|rfl|rfl|rfl|rfl|rfl|rfl|rfl|rfl|rfl|rfl|rfl|rfl|rfl|rfl|rfl|rfl|rfl|rfl|rfl|rfl
 ·exact lf0 hd a
 ·exact lf1 hd a
 ·exact lf2 hd a
 ·exact lf3 hd a
 ·exact lf4 hd a
 ·exact lf5 hd a
 ·exact lf6 hd a
 ·exact lf7 hd a
 ·exact lf8 hd a
 ·exact lf9 hd a
 ·exact aas hd a
 ·exact aar hd a
 ·exact aaq hd a
 ·exact aap hd a
 ·exact aao hd a
 ·exact aan hd a
 ·exact aam hd a
 ·exact aal hd a
 ·exact aak hd a
 ·exact aaj hd a
 ·exact aai hd a
 ·exact aah hd a
 ·exact aag hd a
 ·exact aaf hd a
 ·exact aae hd a
 ·exact aad hd a
theorem SC(a:List UInt8):K1 a=iQ a:=by
 cases e:iQ a with
 |some d=>
  obtain⟨w,ws,f,g,b,i,j,n,k,o⟩:=DT e;have m:=GV b j k;have c:=Gn e;unfold K1;rw[g];simp only;rw[←i,Ln b];simp only;rw[m,if_pos c]
 |none=>
  unfold K1;split
  ·rfl
  split
  ·rfl
  split
  ·rename_i h
   have:=PH (SJ _ _) h;rw[e]at this;cases this
  ·rfl
structure SmallD(d:OpD):Prop where
 b:d.b.size≤20000
 o:d.o.size≤20000
 key:d.key.size≤20000
 v:d.v.size≤20000
 fr:d.fr.size≤20000
 up:d.up.size≤20000
 ps:d.ps.length≤20000∧∀p∈d.ps,p.1.size≤20000∧p.2.size≤20000
 cs:d.cs.length≤20000∧∀c∈d.cs,c.1.size≤20000∧c.2.1.size≤20000∧c.2.2.1.size≤20000
 num:Yz d
 s: -9223372036854775808≤d.s∧d.s≤9223372036854775807
 w: -9223372036854775808≤d.w∧d.w≤9223372036854775807
theorem Gj:∀(w s:List UInt8),fY w=some s→s.length≤w.length
 | [],s,h=>by cases h;exact au _
 | [_],s,h=>by cases h
 |a::b::l,s,h=>by
  rw[ug]at h;split at h
  ·obtain⟨t,c,rfl⟩:=ft.1 h
   have:=Gj l t c;simp only[ay];omega
  ·cases h
theorem sS(w:List UInt8):(dz w).size≤w.length:=by
 unfold dz;rw[ci];cases e:iP w with
 |none=>exact bc _
 |some s=>
  unfold iP at e;split at e
  ·cases e;exact bc _
  split at e
  ·cases e
  ·exact Gj w s e
theorem Ay{N:Nat}:∀l:List (List UInt8),(∀w∈l,w.length≤N)→(jp l).length≤l.length∧∀p∈jp l,p.1.size≤N∧p.2.size≤N
 | [],_=>⟨au _,fun p c=>by cases c⟩
 | [_],_=>⟨bc _,fun p c=>by cases c⟩
 |a::b::l,h=>by
  obtain⟨f,d⟩:=Ay (N:=N) l fun w e=>h w (aI _ (aI _ e))
  rw[jp];refine⟨by simp only[ay];omega,fun p c=>?_⟩
  rcases ar.1 c with rfl|c
  ·exact⟨bv (sS a) (h a (by simp)),bv (sS b) (h b (by simp))⟩
  ·exact d p c
theorem Az{N:Nat}:∀l:List (List UInt8),(∀w∈l,w.length≤N)→(jK l).length≤l.length∧∀c∈jK l,c.1.size≤N∧c.2.1.size≤N∧c.2.2.1.size≤N
 | [],_=>⟨au _,fun p d=>by cases d⟩
 | [_],_=>⟨bc _,fun p d=>by cases d⟩
 | [_,_],_=>⟨bc _,fun p d=>by cases d⟩
 |a::b::c::l,h=>by
  obtain⟨g,e⟩:=Az (N:=N) l fun w f=>h w (aI _ (aI _ (aI _ f)))
  rw[jK];refine⟨by simp only[ay];omega,fun p d=>?_⟩
  rcases ar.1 d with rfl|d
  ·exact⟨bv (sS a) (h a (by simp)),bv (sS b) (h b (by simp)),bv (sS c) (h c (by simp))⟩
  ·exact e p d
theorem TK(n:Int): -9223372036854775808≤ac .i64 n∧ac .i64 n≤9223372036854775807:=by rw[IntKind.wrap_i64];omega
theorem EH(k:Int){ws:List (List UInt8)}(h:∀w∈ws,w.length≤20000)(q:ws.length≤20000):SmallD (cB k ws):=by
 have g:∀j,(ws.getD j []).length≤20000:=fun j=>by
  rw[List.getD_eq_getElem?_getD];cases e:ws[j]? with
  |none=>exact bc _
  |some w=>exact h w (List.mem_of_getElem? e)
 have gs:∀j,(aG (ws.getD j [])).size≤20000:=fun j=>by rw[ci];exact g j
 have f:∀j,(dz (ws.getD j [])).size≤20000:=fun j=>bv (sS _) (g j)
 have z:(⟨#[]⟩:ByteArray).size≤20000:=bc _;have o: -9223372036854775808≤(0:Int)∧(0:Int)≤9223372036854775807:=by omega
 have i:([]:List Pr).length≤20000∧∀p∈([]:List Pr),p.1.size≤20000∧p.2.size≤20000:=⟨bc _,fun _ h=>by cases h⟩
 have m:([]:List Ch).length≤20000∧∀c∈([]:List Ch),c.1.size≤20000∧c.2.1.size≤20000∧c.2.2.1.size≤20000:=⟨bc _,fun _ h=>by cases h⟩
 have hd:∀w∈ws.drop 1,w.length≤20000:=fun w n=>h w (List.mem_of_mem_drop n)
 have s:(ws.drop 1).length≤20000:=by rw[List.length_drop];omega
 have d:=Ay _ hd;have b:=Az _ hd;have d:(jp (ws.drop 1)).length≤20000∧∀p∈jp (ws.drop 1),p.1.size≤20000∧p.2.size≤20000:=⟨by omega,d.2⟩;have b:(jK (ws.drop 1)).length≤20000∧∀c∈jK (ws.drop 1),c.1.size≤20000∧c.2.1.size≤20000∧c.2.2.1.size≤20000:=⟨by omega,b.2⟩;have up:(if ws.getD 2 []= [42]then(⟨#[]⟩:ByteArray)else dz (ws.getD 2 [])).size≤20000:=by split<;>first|exact z|exact f 2
 have a:0≤(0:Int)∧(0:Int)≤4294967295:=by omega
 apply wX<;>refine⟨?_,?_,?_,?_,?_,?_,?_,?_,?_,?_,?_⟩<;>first|exact up|exact z|exact gs _|exact f _|exact i|exact m|exact d|exact b|exact o|exact TK _|exact⟨a.1,a.2,a.1,a.2⟩|exact⟨(Ci _).1,(Ci _).2,a.1,a.2⟩|exact⟨(Ci _).1,(Ci _).2,(Ci _).1,(Ci _).2⟩
theorem CE(c:UInt8):∀l:List UInt8,(im c l).length≤l.length+1∧∀w∈im c l,w.length≤l.length
 | []=>⟨au _,fun w b=>by rw[List.mem_singleton.1 b];exact au _⟩
 |a::l=>by
  obtain⟨f,d⟩:=CE c l;unfold im;split
  ·refine⟨by simp only[ay];omega,fun w b=>?_⟩
   rcases ar.1 b with rfl|b
   ·exact bc _
   ·have:=d w b;simp only[ay];omega
  ·cases e:im c l with
   |nil=>exact absurd e (F4 c l)
   |cons u ws=>
    rw[e]at f d;refine⟨by simp only[ay]at*;omega,fun w b=>?_⟩
    rcases ar.1 b with rfl|b
    ·have:=d u (aN ..);simp only[ay];omega
    ·have:=d w (aI _ b);simp only[ay];omega
theorem M7{a:List UInt8}(m:a.length≤19999){d:OpD}(h:iQ a=some d):SmallD d:=by
 obtain⟨w,ws,f,b,c,k,e,i,g,j⟩:=DT h;rw[←GV c e g];have hc:=CE 32 a;rw[b]at hc;refine EH _ (fun x hx=>?_) ?_
 ·have:=hc.2 x (aI _ hx);omega
 ·have:=hc.1;simp only[ay]at this;omega
end Go.Proofs
set_option maxRecDepth 100000
namespace Go.Proofs
open Go Go.Lift Go.Shelf
def Ux:Ren:=⟨fun n=>bif av n 129 then 130 else bif av n 156 then 47 else bif av n 165 then 78 else bif av n 166 then 79 else bif av n 169 then 42 else bif av n 171 then 63 else bif av n 240 then 74 else bif av n 241 then 111 else bif av n 243 then 91 else bif av n 246 then 125 else bif av n 276 then 107 else bif av n 277 then 135 else bif av n 283 then 103 else bif av n 284 then 104 else bif av n 285 then 105 else bif av n 286 then 106 else bif av n 317 then 129 else bif av n 318 then 131 else bif av n 319 then 132 else bif av n 320 then 133 else bif av n 337 then 189 else bif av n 338 then 190 else 0,
 fun n=>bif av n 0 then 0 else bif av n 2 then 2 else bif av n 3 then 3 else bif av n 4 then 4 else bif av n 5 then 5 else bif av n 9 then 9 else bif av n 20 then 20 else bif av n 31 then 76 else bif av n 37 then 95 else bif av n 46 then 32 else bif av n 51 then 23 else bif av n 53 then 52 else bif av n 70 then 103 else bif av n 72 then 105 else bif av n 75 then 99 else bif av n 76 then 144 else bif av n 80 then 107 else bif av n 127 then 141 else bif av n 164 then 168 else bif av n 171 then 163 else bif av n 173 then 166 else bif av n 212 then 202 else bif av n 213 then 203 else bif av n 232 then 333 else bif av n 233 then 334 else 0,
 fun n=>bif av n 17 then 3 else bif av n 18 then 6 else bif av n 19 then 7 else 0⟩
theorem Is:Lays.n156 PG Ux:=by constructor<;>first|kernel_rfl|(intro w;kernel_rfl)
theorem Ir:Lays.n171 PG Ux:=by constructor<;>first|kernel_rfl|(intro w;kernel_rfl)
theorem GX:LaysM.n171 PG Ux:=by constructor<;>first|exact Ir|kernel_rfl|(intro w;kernel_rfl)
theorem WY:Builder.X72 PG Ux:=by constructor<;>kernel_rfl
theorem SO:Builder.Extra PG Ux:=by constructor<;>first|exact WY|kernel_rfl|(intro w;kernel_rfl)|decide
end Go.Proofs
namespace Go.Proofs
open Go Go.Lift
section
variable {W:Nat→Prop} {h:ad} {sp vp:Nat} {s:VS} {sm:Option Nat} {last:Int} {pool:Option Addr} {o:xp}
theorem VaultAt.hM(v:VaultAt W h vp s):∀y,s.M y→y<h.size:=fun y a=>v.g.lt y (v.w y a)
theorem NQ(v:VaultAt W h vp s)(b:h[sp]? =some (.cells (O9 vp sm last pool).toArray dB (0,0))) (ek:o.1=0) {K:An→ad→Prop} (j:∀h',Upd s.M h h'→VaultAt W h' vp {s with B:=if Ad s.B s.L o.2.1 o.2.2.2.2.2.1 false=0 then pD s.B o.2.1 o.2.2.2.2.2.1 else s.B}→K (Ad s.B s.L o.2.1 o.2.2.2.2.2.1 false,0,0,⟨#[]⟩,false,0,eA,eA,eA,eA,eA) h'):
  HC PG gM [.pointer (some ⟨sp,0,none⟩),ON o] Qs K h:=
 Vl (k:=0) ek (by omega) rfl fun p f a n i=>MA (v.pro a) (a.get0 b) fun h' u m=>⟨s.M,u,fun e=>by have:=v.hM _ e;omega,fun g d=>j g ((a.wide.tr u).trans d fun y c=>.inr (by have c:y=f:=c;omega)) ((m.own v.hM d n i).dn v.w)⟩
theorem Vm(v:VaultAt W h vp s)(b:h[sp]? =some (.cells (O9 vp sm last pool).toArray dB (0,0))) (c:¬s.M sp) (ek:o.1=4) {hd:Int} (n:dK s.B o.2.1=some hd) (D:hd=0∨hd∈ids s.L) {N:Nat} (t:N≤900) (m:∀B,BaseOf s hd B→Few N B.2) (z:o.2.2.2.1.size≤30) (C:o.2.2.2.2.1.size≤30) {id:Int} (g:(mc s.L s.nx (nz [hd])).1=(id,0)) {K:An→ad→Prop}
  (w:∀h' B d,BaseOf s hd B→Upd s.M h h'→VaultAt W h' vp (AV s o.2.1 (d,j8 (o.2.2.2.1,o.2.2.2.2.1) B.2) (nz [hd])).2→K (0,id,0,⟨#[]⟩,false,0,eA,eA,eA,eA,eA) h'):
  HC PG gM [.pointer (some ⟨sp,0,none⟩),ON o] Qs K h:=
 Vl (k:=4) ek (by omega) rfl fun F j f p E=>Uh (v.pro f) (f.get0 b) c n D t m z C g fun h' B d x u q=>⟨s.M,u,fun e=>by have:=v.hM _ e;omega,fun A i=>w A B d x ((f.wide.tr u).trans i fun y a=>.inr (by have a:y=j:=a;omega)) ((q.own (fun y a=>v.hM y ((DF y).1 a)) i p E).dn fun y a=>v.w y ((DF y).1 a))⟩
theorem Vn(v:VaultAt W h vp s)(b:h[sp]? =some (.cells (O9 vp sm last pool).toArray dB (0,0))) (ek:o.1=10) (hi:o.2.2.2.2.2.1=0∨o.2.2.2.2.2.1∈ids s.L) (c:∀B,BaseOf s o.2.2.2.2.2.1 B→eY B.2∧B.2.length≤60000) {K:An→ad→Prop}
  (e:∀h' B,BaseOf s o.2.2.2.2.2.1 B→Upd No h h'→K (0,0,0,(look B.2 o.2.2.2.1).getD ⟨#[]⟩,(look B.2 o.2.2.2.1).isSome,0,eA,eA,eA,eA,eA) h'):
  HC PG gM [.pointer (some ⟨sp,0,none⟩),ON o] Qs K h:=
 Vl (k:=10) ek (by omega) rfl fun m j a g _=>Ui (v.upd0 a) (a.get0 b) hi c fun h' B f u=>⟨No,u,fun h=>h,fun d i=>e d B f ((a.tr u).own i g)⟩
end
abbrev rG:ByteArray:=⟨#[109,97,105,110]⟩
end Go.Proofs
namespace Go.Proofs
open Go Go.Lift
theorem Uo{h:ad}{K:ByteArray→ad→Prop}(a:K ⟨#[111,107]⟩ h):HC PG uy [.int .i64 0] [.c .str] K h:=by
 refine Ou 0 ?_;unfold Fe;exact af.2 a
abbrev iV(n:Int):Value:=.int .i64 n
theorem SP(h:ad):MapAt kStr iV (mR (mR (h.push (.map #[] 0)) h.size (.string ⟨#[99,104,97,109,112]⟩) (.int .i64 0)) h.size (.string ⟨#[114,97,100,105,120]⟩) (.int .i64 1)) h.size (pD (pD [] (⟨#[99,104,97,109,112]⟩:ByteArray) (0:Int)) (⟨#[114,97,100,105,120]⟩:ByteArray) (1:Int)):=
 ((MapAt.new h).put _ _).put _ _
theorem JJ(h:ad):Upd No h (mR (mR (h.push (.map #[] 0)) h.size (.string ⟨#[99,104,97,109,112]⟩) (.int .i64 0)) h.size (.string ⟨#[114,97,100,105,120]⟩) (.int .i64 1)):=
 ((Upd.push No h (.map #[] 0)).trans (vU (M:=(· =h.size)) _ _ _ rfl) fun y a=>.inr (by have a:y=h.size:=a;omega)).trans (vU (M:=(· =h.size)) _ _ _ rfl) fun y a=>.inr (by have a:y=h.size:=a;omega)
theorem UN{h:ad}{d:Option Addr}{s:SliceV}(a:s.len≠5){K:ByteArray×Bool→ad→Prop}(b:∀h',Upd No h h'→K (⟨#[]⟩,false) h'):HC PG lY [.pointer d,.slice s.a s.len s.cap] [.c .str,.c .bool] K h:=by
 refine uE d s ?_;unfold pG bf cU bM rD;refine bi ⟨h.size,rfl,(MapAt.new (E:=kStr) (g:=iV) h).isMap,bi ⟨h.size,rfl,(((MapAt.new (E:=kStr) (g:=iV) h)).put _ _).isMap,bi (Join.plain (CondP.intro (fun _=>aA.2 (b _ (JJ h))) fun e=>?_))⟩⟩
 have:s.len=5:=by
  have e:(s.len:Int)=5:=by simpa using e
  omega
 exact absurd this a
theorem O3{h:ad}{d:Option Addr}{s:SliceV}(a:s.len≠2){K:ByteArray×Bool→ad→Prop}(b:K (⟨#[]⟩,false) h):HC PG nB [.pointer d,.slice s.a s.len s.cap] [.c .str,.c .bool] K h:=by
 refine Al d s ?_;unfold sy bf cU bM;refine Join.plain (CondP.intro (fun _=>aA.2 b) fun e=>?_)
 have:s.len=2:=by
  have e:(s.len:Int)=2:=by simpa using e
  omega
 exact absurd this a
theorem Zo{n:Nat}(b:n<4294967296){h:ad}(l:Laid h){K:ByteArray→ad→Prop}(a:∀h',Upd No h h'→K (aG (dJ n)) h'):HC PG wg [.int .u32 (n:Int)] [.c .str] K h:=by
 refine Tt (n:Int) ?_;unfold Kr Av;rw[show ac .u64 (n:Int)=(n:Int)from by rw[dW];omega]
 exact qF (by omega) l.tab a
theorem SD{W0:Nat→Prop}{h:ad}(o:∀y,W0 y→y<h.size){b:Nat}(hd:h[b]? =some (.cells #[.pointer none] hE (0,0))) (l:Laid h) (U:4≤b) {s:SliceV} {W:Nat→Prop} (z:Sl BT 1 W h s [[111,112,101,110],[114,97,100,105,120],[48],[48],[48]]) {K:ByteArray×Bool→ad→Prop}
  (L:∀c h' sp m gp gm tm bm nm t sm pb j,VaultAt (fun y=>W0 y∨VS.M ⟨gp,gm,tm,bm,nm,1,⟨0,0,0⟩,t,[],1,[],[],[]⟩ y) c m ⟨gp,gm,tm,bm,nm,1,⟨0,0,0⟩,t,[],1,[],[],[]⟩→c[sp]? =some (.cells (O9 m (some sm) 0 (some ⟨pb,0,none⟩)).toArray dB (0,0))→
   (∀y,VS.M ⟨gp,gm,tm,bm,nm,1,⟨0,0,0⟩,t,[],1,[],[],[]⟩ y→h.size≤y∧y<j)→j<sp→Upd No h c→h'[b]? =some (.cells #[.pointer (some ⟨sp,0,none⟩)] hE (0,0))→Upd (· =b) c h'→K (⟨#[111,107]⟩,true) h'):
  HC PG lY [.pointer (some ⟨b,0,none⟩),.slice s.a s.len s.cap] [.c .str,.c .bool] K h:=by
 refine uE (some ⟨b,0,none⟩) s ?_;unfold pG bf cU bM rD;refine bi ⟨h.size,rfl,(MapAt.new (E:=kStr) (g:=iV) h).isMap,bi ⟨h.size,rfl,(((MapAt.new (E:=kStr) (g:=iV) h)).put _ _).isMap,bi ?_⟩⟩;have v:=SP h;have k1:=JJ h;generalize mR (mR (h.push (.map #[] 0)) h.size (.string ⟨#[99,104,97,109,112]⟩) (.int .i64 0)) h.size (.string ⟨#[114,97,100,105,120]⟩) (.int .i64 1)=h1 at v k1
 have a:=z.upd k1 fun _ h=>h.elim
 have f:s.len=5:=z.len;obtain⟨Q,H,_,c0⟩:=a.at0 (g:=fun w=>Value.string (aG w)) (i:=0) rfl
 obtain⟨X,e1,_,c1⟩:=a.at0 (g:=fun w=>Value.string (aG w)) (i:=1) rfl
 refine Join.plain (CondP.intro (fun e=>absurd e (by rw[f];decide)) fun _=>⟨⟨by omega,by omega⟩,Q,H,_,c0,?_⟩)
 refine CondP.intro (fun e=>absurd e (by decide+kernel)) fun _=>⟨⟨by omega,by omega⟩,X,e1,_,c1,_,_,v.get (⟨#[114,97,100,105,120]⟩:ByteArray) 0,⟨by omega,by omega⟩,?_⟩
 obtain⟨S,e2,_,J⟩:=a.at0 (g:=fun w=>Value.string (aG w)) (i:=2) rfl
 have O:mr (aG [48]).data.toList=some 0:=by
  have:mr (dJ 0)=some 0:=Cg (by omega);rw[ot (by omega)]at this;exact this
 refine⟨S,e2,_,J,zL (x:=aG [48]) (by decide) (l.upd0 k1) fun c d=>⟨⟨by omega,by omega⟩,?_⟩⟩
 obtain⟨D,Y,_,C⟩:=(a.upd d fun _ h=>h.elim).at0 (g:=fun w=>Value.string (aG w)) (i:=3) rfl
 refine⟨D,Y,_,C,zL (x:=aG [48]) (by decide) ((l.upd0 k1).upd0 d) fun h3 q=>⟨⟨by omega,by omega⟩,?_⟩⟩
 obtain⟨T,R,_,F⟩:=(a.upd (d.tr q) fun _ h=>h.elim).at0 (g:=fun w=>Value.string (aG w)) (i:=4) rfl
 refine⟨T,R,_,F,zL (x:=aG [48]) (by decide) (((l.upd0 k1).upd0 d).upd0 q) fun h4 B=>?_⟩
 rw[O];have A:dK (pD (pD [] (⟨#[99,104,97,109,112]⟩:ByteArray) (0:Int)) (⟨#[114,97,100,105,120]⟩:ByteArray) (1:Int)) (⟨#[114,97,100,105,120]⟩:ByteArray)=some 1:=by decide+kernel
 rw[A];have n:=((k1.tr d).tr q).tr B;refine Join.plain (af.2 (af.2 (af.2 (af.2 ?_))));refine R8 (W:=W0) (kind:=1) (.inr rfl) (x:=⟨0,0,0⟩) (fun y k=>Nat.lt_of_lt_of_le (o y k) n.size) fun P sp m gp gm tm bm nm t sm pb j V bs Z pl hM q1 q2 q3 q4 q5 u=>⟨_,rfl,?_⟩
 have p:=(n.tr u).get0 hd;have z4:=n.size;refine oz p (by simp) rfl fun G I N=>Uo (L P G sp m gp gm tm bm nm t sm pb j V bs (fun y k=>⟨by have:=(hM y k).1;omega,(hM y k).2⟩) (by omega) (n.tr u) I N)
end Go.Proofs
namespace Go.Proofs
open Go Go.Lift
abbrev N5(e:An):Value:=.agg (Yx e).toArray
theorem pe{h:ad}{cs:List Value}{t:TypeId}{k:ad→Prop}(a:∀h1,h1[h.size]? =some (.cells cs.toArray t (0,0))→Upd No h h1→k h1):At (hnew h cs t) k:=a _ (bF ..) (Upd.hnew ..)
theorem PP{e:An}{h:ad}{K:ByteArray→ad→Prop}(a:∀h',Upd No h h'→K ⟨#[111,107]⟩ h'):HC PG vz [.int .i64 0,N5 e] [.c .str] K h:=by
 refine IP 0 e ?_;unfold AN aj bJ ah aZ aL Fp XS XW ez;refine pe fun b b1 k1=>?_
 exact af.2 (af.2 (Join.plain (af.2 (af.2 (af.2 (af.2 (Join.plain (af.2 (af.2 (af.2 (a _ k1)))))))))))
theorem T5{e:An}(a:e.1=0){h:ad}{K:ByteArray→ad→Prop}(d:∀h',Upd No h h'→K ⟨#[111,107]⟩ h'):HC PG oT [.int .i64 0,N5 e] [.c .str] K h:=by
 refine zr 0 e ?_;unfold u0 aj bJ ah aZ aL Fp XS XW;refine pe fun f b1 k1=>⟨e.1,vc b1 0,?_⟩
 rw[a];refine af.2 (Join.plain (Join.plain (af.2 (Join.plain (af.2 (af.2 (af.2 (af.2 (af.2 (af.2 (af.2 (?_))))))))))));exact⟨_,vc b1 0,_,vc b1 1,_,vc b1 2,_,vc b1 3,_,vc b1 4,_,vc b1 5,_,vc b1 6,_,vc b1 7,_,vc b1 8,_,vc b1 9,_,vc b1 10,PP (e:=e) fun c b=>d c (k1.tr b)⟩
theorem U7{x:ByteArray}(hx:x.size≤3000000){h:ad}{K:ByteArray→ad→Prop}(a:K ((⟨#[105,115,32]⟩:ByteArray)++x) h):HC PG sI [.bool true,.string x] [.c .str] K h:=by
 refine LX true x ?_;unfold Dl;refine af.2 ⟨?_,a⟩;have:(⟨#[105,115,32]⟩:ByteArray).size=3:=rfl;omega
theorem T4{e:An}(a:e.1=0){n:Nat}(b:n<4294967296)(hi:e.2.1=(n:Int)){h:ad}(l:Laid h){K:ByteArray→ad→Prop}(g:∀h',Upd No h h'→K (((⟨#[118,101,114,115,105,111,110,32]⟩:ByteArray)++aG (dJ n))++(⟨#[]⟩:ByteArray)) h'):HC PG oT [.int .i64 4,N5 e] [.c .str] K h:=by
 refine zr 4 e ?_;unfold u0 aj bJ ah aZ aL Fp XS XW;refine pe fun j b1 k1=>⟨e.1,vc b1 0,?_⟩
 rw[a];refine af.2 (Join.plain (Join.plain (af.2 (Join.plain (aA.2 (aA.2 (?_)))))));have c:=Kd (n:=n) (by omega);have k:(⟨#[118,101,114,115,105,111,110,32]⟩:ByteArray).size=8:=rfl;have i:(⟨#[]⟩:ByteArray).size=0:=rfl;have es:=ci (dJ n);refine⟨e.2.1,vc b1 1,?_⟩;rw[hi];refine Zo b (l.upd0 k1) fun f d=>⟨by omega,?_,F6 (g f (k1.tr d))⟩
 rw[aE];omega
theorem RV{e:An}(b:e.1=0)(hi:e.2.2.2.2.1=true){v:ByteArray}(c:e.2.2.2.1=v)(g:v.size≤1000000){h:ad}{K:ByteArray→ad→Prop}(f:∀h',Upd No h h'→K (((⟨#[105,115,32]⟩:ByteArray)++aG (lI v.data.toList))++(⟨#[]⟩:ByteArray)) h'):HC PG oT [.int .i64 10,N5 e] [.c .str] K h:=by
 refine zr 10 e ?_;unfold u0 aj bJ ah aZ aL Fp XS XW;refine pe fun j b1 k1=>⟨e.1,vc b1 0,?_⟩
 rw[b];refine af.2 (Join.plain (Join.plain (af.2 (Join.plain (af.2 (af.2 (af.2 (af.2 (af.2 (af.2 (aA.2 (?_))))))))))));have k:(⟨#[105,115,32]⟩:ByteArray).size=3:=rfl;have i:(⟨#[]⟩:ByteArray).size=0:=rfl;have m:(aG (lI v.data.toList)).size≤2000001:=by
  rw[ci,lI];split
  ·simp
  ·rw[wa,nr];omega
 refine⟨e.2.2.2.2.1,vc b1 4,e.2.2.2.1,vc b1 3,?_⟩;rw[hi,c];refine wY g fun d a=>⟨?_,U7 (by omega) ⟨?_,f d (k1.tr a)⟩⟩
 ·have:=a.cell0 (vc b1 4)
  rw[hi]at this;exact this
 ·rw[aE];omega
end Go.Proofs
namespace Go.Proofs
open Go Go.Lift Go.RowKit
theorem Kb{n:Int}(d: -9223372036854775808≤n)(f:n≤9223372036854775807){h:ad}(b:Tab10 h){K:ByteArray→ad→Prop}(i:∀x h',(0≤n→x=aG (dJ n.toNat))→Upd No h h'→K x h'):HC PG lD [.int .i64 n] [.c .str] K h:=by
 refine IQ n ?_;unfold AO;refine HC.shelf Tryz.call63 fun w g=>?_
 subst g;obtain⟨t,m,b⟩:=b;refine(Any.strconv_Itoa GX n d f w ?_).mono fun e w' ⟨c,k,os,a⟩=>?_
 ·unfold Lib.TabIs World.var?
  rw[U5];simp[b]
 ·subst a
  refine⟨⟨rfl,rfl,rfl⟩,aG (Lib.itoa n),c,i _ _ (fun j=>?_) (wt (Lib.below_grow _ _ (au _) _ _))⟩
  unfold Lib.itoa;rw[if_neg (by omega),yX]
theorem wQ{n:Int}{h:ad}{K:Bool→ad→Prop}(a:K (cY n) h):HC PG mY [.int .i64 n] [.c .bool] K h:=by
 refine LV n ?_;unfold Dj;refine aF (fun e=>?_) fun e=>?_
 ·rw[show decide (n≤2147483647)=cY n from by unfold cY;rw[decide_eq_true (show 0≤n by omega),dj]];exact a
 ·rw[show false=cY n from by unfold cY;rw[decide_eq_false (show ¬0≤n by omega),il]];exact a
theorem Jh{v:ByteArray}{is:Bool}(b:v.size≤20000){h:ad}{K:ByteArray×Bool→ad→Prop}(a:∀h',Upd No h h'→K (aG (ip v is),iq v is) h'):HC PG ux [.string v,.bool is] [.c .str,.c .bool] K h:=by
 refine Ot v is ?_;unfold Fc;cases is with
 |false=>
  have:=a h (Upd.refl _ _);rw[Cj];exact aA.2 this
 |true=>exact af.2 (wY (by omega) a)
theorem BX{M:Nat→Prop}{h:ad}{b:Nat}{w:List UInt8}(a:h[b]? =some (.cells #[.string (aG w)] cn (0,0))) (hM:M b):OwnS BT 1 cn M h ⟨some ⟨b,0,none⟩,1,1⟩ [w]:=
 ⟨rfl,ym,au _,.inr ⟨b,[],rfl,hM,a,rfl⟩⟩
theorem Xt{M:Nat→Prop}{h:ad}{b:Nat}{u v w:List UInt8}(a:h[b]? =some (.cells #[.string (aG u),.string (aG v),.string (aG w)] cn (0,0))) (hM:M b):OwnS BT 1 cn M h ⟨some ⟨b,0,none⟩,3,3⟩ [u,v,w]:=
 ⟨rfl,ym,au _,.inr ⟨b,[],rfl,hM,a,rfl⟩⟩
theorem FO:∀l:List (List UInt8),cu (l.flatMap BT)=true
 | []=>rfl
 |a::l=>by rw[List.flatMap_cons];exact FO l
theorem Pa{c:Ch}(v:c.1.size≤20000)(q:c.2.1.size≤20000)(t:c.2.2.1.size≤20000){h:ad}{K:SliceV×Bool→ad→Prop}(n:∀h' s,OwnS BT 1 cn (fun y=>h.size≤y) h' s [eE c.1,ip c.2.1 c.2.2.2.1,ip c.2.2.1 c.2.2.2.2]→Upd No h h'→K (s,iq c.2.1 c.2.2.2.1&&iq c.2.2.1 c.2.2.2.2) h'):
  HC PG sH [.agg #[.string c.1,.string c.2.1,.string c.2.2.1,.bool c.2.2.2.1,.bool c.2.2.2.2]] [.c .slice,.c .bool] K h:=by
 refine LW c ?_;unfold Dk ah aZ Mg Wh PE;refine pe fun z d j=>⟨_,vc d 1,_,vc d 3,Jh q fun x g=>?_⟩
 have f:=g.get0 d;refine⟨_,vc f 2,_,vc f 4,Jh t fun w i=>⟨_,vc (i.get0 f) 0,wY (by omega) fun p o=>pe fun k u m=>?_⟩⟩
 have b:=((j.tr g).tr i).tr o;have a:=n k ⟨some ⟨p.size,0,none⟩,3,3⟩ (Xt u b.size) (b.tr m);refine CondP.intro (fun e=>?_) fun e=>?_
 ·have e:iq c.2.1 c.2.2.2.1=true:=e
  rw[e,dj]at a;exact a
 ·have e:iq c.2.1 c.2.2.2.1=false:=e
  rw[e,il]at a;exact a
abbrev pY(d:OpD)(sp a:SliceV):xp:=(d.k,d.b,d.o,d.key,d.v,d.i,d.t,d.s,d.w,d.back,d.fr,d.up,d.op,sp,a)
theorem M1(a b:List Pr):mq (a++b)=mq a++mq b:=by unfold mq;rw[List.flatMap_append]
theorem VA(c:Ch)(l:List Ch):ma (c::l)=match Xh c,ma l with|some a,some b=>some (a++b)|_,_=>none:=rfl
theorem Hx:∀a b:List Ch,ma (a++b)=match ma a,ma b with|some x,some y=>some (x++y)|_,_=>none
 | [],b=>by
  show ma b=_
  cases ma b<;>rfl
 |c::a,b=>by
  rw[List.cons_append,VA,VA,Hx a b];cases Xh c<;>cases ma a<;>cases ma b<;>simp
theorem Eu{α:Type}{l:List α}{i:Nat}(hi:i<l.length):l.take (i+1)=l.take i++ [l[i]]:=by
 rw[List.take_add_one,ax hi];rfl
theorem Hw:∀(l:List Ch) (ws:List (List UInt8)),ma l=some ws→ws.length=3*l.length
 | [],ws,h=>by cases h;rfl
 |c::l,ws,h=>by
  obtain⟨b,_,_,a,rfl⟩:=wq h;have:=Hw l b a;simp only[ay];omega
section
variable {d:OpD} {sp sc:SliceV} {h:ad}
theorem OQ(sm:SmallD d)(H:Sl jz 2 No h sp d.ps){K:SliceV×Bool→ad→Prop}(U:∀h' s,OwnS BT 1 cn (fun y=>h.size≤y) h' s (mq d.ps)→Upd No h h'→K (s,true) h'):
  LoopP (fun(B:SliceV×Int→ad→Prop) (b:SliceV×Int) e=>CondP (decide (b.2<(sp.len:Int))) (
    Join (fun(E:SliceV) D=>B (E,ac .i64 (b.2+1)) D) (fun z=>
     (((0:Int)≤b.2∧b.2<((sp.len:Nat):Int))∧∃a74:Addr,sp.a=some a74∧
      ∃v75:ByteArray,aD e (adr (adr a74 (b.2.toNat*2)) 0)=some (.string v75)∧
      ∃v76:ByteArray,aD e (adr (adr a74 (b.2.toNat*2)) 1)=some (.string v76)∧
      At (hnew e [.string (⟨#[]⟩:ByteArray),.string (⟨#[]⟩:ByteArray)] az) (fun n=>
       (sN n (some (aH e)) 0 [.string v75,.string v76]∧
        At (ib n (aH e) 0 [.string v75,.string v76]) (fun g=>
         ∃v79:ByteArray,aD g (adr (aH e) 0)=some (.string v79)∧
         ∃v80:ByteArray,aD g (adr (aH e) 1)=some (.string v80)∧
         HC PG fP [.string v79] [.c .str] (fun(A:ByteArray) k=>
          (aD k (adr (aH e) 1)=some (.string v80)∧
           HC PG fP [.string v80] [.c .str] (fun(C:ByteArray) m=>
            At (hnew m [.string A,.string C] cn) (fun o=>
             ∃xs86,SRow o (some (aH m)) (2*1) xs86∧
             AppP (some [.string (⟨#[]⟩:ByteArray)]) 1 16 cn b.1.a b.1.len b.1.cap 2 xs86 o (fun v F=>
              z v F))) k)) g)))))) (
    K (b.1,true) e)) (⟨none,0,0⟩,0) h:=by
 have hl:=H.len;have hn:=sm.ps.1;refine LoopP.ghost (fun(i:Nat) (t:SliceV×Int) h'=>t.2=(i:Int)∧i≤d.ps.length∧OwnS BT 1 cn (fun y=>h.size≤y) h' t.1 (mq (d.ps.take i))∧Upd No h h') (fun i=>d.ps.length-i) 0 ⟨rfl,bc _,OwnS.nil ym,Upd.refl _ _⟩ ?_
 rintro I i ⟨so,ti⟩ h' ⟨e1,hi,u,q⟩ hI;simp only at e1 u;subst e1;refine aF (fun f=>Join.plain ?_) fun x=>?_
 ·have f:i<d.ps.length:=by have:(i:Int)<(sp.len:Int):=f;omega
  obtain⟨a,P,_,w⟩:=(H.upd q fun _ h=>h.elim).at (ax f)
  obtain⟨V,q2⟩:=sm.ps.2 _ (bV f);have J:=Eu f;generalize d.ps[i]=p at w V q2 J;refine⟨⟨by simp only;omega,by simp only;omega⟩,a,P,p.1,?_,p.2,?_,pe fun h2 b2 k2=>dd (c:= [.string ⟨#[]⟩,.string ⟨#[]⟩]) (vs:=jz p) b2 rfl fun Z b3 R=>⟨_,vc b3 0,_,vc b3 1,wY (by omega) fun h4 G=>⟨vc (G.get0 b3) 1,wY (by omega) fun L S=>pe fun Q T X=>?_⟩⟩⟩
  ·simp only[ak];exact w 0 _ rfl
  ·simp only[ak];exact w 1 _ rfl
  have k3:Upd No h' Z:=k2.own R (au _);have j:=((k3.tr G).tr S).tr X;have N:=q.size;have o2:OwnS BT 1 cn (fun _=>True) Q ⟨some (aH L),2,2⟩ [eE p.1,eE p.2]:=⟨rfl,ym,au _,.inr ⟨L.size,[],rfl,trivial,T,rfl⟩⟩
  refine⟨_,(o2.sl (W:=No) fun _ _ _ h=>h).srow,AppP.own (ys:= [eE p.1,eE p.2]) (u.upd j fun _ _ h=>h) rfl rfl (FO _) rfl (by omega) ?_ (by have:=j.size;omega) fun s' Y o7 O=>?_⟩
  ·rw[Cd];simp only[aY,ay,bN];omega
  ·show I (s',ac .i64 ((i:Int)+1)) Y
   rw[cM f (by omega)];refine hI (i+1) _ _ ⟨rfl,f,?_,(q.tr j).trans O fun y hy=>.inr hy⟩ (by omega)
   rw[J,M1];exact o7
 ·have hi:i=d.ps.length:=by have:¬(i:Int)<(sp.len:Int):=x;omega
  rw[hi,bG]at u;exact U h' so u q
theorem OT(sm:SmallD d)(hc:Sl sg 5 No h sc d.cs){K:SliceV×Bool→ad→Prop}(U:∀h' s l,ma d.cs=some l→OwnS BT 1 cn (fun y=>h.size≤y) h' s l→Upd No h h'→K (s,true) h')(C:ma d.cs=none→∀h',Upd No h h'→K (⟨none,0,0⟩,false) h'):
  LoopP (fun(B:SliceV×Int→ad→Prop) (f:SliceV×Int) b=>CondP (decide (f.2<(sc.len:Int))) (
      Join (fun(w:SliceV) v=>B (w,ac .i64 (f.2+1)) v) (fun E=>
       (((0:Int)≤f.2∧f.2<((sc.len:Nat):Int))∧∃a96:Addr,sc.a=some a96∧
        ∃v97:ByteArray,aD b (adr (adr a96 (f.2.toNat*5)) 0)=some (.string v97)∧
        ∃v98:ByteArray,aD b (adr (adr a96 (f.2.toNat*5)) 1)=some (.string v98)∧
        ∃v99:ByteArray,aD b (adr (adr a96 (f.2.toNat*5)) 2)=some (.string v99)∧
        ∃v100:Bool,aD b (adr (adr a96 (f.2.toNat*5)) 3)=some (.bool v100)∧
        ∃v101:Bool,aD b (adr (adr a96 (f.2.toNat*5)) 4)=some (.bool v101)∧
        At (hnew b [.string (⟨#[]⟩:ByteArray),.string (⟨#[]⟩:ByteArray),.string (⟨#[]⟩:ByteArray),.bool false,.bool false] cx) (fun p=>
         (sN p (some (aH b)) 0 [.string v97,.string v98,.string v99,.bool v100,.bool v101]∧
          At (ib p (aH b) 0 [.string v97,.string v98,.string v99,.bool v100,.bool v101]) (fun j=>
           ∃v104:ByteArray,aD j (adr (aH b) 0)=some (.string v104)∧
           ∃v105:ByteArray,aD j (adr (aH b) 1)=some (.string v105)∧
           ∃v106:ByteArray,aD j (adr (aH b) 2)=some (.string v106)∧
           ∃v107:Bool,aD j (adr (aH b) 3)=some (.bool v107)∧
           ∃v108:Bool,aD j (adr (aH b) 4)=some (.bool v108)∧
           HC PG sH [.agg #[.string v104,.string v105,.string v106,.bool v107,.bool v108]] [.c .slice,.c .bool] (fun(m:SliceV×Bool) n=>
            CondP (!m.2) (
             K (⟨none,0,0⟩,false) n) (
             ∃xs111,SRow n m.1.a (m.1.len*1) xs111∧
             AppP (some [.string (⟨#[]⟩:ByteArray)]) 1 16 cn f.1.a f.1.len f.1.cap m.1.len xs111 n (fun z A=>
              E z A))) j)))))) (
      K (f.1,true) b)) (⟨none,0,0⟩,0) h:=by
 have hl:=hc.len;have hn:=sm.cs.1;refine LoopP.ghost (fun(g:Nat×List (List UInt8)) (t:SliceV×Int) h'=>t.2=(g.1:Int)∧g.1≤d.cs.length∧ma (d.cs.take g.1)=some g.2∧OwnS BT 1 cn (fun y=>h.size≤y) h' t.1 g.2∧Upd No h h') (fun g=>d.cs.length-g.1) (0,[]) ⟨rfl,bc _,rfl,OwnS.nil ym,Upd.refl _ _⟩ ?_
 rintro I ⟨i,ws⟩ ⟨so,ti⟩ h' ⟨e1,hi,u,H,x⟩ Z;simp only at e1 hi u H;subst e1;refine aF (fun k=>Join.plain ?_) fun D=>?_
 ·have k:i<d.cs.length:=by have:(i:Int)<(sc.len:Int):=k;omega
  obtain⟨a,S,_,q⟩:=(hc.upd x fun _ h=>h.elim).at (ax k)
  obtain⟨N,O,J⟩:=sm.cs.2 _ (bV k);have F:=Eu k;have hd:d.cs=d.cs.take i++([d.cs[i]]++d.cs.drop (i+1)):=by rw[←aK,←F,List.take_append_drop]
  generalize d.cs[i]=c at q N O J F hd;refine⟨⟨by simp only;omega,by simp only;omega⟩,a,S,c.1,?_,c.2.1,?_,c.2.2.1,?_,c.2.2.2.1,?_,c.2.2.2.2,?_,pe fun h2 b2 k2=>dd (c:= [.string ⟨#[]⟩,.string ⟨#[]⟩,.string ⟨#[]⟩,.bool false,.bool false]) (vs:=sg c) b2 rfl fun X b3 T=>⟨_,vc b3 0,_,vc b3 1,_,vc b3 2,_,vc b3 3,_,vc b3 4,Pa N O J fun h4 s4 L Q=>?_⟩⟩
  ·simp only[ak];exact q 0 _ rfl
  ·simp only[ak];exact q 1 _ rfl
  ·simp only[ak];exact q 2 _ rfl
  ·simp only[ak];exact q 3 _ rfl
  ·simp only[ak];exact q 4 _ rfl
  have k3:Upd No h' X:=k2.own T (au _);have o:=k3.tr Q;have P:=x.size;have z34:=o.size;cases e:iq c.2.1 c.2.2.2.1&&iq c.2.2.1 c.2.2.2.2 with
  |false=>
   refine aA.2 (C ?_ h4 (x.tr o));have G:ma ([c]++d.cs.drop (i+1))=none:=by
    show ma (c::d.cs.drop (i+1))=none
    unfold ma Xh;rw[e];rfl
   rw[hd,Hx,G,u]
  |true=>
   have l4:=L.len;refine af.2 ⟨_,(L.sl (W:=No) fun _ _ _ h=>h).srow,AppP.own (ys:= [eE c.1,ip c.2.1 c.2.2.2.1,ip c.2.2.1 c.2.2.2.2]) (H.upd o fun _ _ h=>h) l4 rfl (FO _) rfl (by omega) ?_ (by omega) fun s' V Y R=>?_⟩
   ·have:=Hw _ _ u
    rw[aY]at this;simp only[ay,bN];omega
   ·show I (s',ac .i64 ((i:Int)+1)) V
    rw[cM k (by omega)];refine Z (i+1,_) _ _ ⟨rfl,k,?_,Y,(x.tr o).trans R fun y hy=>.inr hy⟩ (by simp only;omega)
    have G:ma [c]=some [eE c.1,ip c.2.1 c.2.2.2.1,ip c.2.2.1 c.2.2.2.2]:=by
     unfold ma Xh;rw[e];rfl
    show ma (d.cs.take (i+1))=_
    rw[F,Hx,u,G]
 ·have hi:i=d.cs.length:=by have:¬(i:Int)<(sc.len:Int):=D;omega
  rw[hi,bG]at u;exact U h' so ws u H x
theorem RM{p:UInt8}(P:p∈kp)(sm:SmallD d)(J:Sl jz 2 No h sp d.ps)(I:Sl sg 5 No h sc d.cs)(l:Laid h){K:SliceV×Bool→ad→Prop}(n:∀h' s ws,BS p d=some ws→OwnS BT 1 cn (fun y=>h.size≤y) h' s ws→Upd No h h'→K (s,true) h')(u:BS p d=none→∀h' s,Upd No h h'→K (s,false) h'):
  HC PG xf [ON (pY d sp sc),.int .i32 (p.toNat:Int)] [.c .slice,.c .bool] K h:=by
 have nm:∀{x:ByteArray} {F f:ad} {b:Nat},Upd No h F→Upd No F f→f[b]? =some (.cells #[.string x] cn (0,0))→h.size≤b→(∀y,fj x=y→BS p d=if y then some [x.data.toList]else none)→K (⟨some ⟨b,0,none⟩,1,1⟩,fj x) f:=by
  intro x F f b k1 a v E S;cases e:fj x with
  |true=>exact n _ _ _ (by rw[S _ e];rfl) (BX v E) (k1.tr a)
  |false=>exact u (by rw[S _ e];rfl) _ _ (k1.tr a)
 refine LU (pY d sp sc) (p.toNat:Int) ?_;unfold Di cU aj bJ ah aZ aL nv DR Av bP cJ iA ez uf nO Wh BZ;refine pe fun F b1 k1=>?_
 have m:=k1.size;have G:=l.upd0 k1;simp only[ar,bU,or_false]at P;rcases P with rfl|rfl|rfl|rfl|rfl|rfl|rfl|rfl|rfl|rfl|rfl
 ·refine CondP.intro (fun _=>?_) fun e=>absurd e (by decide)
  refine⟨_,vc b1 1,_,vc b1 1,pe fun f b2 a=>⟨vc (a.get0 b1) 1,sQ fun g c=>nm (k1.tr a) c (c.get0 b2) m fun y j=>?_⟩,sQ fun f a=>⟨vc (a.get0 b1) 1,pe fun g b3 c=>nm (k1.tr a) c b3 (bv m a.size) fun y j=>?_⟩⟩
  ·subst j;rfl
  ·subst j;rfl
 ·refine CondP.intro (fun e=>absurd e (by decide)) fun _=>CondP.intro (fun _=>?_) fun e=>absurd e (by decide)
  refine⟨_,vc b1 2,_,vc b1 2,pe fun f b2 a=>⟨vc (a.get0 b1) 2,sQ fun g c=>nm (k1.tr a) c (c.get0 b2) m fun y j=>?_⟩,sQ fun f a=>⟨vc (a.get0 b1) 2,pe fun g b3 c=>nm (k1.tr a) c b3 (bv m a.size) fun y j=>?_⟩⟩
  ·subst j;rfl
  ·subst j;rfl
 ·refine CondP.intro (fun e=>absurd e (by decide)) fun _=>CondP.intro (fun e=>absurd e (by decide)) fun _=>CondP.intro (fun _=>?_) fun e=>absurd e (by decide)
  exact⟨_,vc b1 3,wY (show d.key.size≤1000000 by have:=sm.key;omega) fun f a=>pe fun g b3 c=>n _ _ _ rfl (BX b3 (bv m a.size)) ((k1.tr a).tr c)⟩
 ·refine CondP.intro (fun e=>absurd e (by decide)) fun _=>CondP.intro (fun e=>absurd e (by decide)) fun _=>CondP.intro (fun e=>absurd e (by decide)) fun _=>CondP.intro (fun _=>?_) fun e=>absurd e (by decide)
  exact⟨_,vc b1 4,wY (show d.v.size≤1000000 by have:=sm.v;omega) fun f a=>pe fun g b3 c=>n _ _ _ rfl (BX b3 (bv m a.size)) ((k1.tr a).tr c)⟩
 ·refine CondP.intro (fun e=>absurd e (by decide)) fun _=>CondP.intro (fun e=>absurd e (by decide)) fun _=>CondP.intro (fun e=>absurd e (by decide)) fun _=>CondP.intro (fun e=>absurd e (by decide)) fun _=>CondP.intro (fun _=>?_) fun e=>absurd e (by decide)
  refine⟨_,vc b1 5,?_⟩;obtain⟨Y,W,_,_⟩:=sm.num;rw[show ac .u64 (pY d sp sc).2.2.2.2.2.1=((d.i.toNat:Nat):Int)from by show ac .u64 d.i=_;rw[dW];omega]
  exact qF (by omega) G.tab fun f a=>pe fun g b3 c=>n _ _ _ rfl (BX b3 (bv m a.size)) ((k1.tr a).tr c)
 ·refine CondP.intro (fun e=>absurd e (by decide)) fun _=>CondP.intro (fun e=>absurd e (by decide)) fun _=>CondP.intro (fun e=>absurd e (by decide)) fun _=>CondP.intro (fun e=>absurd e (by decide)) fun _=>CondP.intro (fun e=>absurd e (by decide)) fun _=>CondP.intro (fun _=>?_) fun e=>absurd e (by decide)
  refine⟨_,vc b1 6,?_⟩;obtain⟨_,_,Y,W⟩:=sm.num;rw[show ac .u64 (pY d sp sc).2.2.2.2.2.2.1=((d.t.toNat:Nat):Int)from by show ac .u64 d.t=_;rw[dW];omega]
  exact qF (by omega) G.tab fun f a=>pe fun g b3 c=>n _ _ _ rfl (BX b3 (bv m a.size)) ((k1.tr a).tr c)
 ·refine CondP.intro (fun e=>absurd e (by decide)) fun _=>CondP.intro (fun e=>absurd e (by decide)) fun _=>CondP.intro (fun e=>absurd e (by decide)) fun _=>CondP.intro (fun e=>absurd e (by decide)) fun _=>CondP.intro (fun e=>absurd e (by decide)) fun _=>CondP.intro (fun e=>absurd e (by decide)) fun _=>CondP.intro (fun _=>?_) fun e=>absurd e (by decide)
  refine⟨_,vc b1 7,_,vc b1 7,Kb sm.s.1 sm.s.2 G.tab fun x f hx a=>?_⟩
  have i:∀{g q:ad} {b:Nat},Upd No f g→Upd No g q→q[b]? =some (.cells #[.string x] cn (0,0))→h.size≤b→K (⟨some ⟨b,0,none⟩,1,1⟩,cY d.s) q:=by
   intro g q b c A v E;have D:=((k1.tr a).tr c).tr A;cases e:cY d.s with
   |true=>
    have e2:=e;simp only[cY,aJ,decide_eq_true_eq]at e2;rw[hx e2.1]at v;exact n _ _ _ (by show(if cY d.s then some [dJ d.s.toNat]else none)=_;rw[e];rfl) (BX v E) D
   |false=>exact u (by show(if cY d.s then some [dJ d.s.toNat]else none)=_;rw[e];rfl) _ _ D
  have Q:=a.size;exact⟨vc (a.get0 b1) 7,pe fun g b3 c=>⟨vc ((a.tr c).get0 b1) 7,wQ (i c (Upd.refl _ _) b3 (by omega))⟩,wQ (pe fun g b3 c=>i (Upd.refl _ _) c b3 (by omega))⟩
 ·refine CondP.intro (fun e=>absurd e (by decide)) fun _=>CondP.intro (fun e=>absurd e (by decide)) fun _=>CondP.intro (fun e=>absurd e (by decide)) fun _=>CondP.intro (fun e=>absurd e (by decide)) fun _=>CondP.intro (fun e=>absurd e (by decide)) fun _=>CondP.intro (fun e=>absurd e (by decide)) fun _=>CondP.intro (fun e=>absurd e (by decide)) fun _=>CondP.intro (fun _=>?_) fun e=>absurd e (by decide)
  refine⟨_,vc b1 8,_,vc b1 8,Kb sm.w.1 sm.w.2 G.tab fun x f hx a=>?_⟩
  have i:∀{g q:ad} {b:Nat},Upd No f g→Upd No g q→q[b]? =some (.cells #[.string x] cn (0,0))→h.size≤b→K (⟨some ⟨b,0,none⟩,1,1⟩,cY d.w) q:=by
   intro g q b c A v E;have D:=((k1.tr a).tr c).tr A;cases e:cY d.w with
   |true=>
    have e2:=e;simp only[cY,aJ,decide_eq_true_eq]at e2;rw[hx e2.1]at v;exact n _ _ _ (by show(if cY d.w then some [dJ d.w.toNat]else none)=_;rw[e];rfl) (BX v E) D
   |false=>exact u (by show(if cY d.w then some [dJ d.w.toNat]else none)=_;rw[e];rfl) _ _ D
  have Q:=a.size;exact⟨vc (a.get0 b1) 8,pe fun g b3 c=>⟨vc ((a.tr c).get0 b1) 8,wQ (i c (Upd.refl _ _) b3 (by omega))⟩,wQ (pe fun g b3 c=>i (Upd.refl _ _) c b3 (by omega))⟩
 ·refine CondP.intro (fun e=>absurd e (by decide)) fun _=>CondP.intro (fun e=>absurd e (by decide)) fun _=>CondP.intro (fun e=>absurd e (by decide)) fun _=>CondP.intro (fun e=>absurd e (by decide)) fun _=>CondP.intro (fun e=>absurd e (by decide)) fun _=>CondP.intro (fun e=>absurd e (by decide)) fun _=>CondP.intro (fun e=>absurd e (by decide)) fun _=>CondP.intro (fun e=>absurd e (by decide)) fun _=>CondP.intro (fun _=>?_) fun e=>absurd e (by decide)
  refine⟨_,Aa b1 10 1,wY (show d.up.size≤1000000 by have:=sm.up;omega) fun f a=>?_⟩
  have b2:=a.get0 b1;have Q:=a.size;have z:∀to:List UInt8,to=(if d.op then[42]else eE d.up)→Join (fun(H:ByteArray) C=>
     ∃v65:ByteArray,aD C (adr (adr (aH h) 10) 0)=some (.string v65)∧
     HC PG fP [.string v65] [.c .str] (fun(N:ByteArray) w=>
      At (hnew w [.string N,.string (aG to),.string H] cn) (fun L=>
       K (⟨some (aH w),3,3⟩,true) L)) C) (fun B=>
     ∃v62:Bool,aD f (adr (aH h) 9)=some (.bool v62)∧
     CondP v62 (
      B (⟨#[100,111,119,110]⟩:ByteArray) f) (
      B (⟨#[117,112]⟩:ByteArray) f)):=by
   intro to O;refine Join.intro (fun(t:ByteArray) h'=>h'=f∧t=aG (if d.back then ig else FL)) (fun R T=>⟨d.back,vc b2 9,?_⟩) ?_
   ·cases e:d.back with
    |true=>exact aA.2 (T _ _ ⟨rfl,by rw[e];rfl⟩)
    |false=>exact af.2 (T _ _ ⟨rfl,by rw[e];rfl⟩)
   ·rintro t h' ⟨rfl,rfl⟩
    refine⟨_,Aa b2 10 0,wY (show d.fr.size≤1000000 by have:=sm.fr;omega) fun g c=>pe fun q U A=>?_⟩
    subst O;exact n _ _ _ rfl (Xt U (by have:=c.size;omega)) (((k1.tr a).tr c).tr A)
  refine Join.plain ⟨d.op,Aa b2 10 2,?_⟩;cases e:d.op with
  |true=>exact aA.2 (z [42] (by rw[e];rfl))
  |false=>exact af.2 (z (eE d.up) (by rw[e];rfl))
 ·refine CondP.intro (fun e=>absurd e (by decide)) fun _=>CondP.intro (fun e=>absurd e (by decide)) fun _=>CondP.intro (fun e=>absurd e (by decide)) fun _=>CondP.intro (fun e=>absurd e (by decide)) fun _=>CondP.intro (fun e=>absurd e (by decide)) fun _=>CondP.intro (fun e=>absurd e (by decide)) fun _=>CondP.intro (fun e=>absurd e (by decide)) fun _=>CondP.intro (fun e=>absurd e (by decide)) fun _=>CondP.intro (fun e=>absurd e (by decide)) fun _=>CondP.intro (fun _=>?_) fun e=>absurd e (by decide)
  exact⟨sp,vc b1 13,OQ sm (J.upd k1 fun _ h=>h.elim) fun h' s o k=>n h' s _ rfl (o.more fun y j=>bv m j) (k1.tr k)⟩
 ·refine CondP.intro (fun e=>absurd e (by decide)) fun _=>CondP.intro (fun e=>absurd e (by decide)) fun _=>CondP.intro (fun e=>absurd e (by decide)) fun _=>CondP.intro (fun e=>absurd e (by decide)) fun _=>CondP.intro (fun e=>absurd e (by decide)) fun _=>CondP.intro (fun e=>absurd e (by decide)) fun _=>CondP.intro (fun e=>absurd e (by decide)) fun _=>CondP.intro (fun e=>absurd e (by decide)) fun _=>CondP.intro (fun e=>absurd e (by decide)) fun _=>CondP.intro (fun e=>absurd e (by decide)) fun _=>?_
  exact⟨sc,vc b1 14,OT sm (I.upd k1 fun _ h=>h.elim) (fun h' s ws V o k=>n h' s ws V (o.more fun y j=>bv m j) (k1.tr k)) fun X h' k=>u X h' _ (k1.tr k)⟩
end
end Go.Proofs
