/- A part of the proof that the named laws of this program answer true, whatever the input. -/
import Derived.Test.YtncppacbfagpgaaGreatDoorPart10
import Derived.Test.YtncppacbfagpgaaGreatDoorPart9
import Derived.Test.YtncppacbfagpgaaGreatDoorPart8
import Derived.Test.YtncppacbfagpgaaGreatDoorPart4
import Derived.Sort.AssemblyPlain
open BitVec renaming ofInt→av
open Bool renaming false_or→tD,and_eq_true→bK
open ByteArray renaming mk→mP
open List renaming getElem?_eq_getElem→af,getElem_mem→aZ,any_eq_true→cy,take_succ_eq_append_getElem→aX,take_length→bS,pairwise_singleton→cx,getElem_of_mem→bC,length_take→aH,getElem_take→jI,pairwise_iff_getElem→ce,mem_cons_self→aw,mem_cons_of_mem→aB,take_of_length_le→bm,drop_length→mc,take_take→ip
open Nat renaming zero_le→aS,le_refl→al,min_eq_right→g9,min_eq_left→bJ,le_trans→bj,lt_of_lt_of_le→aC,lt_or_ge→bW,testBit_zero→ma,testBit_succ→jj,eq_zero_or_pos→cE,zero_testBit→g7,testBit_and→jP
namespace Go.Proofs
open Go Go.Lift
theorem OT(k o n:ByteArray):qW (k,o,n,false,true)=decide (o=⟨#[]⟩):=by simp[qW]
theorem OQ(k o n:ByteArray):qW (k,o,n,true,false)=decide (n=⟨#[]⟩):=by simp[qW]
theorem OO(k o n:ByteArray):qW (k,o,n,true,true)= !decide (o=n):=by simp[qW]
theorem Se{c:Ch}{h:ae}{K:Bool→ae→Prop}(a:∀h',Upd No h h'→K (qW c) h'):HC PG pv [.agg #[.string c.1,.string c.2.1,.string c.2.2.1,.bool c.2.2.2.1,.bool c.2.2.2.2]] [.c .bool] K h:=by
 refine Ba c ?_;unfold uK ax dh WN;refine aW fun b b1 k1=>?_
 obtain⟨k,o,n,w,i⟩:=c;have a:=a b k1;refine Join.plain ?_;cases w<;>cases i
 ·exact⟨false,vc b1 3,au.2 ⟨false,vc b1 4,au.2 (au.2 a)⟩⟩
 ·rw[OT]at a
  refine⟨false,vc b1 3,au.2 ⟨true,vc b1 4,aj.2 ⟨false,vc b1 3,aj.2 (aj.2 ⟨false,vc b1 3,aj.2 ⟨o,vc b1 1,?_⟩⟩)⟩⟩⟩;rw[ey];cases e:decide (o=⟨#[]⟩)with
  |true=>rw[e]at a;exact au.2 ⟨true,vc b1 4,au.2 a⟩
  |false=>rw[e]at a;exact aj.2 a
 ·rw[OQ]at a
  refine⟨true,vc b1 3,aj.2 ⟨true,vc b1 3,au.2 ⟨false,vc b1 4,aj.2 (aj.2 ⟨true,vc b1 3,au.2 ⟨false,vc b1 4,aj.2 ⟨n,vc b1 2,?_⟩⟩⟩)⟩⟩⟩;rw[ey];exact a
 ·rw[OO]at a
  refine⟨true,vc b1 3,aj.2 ⟨true,vc b1 3,au.2 ⟨true,vc b1 4,au.2 ⟨o,vc b1 1,n,vc b1 2,?_⟩⟩⟩⟩;rw[ey];cases e:decide (o=n)with
  |true=>rw[e]at a;exact au.2 a
  |false=>rw[e]at a;exact aj.2 ⟨true,vc b1 3,au.2 ⟨true,vc b1 4,au.2 a⟩⟩
theorem DF{W:Nat→Prop}{h:ae}{s:SliceV}{l:List Ch}{f:Value}{p:Ch→Bool}(n:Sl pk 5 W h s l)(x:l.length≤1000000)
  (hv:∀c∈l,∀h',Upd No h h'→∀{K':Bool→ae→Prop},(∀h'',Upd No h' h''→K' (p c) h'')→HV PG f [.agg #[.string c.1,.string c.2.1,.string c.2.2.1,.bool c.2.2.2.1,.bool c.2.2.2.2]] [.c .bool] K' h')
  {K:Bool→ae→Prop}(o:∀h',Upd No h h'→K (l.any p) h'):HC PG dg [.slice s.a s.len s.cap,f] [.c .bool] K h:=by
 refine lx s f ?_;unfold gA;refine l8 s f ?_;unfold g5 cl aK cD Hb;have y:=n.len;refine LoopP.ghost (fun(i:Nat) (t:Int) h'=>t=(i:Int)∧i≤l.length∧(l.take i).any p=false∧Upd No h h') (fun i=>l.length-i) 0 ⟨rfl,aS _,rfl,Upd.refl _ _⟩ ?_
 rintro I i t h' ⟨rfl,hi,g,e⟩ w;refine az (fun b=>?_) fun v=>?_
 ·have b:i<l.length:=by omega
  obtain⟨a,j,_,d⟩:=(n.upd e fun _ h=>h.elim).at (af b)
  refine⟨⟨by omega,by omega⟩,a,j,_,d 0 _ rfl,_,d 1 _ rfl,_,d 2 _ rfl,_,d 3 _ rfl,_,d 4 _ rfl,?_⟩
  refine hv l[i] (aZ b) h' e fun h2 q=>?_
  refine CondP.intro (fun k=>?_) fun k=>?_
  ·have u:l.any p=true:=cy.2 ⟨_,aZ b,k⟩
   have:=o h2 (e.tr q);rw[u]at this;show K (decide ((i:Int)≥0)) h2
   rw[show decide ((i:Int)≥0)=true from decide_eq_true (by omega)]
   exact this
  ·rw[fy b (by omega)]
   refine w (i+1) _ _ ⟨rfl,b,?_,e.tr q⟩ (by omega);rw[aX b,List.any_append,g,tD];simpa using k
 ·have m:i=l.length:=by omega
  rw[m,bS]at g;have:=o h' e;rw[g]at this;exact this
theorem Pg{h:ae}(c:Ch){K:Bool→ae→Prop}(b:∀h',Upd No h h'→K (!qW c) h'):HV PG (.func (.func vl) #[] #[]) [.agg #[.string c.1,.string c.2.1,.string c.2.2.1,.bool c.2.2.2.1,.bool c.2.2.2.2]] [.c .bool] K h:=by
 refine⟨.inl ⟨_,#[],#[],rfl,?_⟩⟩;refine Jn c ?_;unfold Ak ax dh WN Hb;refine aW fun d b1 k1=>⟨_,vc b1 0,_,vc b1 1,_,vc b1 2,_,vc b1 3,_,vc b1 4,?_⟩
 exact Se fun h2 a=>b h2 (k1.tr a)
def qj(l:List Ch):Int:=if sO l then(if l.any (fun c=> !qW c)then 1 else 0)else 13
def Fs(l:List Ch):Prop:=∀c∈l,c.1.size≤256∧c.2.1.size≤4096∧c.2.2.1.size≤4096
theorem H6{l:List Ch}{g:Nat}(n:0<g)(m:g<l.length)(c:sO (l.take g))(d:kl (l[g-1]'(by omega)).1 l[g].1):sO (l.take (g+1)):=by
 rw[aX m];refine List.pairwise_append.2 ⟨c,cx ..,fun a i b f=>?_⟩
 rw[List.mem_singleton.1 f];obtain⟨j,k,rfl⟩:=bC i;rw[aH]at k;rw[jI];by_cases e:j=g-1
 ·subst e;exact d
 ·have:=ce.1 c j (g-1) (by rw[aH];omega) (by rw[aH];omega) (by omega)
  rw[jI,jI]at this;exact gJ this d
theorem F3{l:List Ch}{g:Nat}(b:g≤1):sO (l.take g):=by
 match l,g,b with
 | [],_,_=>rw[List.take_nil];exact .nil
 |a::l,0,_=>exact .nil
 |a::l,1,_=>exact cx ..
theorem LK{l:List Ch}{i j:Nat}(a:i<j)(c:j<l.length)(h:¬kl (l[i]'(by omega)).1 l[j].1):¬sO l:=fun b=>h (ce.1 b i j (by omega) c a)
def CZ(c:Ch):Int:=if Hf (c.1,c.2.1)≠0 then Hf (c.1,c.2.1)else Hf (c.1,c.2.2.1)
theorem Tk{c:Ch}(h:Hf (c.1,c.2.1)≠0):CZ c=Hf (c.1,c.2.1):=if_pos h
theorem CY{c:Ch}(h:Hf (c.1,c.2.1)=0):CZ c=Hf (c.1,c.2.2.1):=if_neg fun e=>e h
def qS:List Ch→Int
 | []=>0
 |c::l=>if CZ c≠0 then CZ c else qS l
def mD(l:List Ch):Int:=if qj l≠0 then qj l else qS l
theorem FZ{l:List Ch}{i:Nat}(hi:i<l.length):qS (l.drop i)=if CZ l[i]≠0 then CZ l[i]else qS (l.drop (i+1)):=by
 rw[List.drop_eq_getElem_cons hi];rfl
theorem CX:∀{l:List Ch},Fs l→qS l=0
 | [],_=>rfl
 |c::l,h=>by
  obtain⟨d,h2,b⟩:=h c (aw ..);have e:CZ c=0:=by
   have a:∀{v:ByteArray},v.size≤4096→Hf (c.1,v)=0:=fun h=>by
    unfold Hf;rw[if_neg (by simp only;omega),if_neg (by simp only;omega)]
   rw[CY (a h2),a b]
  unfold qS;rw[e,if_neg (by decide)];exact CX fun c hc=>h c (aB _ hc)
theorem FY:∀{l:List Ch},qS l=0→Fs l
 | [],_=>fun _ h=>by cases h
 |c::l,h=>by
  unfold qS at h;split at h
  ·rename_i e;exact absurd h e
  rename_i e;have e:CZ c=0:=Decidable.not_not.1 e;intro d hd;rcases List.mem_cons.1 hd with rfl|hd
  ·unfold CZ at e
   split at e
   ·rename_i e';exact absurd e e'
   ·rename_i e'
    have a:=Ly (Decidable.not_not.1 e');have h2:=Ly e;exact⟨a.1,a.2,h2.2⟩
  ·exact FY h d hd
theorem MY{l:List Ch}(h:Fs l):mD l=qj l:=by
 unfold mD;rw[CX h];by_cases e:qj l=0
 ·rw[if_neg (fun h=>h e),e]
 ·rw[if_pos e]
theorem xf{W:Nat→Prop}{h:ae}{s:SliceV}{l:List Ch}(m:Sl pk 5 W h s l)(M:l.length≤1000000){K:Int→ae→Prop}(f:∀h',Upd No h h'→K (mD l) h'):HC PG ru [.slice s.a s.len s.cap] [.c (.int .i64)] K h:=by
 refine N1 s ?_;unfold Et bI cl aK nv J0 ax hP cD AV;have O:=m.len;refine LoopP.ghost (fun(i:Nat) (t:Int) h'=>t=(i:Int)∧1≤i∧i≤max 1 l.length∧sO (l.take i)∧h'=h) (fun i=>l.length-i) 1 ⟨rfl,al _,by omega,F3 (al _),rfl⟩ ?_
 rintro I i t h' ⟨rfl,z,hi,x,rfl⟩ H;refine az (fun b=>?_) fun C=>?_
 ·have b:i<l.length:=by omega
  have J:IntKind.wrap .i64 ((i:Int)-1)=((i-1:Nat):Int):=by rw[fx (by omega)];omega
  rw[J];obtain⟨a,v,_,hv⟩:=m.at (i:=i-1) (af (by omega));obtain⟨a',y,_,A⟩:=m.at (i:=i) (af b);refine⟨⟨by omega,by omega⟩,a,v,_,hv 0 _ rfl,⟨by omega,by omega⟩,a',y,_,A 0 _ rfl,?_⟩
  refine CondP.intro (fun u=>?_) fun u=>?_
  ·have:¬sO l:=LK (i:=i-1) (j:=i) (by omega) b fun h=>by unfold kl at h;rw[h]at u;cases u
   have f:=f h' (Upd.refl _ _);unfold mD qj at f;rw[if_neg this]at f;exact f
  ·rw[fy b (by omega)]
   exact H (i+1) _ _ ⟨rfl,by omega,by omega,H6 z b x (by unfold kl;simpa using u),rfl⟩ (by omega)
 ·have B:l.take i=l:=bm (by omega)
  rw[B]at x;unfold mD qj at f;rw[if_pos x]at f;refine DF m M (fun c _ n _ P w=>Pg c w) fun n k1=>?_
  have f:=fun h2 (G:Upd No n h2)=>f h2 (k1.tr G)
  cases ea:l.any (fun c=> !qW c)with
  |true=>rw[ea]at f;exact au.2 (f n (Upd.refl _ _))
  |false=>
   rw[ea]at f;refine aj.2 ?_;have f:∀h2,Upd No n h2→K (qS l) h2:=f;refine LoopP.ghost (fun(i:Nat) (t:Int) h'=>t=(i:Int)∧i≤l.length∧qS (l.drop i)=qS l∧Upd No n h') (fun i=>l.length-i) 0 ⟨rfl,aS _,rfl,Upd.refl _ _⟩ ?_
   rintro Q j t L ⟨rfl,N,d,o⟩ D;refine az (fun b=>?_) fun C=>by
    have e:j=l.length:=by omega
    rw[e,mc]at d;have:=f L o;rw[←d]at this;exact this
   have b:j<l.length:=by omega
   obtain⟨a,v,_,hv⟩:=(m.upd (k1.tr o) fun _ h=>h.elim).at (af b)
   refine⟨⟨by omega,by omega⟩,a,v,_,hv 0 _ rfl,_,hv 1 _ rfl,_,hv 2 _ rfl,_,hv 3 _ rfl,_,hv 4 _ rfl,?_⟩
   refine Im (c:=l[j]) fun F q E=>?_
   rw[FZ b]at d;have g:=f F (o.tr E);refine⟨_,vc q 0,_,vc q 1,Ty (p:=(l[j].1,l[j].2.1)) (CondP.intro (fun e=>?_) fun e=>⟨_,vc q 0,_,vc q 2,Ty (p:=(l[j].1,l[j].2.2.1)) (CondP.intro (fun k=>?_) fun k=>?_)⟩)⟩
   ·have e:Hf (l[j].1,l[j].2.1)≠0:=by simpa using e
    rw[Tk e,if_pos e]at d;rw[←d]at g;exact g
   ·have e:Hf (l[j].1,l[j].2.1)=0:=by simpa using e
    have k:Hf (l[j].1,l[j].2.2.1)≠0:=by simpa using k
    rw[CY e,if_pos k]at d;rw[←d]at g;exact g
   ·have e:Hf (l[j].1,l[j].2.1)=0:=by simpa using e
    have k:Hf (l[j].1,l[j].2.2.1)=0:=by simpa using k
    rw[CY e,k,if_neg (by decide)]at d;rw[fy b (by omega)];exact D (j+1) _ _ ⟨rfl,b,d,o.tr E⟩ (by omega)
theorem Ny{W:Nat→Prop}{h:ae}{s:SliceV}{l:List Ch}(b:Sl pk 5 W h s l)(c:l.length≤1000000)(a:Fs l){K:Int→ae→Prop}(d:∀h',Upd No h h'→K (qj l) h'):HC PG ru [.slice s.a s.len s.cap] [.c (.int .i64)] K h:=
 xf b c fun h' k=>by rw[MY a];exact d h' k
theorem De{W:Nat→Prop}{h:ae}{s:SliceV}{l:List Ch}(E:Sl pk 5 W h s l)(hn:l.length≤1000000)(hz:∀c∈l,c.1.size≤1000000){K:Int→ae→Prop}(u:∀h',Upd No h h'→K (mD l) h'):HC PG wd [.slice s.a s.len s.cap] [.c (.int .i64)] K h:=by
 refine P3 s ?_;unfold Gx bI cl aK nv J0 ax hP cD dh AV;have hl:=E.len;refine LoopP.ghost (fun(i:Nat) (t:Int) h'=>t=(i:Int)∧i+1≤max 1 l.length∧sO (l.take (i+1))∧h'=h) (fun i=>l.length-i) 0 ⟨rfl,by omega,F3 (al _),rfl⟩ ?_
 rintro I i t h' ⟨rfl,hi,P,rfl⟩ hI;have e1:IntKind.wrap .i64 ((i:Int)+1)=((i+1:Nat):Int):=by rw[fx (by omega)];omega
 rw[e1];refine az (fun d=>?_) fun J=>?_
 ·have d:i+1<l.length:=by omega
  obtain⟨a,D,_,hv⟩:=E.at (i:=i) (af (by omega));obtain⟨a',Q,_,T⟩:=E.at (i:=i+1) (af d);have hz1:=hz _ (aZ (show i<l.length by omega))
  refine⟨⟨by omega,by omega⟩,a,D,_,hv 0 _ rfl,⟨by omega,by omega⟩,a',Q,_,T 0 _ rfl,?_⟩
  refine Ia (by omega) ?_;refine CondP.intro (fun B=>?_) fun B=>?_
  ·have:¬sO l:=LK (i:=i) (j:=i+1) (by omega) d (by simpa using B)
   have u:=u h' (Upd.refl _ _);unfold mD qj at u;rw[if_neg this]at u;exact u
  ·exact hI (i+1) _ _ ⟨rfl,by omega,H6 (by omega) d P (by simpa using B),rfl⟩ (by omega)
 ·have C:l.take (i+1)=l:=bm (by omega)
  rw[C]at P;unfold mD qj at u;rw[if_pos P]at u;refine LoopP.ghost (fun(i:Nat) (t:Int) y=>t=(i:Int)∧i≤l.length∧(l.take i).any (fun c=> !qW c)=false∧Upd No h' y) (fun i=>l.length-i) 0 ⟨rfl,aS _,rfl,Upd.refl _ _⟩ ?_
  rintro I2 j t h3 ⟨rfl,hj,x,M⟩ V;refine az (fun d=>?_) fun J=>?_
  ·have d:j<l.length:=by omega
   obtain⟨a,D,_,hv⟩:=(E.upd M fun _ h=>h.elim).at (af d)
   refine⟨⟨by omega,by omega⟩,a,D,_,hv 0 _ rfl,_,hv 1 _ rfl,_,hv 2 _ rfl,_,hv 3 _ rfl,_,hv 4 _ rfl,?_⟩
   refine Im (c:=l[j]) fun h4 f Y=>?_
   refine Join.intro (fun b N=>b=(!qW l[j])∧N=h4) (fun R v=>?_) ?_
   ·have v:=v _ _ ⟨rfl,rfl⟩
    generalize l[j]=c at v f;obtain⟨k,o,n,w,i⟩:=c;cases w<;>cases i
    ·exact⟨false,vc f 3,au.2 ⟨false,vc f 4,au.2 v⟩⟩
    ·rw[OT]at v
     refine⟨false,vc f 3,au.2 ⟨true,vc f 4,aj.2 ⟨false,vc f 3,aj.2 ⟨false,vc f 3,au.2 ⟨o,vc f 1,?_⟩⟩⟩⟩⟩;rw[ey];cases e:decide (o=⟨#[]⟩)with
     |true=>rw[e]at v;exact aj.2 ⟨true,vc f 4,aj.2 v⟩
     |false=>rw[e]at v;exact au.2 v
    ·rw[OQ]at v
     refine⟨true,vc f 3,aj.2 ⟨true,vc f 3,au.2 ⟨false,vc f 4,aj.2 ⟨true,vc f 3,aj.2 ⟨false,vc f 4,au.2 ⟨n,vc f 2,?_⟩⟩⟩⟩⟩⟩;rw[ey];exact v
    ·rw[OO]at v
     refine⟨true,vc f 3,aj.2 ⟨true,vc f 3,au.2 ⟨true,vc f 4,au.2 ⟨o,vc f 1,n,vc f 2,?_⟩⟩⟩⟩;rw[ey];cases e:decide (o=n)with
     |true=>rw[e]at v;exact au.2 v
     |false=>rw[e]at v;exact aj.2 ⟨true,vc f 3,aj.2 ⟨true,vc f 4,aj.2 v⟩⟩
   ·rintro b N ⟨rfl,rfl⟩
    refine CondP.intro (fun B=>?_) fun B=>?_
    ·have:l.any (fun c=> !qW c)=true:=cy.2 ⟨_,aZ d,B⟩
     have u:=u N (M.tr Y);rw[this]at u;exact u
    ·rw[fy d (by omega)]
     refine V (j+1) _ _ ⟨rfl,d,?_,M.tr Y⟩ (by omega);rw[aX d,List.any_append,x,tD];simpa using B
  ·have C:j=l.length:=by omega
   rw[C,bS]at x;rw[x]at u;have u:∀h2,Upd No h' h2→K (qS l) h2:=u;refine LoopP.ghost (fun(i:Nat) (t:Int) y=>t=(i:Int)∧i≤l.length∧qS (l.drop i)=qS l∧Upd No h' y) (fun i=>l.length-i) 0 ⟨rfl,aS _,rfl,M⟩ ?_
   rintro I3 m t h6 ⟨rfl,hm,g,A⟩ S;refine az (fun d=>?_) fun J=>by
    have e:m=l.length:=by omega
    rw[e,mc]at g;have:=u h6 A;rw[←g]at this;exact this
   have d:m<l.length:=by omega
   obtain⟨a,D,_,hv⟩:=(E.upd A fun _ h=>h.elim).at (af d)
   refine⟨⟨by omega,by omega⟩,a,D,_,hv 0 _ rfl,_,hv 1 _ rfl,_,hv 2 _ rfl,_,hv 3 _ rfl,_,hv 4 _ rfl,?_⟩
   refine Im (c:=l[m]) fun h7 X k7=>?_
   rw[FZ d]at g;refine⟨_,vc X 1,_,vc X 2,aW fun h8 b8 O=>?_⟩
   have c8:=O.get0 X;refine LoopP.ghost (fun(i:Nat) (t:Int) y=>t=(i:Int)∧i≤2∧(1≤i→Hf (l[m].1,l[m].2.1)=0)∧(2≤i→Hf (l[m].1,l[m].2.2.1)=0)∧y=h8) (fun i=>2-i) 0 ⟨rfl,aS _,fun h=>absurd h (by decide),fun h=>absurd h (by decide),rfl⟩ ?_
   rintro I4 q t h9 ⟨rfl,hq,L,U,rfl⟩ H;have z:=u h9 ((A.tr k7).tr O);refine az (fun G=>?_) fun Z=>?_
   ·have G:q<2:=by omega
    refine⟨⟨by omega,by omega⟩,_,rfl,?_⟩
    have hw:IntKind.wrap .i64 ((q:Int)+1)=((q+1:Nat):Int):=by rw[fx (by omega)];omega
    rw[hw];have F:q=0∨q=1:=by omega
    rcases F with rfl|rfl
    ·refine⟨_,vc b8 0,_,vc c8 0,Ts (p:=(l[m].1,l[m].2.1)) (CondP.intro (fun e=>?_) fun e=>H 1 _ _ ⟨rfl,by omega,fun _=>by simpa using e,fun h=>absurd h (by decide),rfl⟩ (by omega))⟩
     have e:Hf (l[m].1,l[m].2.1)≠0:=by simpa using e
     rw[Tk e,if_pos e]at g;rw[←g]at z;exact z
    ·have y:=L (al _)
     refine⟨_,vc b8 1,_,vc c8 0,Ts (p:=(l[m].1,l[m].2.2.1)) (CondP.intro (fun e=>?_) fun e=>H 2 _ _ ⟨rfl,by omega,fun _=>y,fun _=>by simpa using e,rfl⟩ (by omega))⟩
     have e:Hf (l[m].1,l[m].2.2.1)≠0:=by simpa using e
     rw[CY y,if_pos e]at g;rw[←g]at z;exact z
   ·have y:=L (by omega)
    have h2:=U (by omega);rw[CY y,h2,if_neg (by decide)]at g;rw[fy d (by omega)];exact S (m+1) _ _ ⟨rfl,d,g,(A.tr k7).tr O⟩ (by omega)
end Go.Proofs
namespace Go.Proofs
open Go Go.Lift
abbrev stF(s:ByteArray):List Value:= [.string s]
def vY(L:List Pr)(g:List ByteArray):List Pr:=(g.take 15).foldl (fun acc s=>nQ (uD s) acc) L
theorem Px{L:List Pr}{g:List ByteArray}{i:Nat}(hi:i<g.length)(a:i<15):vY L (g.take (i+1))=nQ (uD g[i]) (vY L (g.take i)):=by
 unfold vY;rw[ip,ip,g9 (by omega),g9 (by omega),aX hi,List.foldl_append];rfl
theorem Py{L:List Pr}{g:List ByteArray}{i:Nat}(a:15≤i):vY L (g.take (i+1))=vY L (g.take i):=by
 unfold vY;rw[ip,ip,bJ (by omega),bJ (by omega)]
theorem Few.del{n:Nat}{L:List Pr}(f:Few n L)(k:ByteArray):Few n (nQ k L):=⟨Lx f.up,bj Sa f.len,fun p a=>f.fit p (Hk.1 a).1⟩
theorem PF{n:Nat}{L:List Pr}(f:Few n L)(g:List ByteArray):Few n (vY L g):=by
 unfold vY;generalize g.take 15=m;induction m generalizing L with
 |nil=>exact f
 |cons s m ih=>rw[List.foldl_cons];exact ih (f.del _)
theorem OZ{W:Nat→Prop}{x:Hs}{h:ae}{a:Int}{r:Rt}{l:List Pr}(i:RefIs W h a x r l)(G:∀y,W y→y<h.size)(H:cf l)(L:Fit l)(F:l.length≤1000000)(k:ByteArray)(J:k.size≤256){K:Rt×Int→ae→Prop}
  (D:∀h' r' e,RefIs W h' a x r' (nQ k l)→Upd No h h'→K (r',e) h'):HC PG pL [Zr r,.string k] [.agg [.int .i64,.int .u64,.int .u64,.int .u64,.slice],.c (.int .i64)] K h:=by
 refine Bw r k ?_;unfold xm bw ag cT eJ db J9 GO Ow CM;refine aW fun A b1 k1=>aW fun h2 b2 B=>?_
 have P:=bD b1;have N:=bD b2;have z:h.size≤A.size:=k1.size;have b:=k1.tr B;have g:=B.get0 b1;obtain⟨s,rfl,q,hc⟩:=i;refine az (fun h=>absurd h (by omega)) fun _=>?_
 refine⟨s,vc g 4,M5 (q.upd b fun _ h=>h.elim) H L F k fun v _ _=>?_⟩
 refine CondP.intro (fun C=>?_) fun C=>?_
 ·have w:cF l k=false:=by simpa using C
  refine⟨_,vc g 0,_,vc g 1,_,vc g 2,_,vc g 3,s,vc g 4,?_⟩;refine cU (c:=qQ MX) (vs:=qQ (a,hx a x.k0,hx a x.k1,hx a x.mask,s)) b2 rfl fun u d f=>?_
  refine⟨_,vc d 0,_,vc d 1,_,vc d 2,_,vc d 3,s,vc d 4,?_⟩;refine D u (a,hx a x.k0,hx a x.k1,hx a x.mask,s) 4 ⟨s,rfl,?_,hc⟩ (b.own f z);rw[yE (zn w)];exact q.upd (b.own f z) fun _ h=>h.elim
 ·refine⟨s,vc g 4,Ib (q.upd b fun _ h=>h.elim) F k fun n O t j=>?_⟩
  refine qN (i:=4) (c':=(qQ (a,hx a x.k0,hx a x.k1,hx a x.mask,n)).toArray) (j.get0 g) (show 4<5 by decide) rfl fun M o m=>?_
  refine⟨_,vc o 0,_,vc o 1,_,vc o 2,_,vc o 3,n,vc o 4,?_⟩;refine cU (c:=qQ MX) (vs:=qQ (a,hx a x.k0,hx a x.k1,hx a x.mask,n)) (m.oth (j.get0 b2) (by omega)) rfl fun u d f=>?_
  refine⟨_,vc d 0,_,vc d 1,_,vc d 2,_,vc d 3,n,vc d 4,?_⟩;have p:=(t.upd m fun y E e=>by have e:y=h.size:=e;omega).upd f fun y E e=>by have e:y=A.size:=e;omega
  refine D u (a,hx a x.k0,hx a x.k1,hx a x.mask,n) 0 ⟨n,rfl,p.sl fun y E _ I=>by have:=G y I;omega,p.cap⟩ (((b.tr j).own m (al _)).own f (by omega))
set_option maxHeartbeats 1000000 in
theorem W4{W:Nat→Prop}{x:Hs}{h:ae}{s sg:SliceV}{l L0 R0:List Pr}{g:List ByteArray}{d:Int}{t:Tr}{r:Rt}{n:Nat}(J:TreeIs W h d x t L0)(L:RefIs W h d x r R0)(fw0:Few n L0)(fr0:Few n R0)(hn0:n≤1000)(hs:Sl eC 2 W h s l)(hg:Sl stF 1 W h sg g)(hW:∀y,W y→y<h.size)(hn:l.length≤9223372036854775807)(hgn:g.length≤9223372036854775807){K:Tr×Rt→ae→Prop}
  (hk:∀h' t' Z,TreeIs W h' d x t' (vY (l3 L0 l) g)→RefIs W h' d x Z (vY (l3 R0 l) g)→Upd No h h'→K (t',Z) h'):
  HC PG zS [HJ t,Zr r,.slice s.a s.len s.cap,.slice sg.a sg.len sg.cap] [.agg [.int .i64,.int .u64,.int .u64,.int .u64,.ptr,.ptr],.agg [.int .i64,.int .u64,.int .u64,.int .u64,.slice]] K h:=by
 refine Qd t r s sg ?_;unfold GF bI cl bw ag aQ aK cT eJ db nv AU J9 r7 GO yc QA ax lM hP Ka qO Ow;refine aW fun B b1 k1=>aW fun h2 b2 k2=>aW fun h3 b3 k3=>aW fun w b4 k4=>?_
 have z1:=bD b1;have z2:=bD b2;have z3:=bD b3;have z4:=bD b4;have s1:h.size≤B.size:=k1.size;have s2:B.size≤h2.size:=k2.size;have s3:h2.size≤h3.size:=k3.size;have s4:=k4.size;have kL:Upd No h w:=((k1.tr k2).tr k3).tr k4;have t0:=k4.get0 (k3.get0 (k2.get0 b1));have x0:=k4.get0 (k3.get0 b2);have rL1:=k4.get0 b3;have rL2:=b4;have iL:=J.pro kL;have jL:RefIs (Pro W h w) w d x r R0:=(L.less (W':=Pro W h w) Pro.hm).upd0 kL
 have U:=Pro.lt hW kL;have Y:Pro W h w h.size:=.inr (by omega);have V:Pro W h w B.size:=.inr (by omega);have hP1:Pro W h w h2.size:=.inr (by omega);have hP2:Pro W h w h3.size:=.inr (by omega);have hlen:=hs.len;refine LoopP.ghost (fun(i:Nat) (ti:Int) h'=>ti=(i:Int)∧i≤l.length∧(∃v q,TreeIs (Pro W h w) h' d x v (l3 L0 (l.take i))∧RefIs (Pro W h w) h' d x q (l3 R0 (l.take i))∧h'[h.size]? =some (.cells (pi v).toArray bN (0,0))∧h'[B.size]? =some (.cells (qQ q).toArray cQ (0,0)))∧Upd (fun y=>y=h.size∨y=B.size) w h') (fun i=>l.length-i) 0 ⟨rfl,aS _,⟨t,r,iL,jL,t0,x0⟩,Upd.refl _ _⟩ ?_
 rintro I i ti h' ⟨rfl,hi,⟨v,q,J,L,bt,N⟩,E⟩ hI;have hus:=E.size;have Q:Upd No h h':=kL.trans E fun y b=>.inr (by rcases b with rfl|rfl<;>omega)
 refine az (fun o=>?_) fun hge=>?_
 ·have o:i<l.length:=by omega
  obtain⟨a,ha,_,hv⟩:=(hs.upd Q fun _ h=>h.elim).at (af o)
  refine Join.intro (fun _ f=>(∃v q,TreeIs (Pro W h w) f d x v (l3 L0 (l.take (i+1)))∧RefIs (Pro W h w) f d x q (l3 R0 (l.take (i+1)))∧f[h.size]? =some (.cells (pi v).toArray bN (0,0))∧f[B.size]? =some (.cells (qQ q).toArray cQ (0,0)))∧Upd (fun y=>y=h.size∨y=B.size) w f) (fun R X=>⟨⟨by omega,by omega⟩,a,ha,l[i].1,hv 0 _ rfl,l[i].2,hv 1 _ rfl,?_⟩) ?_
  ·refine uB (p:=l[i]) fun h28 M O=>?_
   have z28:=bD M;have nt:h'.size≠h.size:=by omega
   have nx:h'.size≠B.size:=by omega
   refine az (fun D=>?_) fun D=>?_
   ·have D:i<25:=by omega
    rw[L3 o D,L3 o D]at X;obtain⟨q1,e1⟩:=Vh l[i].1;obtain⟨q2,e2⟩:=Vh l[i].2;refine⟨_,vc M 0,_,vc M 0,q1,?_⟩;simp only[Bd];refine⟨_,vc M 1,_,vc M 1,q2,?_⟩;rw[e1,e2];refine qN (c':= #[.string (uD l[i].1),.string l[i].2]) M (by simp) rfl fun h29 b29 hu29=>?_
    refine qN (c':= #[.string (uD l[i].1),.string (uD l[i].2)]) b29 (by simp) rfl fun h35 b35 hu35=>?_
    have H:Upd No h' h35:=(O.own hu29 (al _)).own hu35 (al _);have F:=H.get0 bt;have x35:=H.get0 N;have s35:=H.size;have fw:=xA fw0 (l.take i);have fl:=fw.len;have gw:=xA fr0 (l.take i);have gl:=gw.len;have p1:=ox l[i].1;have p2:=ox l[i].2;refine⟨_,vc F 0,_,vc F 1,_,vc F 2,_,vc F 3,_,vc F 4,_,vc F 5,_,vc b35 0,_,vc b35 1,?_⟩;refine OB (J.upd0 H) (fun y b=>aC (U y b) (by omega)) fw.up (by omega) (Ky l[i]) (by unfold Ky;simp only;omega) (by unfold Ky;simp only;omega) fun h45 t' i45 _ u=>?_
    refine cU (c:=pi v) (vs:=pi t') (u.get0 F) rfl fun h46 t46 j=>?_
    have m:=j.oth (u.get0 x35) (by omega);have p46:=j.oth (u.get0 b35) nt;have j46:=((L.upd0 H).upd0 u).updM j fun y b=>.inl (by have b:y=h.size:=b;rw[b];exact Y)
    have s45:=u.size;have s46:=j.size;refine⟨_,vc m 0,_,vc m 1,_,vc m 2,_,vc m 3,q.2.2.2.2,vc m 4,_,vc p46 0,_,vc p46 1,?_⟩;refine O0 j46 (fun y b=>aC (U y b) (by omega)) gw.up (by omega) (Ky l[i]) (by unfold Ky;simp only;omega) (by unfold Ky;simp only;omega) fun h55 Z j55 z=>?_
    refine cU (c:=qQ q) (vs:=qQ Z) (z.get0 m) rfl fun h56 x56 k=>X _ _ ⟨⟨t',Z,?_,j55.updM k fun y b=>.inl (by have b:y=B.size:=b;rw[b];exact V),k.oth (z.get0 t46) (by omega),x56⟩,?_⟩
    ·exact((i45.updM j fun y b=>.inl (by have b:y=h.size:=b;rw[b];exact Y)).upd0 z).updM k fun y b=>.inl (by have b:y=B.size:=b;rw[b];exact V)
    ·exact((((E.tr H.wide).tr u.wide).trans j fun y b=>.inl (.inl b)).tr z.wide).trans k fun y b=>.inl (.inr b)
   ·have D:25≤i:=by omega
    rw[L4 D,L4 D]at X;exact X _ _ ⟨⟨v,q,J.upd0 O,L.upd0 O,O.get0 bt,O.get0 N⟩,E.tr O.wide⟩
  ·rintro _ f ⟨hex,hu2⟩
   rw[fy o hn];exact hI (i+1) _ _ ⟨rfl,o,hex,hu2⟩ (by omega)
 ·have hil:i=l.length:=by omega
  subst hil;rw[bS]at J L;have y1:=E.get rL1 (by rintro(e|e)<;>omega)
  have y2:=E.get rL2 (by rintro(e|e)<;>omega)
  have hgl:=hg.len;have fw1:=xA fw0 l;have fr1:=xA fr0 l;generalize l3 L0 l=L1 at J hk fw1;generalize l3 R0 l=R1 at L hk fr1;refine LoopP.ghost (fun(i:Nat) (ti:Int) f=>ti=(i:Int)∧i≤g.length∧(∃v q,TreeIs (Pro W h w) f d x v (vY L1 (g.take i))∧RefIs (Pro W h w) f d x q (vY R1 (g.take i))∧f[h.size]? =some (.cells (pi v).toArray bN (0,0))∧f[B.size]? =some (.cells (qQ q).toArray cQ (0,0)))∧Upd (fun y=>y=h.size∨y=B.size) w f) (fun i=>g.length-i) 0 ⟨rfl,aS _,⟨v,q,J,L,bt,N⟩,E⟩ ?_
  clear hI J L bt N y1 y2 E hus Q v q;rintro I2 i ti h' ⟨rfl,hi,⟨v,q,J,L,bt,N⟩,E⟩ hI2;have hus:=E.size;have Q:Upd No h h':=kL.trans E fun y b=>.inr (by rcases b with rfl|rfl<;>omega)
  refine az (fun o=>?_) fun hge=>?_
  ·have o:i<g.length:=by omega
   obtain⟨a,ha,_,hv⟩:=(hg.upd Q fun _ h=>h.elim).at0 (af o)
   refine Join.intro (fun _ f=>(∃v q,TreeIs (Pro W h w) f d x v (vY L1 (g.take (i+1)))∧RefIs (Pro W h w) f d x q (vY R1 (g.take (i+1)))∧f[h.size]? =some (.cells (pi v).toArray bN (0,0))∧f[B.size]? =some (.cells (qQ q).toArray cQ (0,0)))∧Upd (fun y=>y=h.size∨y=B.size) w f) (fun R X=>⟨⟨by omega,by omega⟩,a,ha,g[i],hv,?_⟩) ?_
   ·refine az (fun C=>?_) fun C=>?_
    ·have C:i<15:=by omega
     rw[Px o C,Px o C]at X;obtain⟨q1,e1⟩:=Vh g[i];refine⟨q1,?_⟩;simp only[Bd];rw[e1];refine⟨_,vc bt 0,_,vc bt 1,_,vc bt 2,_,vc bt 3,_,vc bt 4,_,vc bt 5,?_⟩;have fw:=PF fw1 (g.take i);have fl:=fw.len;have gw:=PF fr1 (g.take i);have gl:=gw.len;have p1:=ox g[i];refine FR J (fun y b=>aC (U y b) (by omega)) fw.up fw.fits (by omega) (uD g[i]) (by omega) fun h45 t' i45 _ u=>?_
     refine cU (c:=pi v) (vs:=pi t') (u.get0 bt) rfl fun h46 t46 j=>?_
     have m:=j.oth (u.get0 N) (by omega);have j46:=(L.upd0 u).updM j fun y b=>.inl (by have b:y=h.size:=b;rw[b];exact Y)
     have s45:=u.size;have s46:=j.size;refine⟨_,vc m 0,_,vc m 1,_,vc m 2,_,vc m 3,q.2.2.2.2,vc m 4,?_⟩;refine OZ j46 (fun y b=>aC (U y b) (by omega)) gw.up gw.fits (by omega) (uD g[i]) (by omega) fun h55 Z _ j55 z=>?_
     refine cU (c:=qQ q) (vs:=qQ Z) (z.get0 m) rfl fun h56 x56 k=>X _ _ ⟨⟨t',Z,?_,j55.updM k fun y b=>.inl (by have b:y=B.size:=b;rw[b];exact V),k.oth (z.get0 t46) (by omega),x56⟩,?_⟩
     ·exact((i45.updM j fun y b=>.inl (by have b:y=h.size:=b;rw[b];exact Y)).upd0 z).updM k fun y b=>.inl (by have b:y=B.size:=b;rw[b];exact V)
     ·exact(((E.tr u.wide).trans j fun y b=>.inl (.inl b)).tr z.wide).trans k fun y b=>.inl (.inr b)
    ·have C:15≤i:=by omega
     rw[Py C,Py C]at X;exact X _ _ ⟨⟨v,q,J,L,bt,N⟩,E⟩
   ·rintro _ f ⟨hex,hu2⟩
    rw[fy o hgn];exact hI2 (i+1) _ _ ⟨rfl,o,hex,hu2⟩ (by omega)
  have hil:i=g.length:=by omega
  subst hil;rw[bS]at J L;have y1:=E.get rL1 (by rintro(e|e)<;>omega)
  have y2:=E.get rL2 (by rintro(e|e)<;>omega)
  refine⟨_,vc bt 0,_,vc bt 1,_,vc bt 2,_,vc bt 3,_,vc bt 4,_,vc bt 5,_,vc N 0,_,vc N 1,_,vc N 2,_,vc N 3,q.2.2.2.2,vc N 4,?_⟩;refine cU (c:=pi Kc) (vs:=pi v) y1 rfl fun h70 b70 A=>?_
  have T:=A.oth N (by omega);refine⟨⟨vc T 0,vc T 1,vc T 2,vc T 3,vc T 4⟩,?_⟩;refine cU (c:=qQ MX) (vs:=qQ q) (A.oth y2 (by omega)) rfl fun h71 S G=>?_
  have P:=G.oth b70 (by omega);refine⟨_,vc P 0,_,vc P 1,_,vc P 2,_,vc P 3,_,vc P 4,_,vc P 5,_,vc S 0,_,vc S 1,_,vc S 2,_,vc S 3,q.2.2.2.2,vc S 4,?_⟩;refine hk h71 v q (((J.updM A fun y b=>.inl (by have b:y=h2.size:=b;rw[b];exact hP1)).updM G fun y b=>.inl (by have b:y=h3.size:=b;rw[b];exact hP2)).less Pro.sub) (((L.updM A fun y b=>.inl (by have b:y=h2.size:=b;rw[b];exact hP1)).updM G fun y b=>.inl (by have b:y=h3.size:=b;rw[b];exact hP2)).less Pro.sub) ((Q.own A (by omega)).own G (by omega))
end Go.Proofs
namespace Go.Proofs
open Go Go.Lift
end Go.Proofs
namespace Go.Proofs
open Go Go.Lift
end Go.Proofs
namespace Go.Proofs
open Go Go.Lift
end Go.Proofs
namespace Go.Proofs
open Go Go.Lift
theorem Rv{n:Nat}{A:List Pr}(f:Few n A)(k:ByteArray):((look A k).getD ⟨#[]⟩).size≤30:=by
 cases e:look A k with
 |none=>exact aS _
 |some v=>exact(f.fit _ (Iq e)).2
end Go.Proofs
namespace Go.Proofs
open Go Go.Lift
def yS(L:List Pr)(c:Ch):List Pr:=if c.2.2.2.2 then iM (c.1,c.2.2.1) L else nQ c.1 L
def mI(L:List Pr)(l:List Ch):List Pr:=l.foldl yS L
theorem ON{L:List Pr}(h:cf L)(c:Ch):cf (yS L c):=by
 unfold yS;split
 ·exact Az _ h
 ·exact Lx h
theorem vT:∀{l:List Ch} {L:List Pr},cf L→cf (mI L l)
 | [],_,h=>h
 |c::l,_,h=>vT (l:=l) (ON h c)
theorem U8{L:List Pr}{c:Ch}(h:Fit L)(hc:c.1.size≤10000∧c.2.2.1.size≤10000):Fit (yS L c):=fun p a=>by
 unfold yS at a;split at a
 ·rcases zA a with e|a
  ·rw[e];exact hc
  ·exact h p a
 ·exact h p (Hk.1 a).1
theorem AJ:∀{l:List Ch} {L:List Pr},Fit L→(∀c∈l,c.1.size≤10000∧c.2.2.1.size≤10000)→Fit (mI L l)
 | [],_,h,_=>h
 |c::l,_,h,hl=>AJ (l:=l) (U8 h (hl c (aw ..))) fun d hd=>hl d (aB _ hd)
theorem UZ(L:List Pr)(c:Ch):(yS L c).length≤L.length+1:=by
 unfold yS;split
 ·exact AH _
 ·exact bj Sa (Nat.le_succ _)
theorem AF:∀(l:List Ch) (L:List Pr),(mI L l).length≤L.length+l.length
 | [],_=>al _
 |c::l,L=>by
  have a:=AF l (yS L c);have h2:=UZ L c;rw[List.length_cons];show(mI (yS L c) l).length≤_
  omega
theorem Jh{L:List Pr}{l:List Ch}{i:Nat}(hi:i<l.length):mI L (l.take (i+1))=yS (mI L (l.take i)) l[i]:=by
 unfold mI;rw[aX hi,List.foldl_append];rfl
def vZ(L:List Pr)(c:Ch):Bool:=((look L c.1).isSome==c.2.2.2.1)&&decide ((look L c.1).getD ⟨#[]⟩=c.2.1)
def xg(L:List Pr)(l:List Ch):Int:=if qj l≠0 then qj l else if l.any (fun c=> !vZ L c)then 8 else 0
end Go.Proofs
namespace Go.Proofs
open Go Go.Lift
def aaP(b o t:Option ByteArray)(p:Int):Option ByteArray×Bool:=if o=t∨t=b then(o,true)else if o=b then(t,true)else if p=1 then(o,false)else if p=2 then(t,false)else(b,false)
def tk(B O T:List Pr)(p:Int)(k:ByteArray):Option ByteArray×Bool:=aaP (look B k) (look O k) (look T k) p
end Go.Proofs
namespace Go.Proofs
open Go Go.Lift Go.Sort
abbrev Xm:Value:=.func (.func qH) #[] #[]
def EY(dec:Int→Ch)(i j:Int):Bool:=aaB (dec i) (dec j)
structure SA(dec:Int→Ch)(M:Nat→Prop)(s:SliceV)(h:ae)(d:Array Int):Prop where
 own:OwnS pk 5 bE M h s (d.toList.map dec)
 small:d.size≤1000000000
 lt:∀b,M b→b<h.size
variable {dec:Int→Ch} {M:Nat→Prop} {s:SliceV} {h:ae} {d:Array Int}
theorem SA.len(a:SA dec M s h d):s.len=d.size:=by have:=a.own.len;simpa using this
theorem SA.upd0{h':ae}(a:SA dec M s h d)(k:Upd No h h'):SA dec M s h' d:=⟨a.own.upd k fun _ _ h=>h,a.small,fun b c=>aC (a.lt b c) k.size⟩
theorem SA.at(b:SA dec M s h d){i:Nat}(hi:i<d.size):∃a,s.a=some a∧∀j v,(pk (dec d[i]!))[j]? =some v→aP h (adr (adr a (((i:Int)).toNat*5)) j)=some v:=by
 have hx:(d.toList.map dec)[i]? =some (dec d[i]!):=by
  rw[List.getElem?_map,Array.getElem?_toList,Array.getElem?_eq_getElem hi,getElem!_pos d i hi];rfl
 obtain⟨a,c,_,hv⟩:=(b.own.sl (W:=No) fun _ _ _ h=>h).at hx
 exact⟨a,c,by simpa using hv⟩
theorem SA.rd(b:SA dec M s h d){t:Int}{i:Nat}(e:t=(i:Int))(hi:i<d.size){R:ByteArray→ByteArray→ByteArray→Bool→Bool→Prop}(f:R (dec d[i]!).1 (dec d[i]!).2.1 (dec d[i]!).2.2.1 (dec d[i]!).2.2.2.1 (dec d[i]!).2.2.2.2):
  ((0:Int)≤t∧t<((s.len:Nat):Int))∧∃a:Addr,s.a=some a∧∃v1:ByteArray,aP h (adr (adr a (t.toNat*5)) 0)=some (.string v1)∧∃v2:ByteArray,aP h (adr (adr a (t.toNat*5)) 1)=some (.string v2)∧∃v3:ByteArray,aP h (adr (adr a (t.toNat*5)) 2)=some (.string v3)∧∃v4:Bool,aP h (adr (adr a (t.toNat*5)) 3)=some (.bool v4)∧∃v5:Bool,aP h (adr (adr a (t.toNat*5)) 4)=some (.bool v5)∧R v1 v2 v3 v4 v5:=by
 subst e;obtain⟨a,c,hv⟩:=b.at hi;exact⟨by rw[b.len];omega,a,c,_,hv 0 _ rfl,_,hv 1 _ rfl,_,hv 2 _ rfl,_,hv 3 _ rfl,_,hv 4 _ rfl,f⟩
theorem SA.st(e:SA dec M s h d){t:Int}{i:Nat}{x:Int}(o:t=(i:Int))(hi:i<d.size){R:ae→Prop}(n:∀h',SA dec M s h' (d.setIfInBounds i x)→Upd M h h'→R h'):
  ((0:Int)≤t∧t<((s.len:Nat):Int))∧∃a:Addr,s.a=some a∧(u6 h (some (adr a (t.toNat*5))) 0 [.string (dec x).1,.string (dec x).2.1,.string (dec x).2.2.1,.bool (dec x).2.2.2.1,.bool (dec x).2.2.2.2]∧At (iP h (adr a (t.toNat*5)) 0 [.string (dec x).1,.string (dec x).2.1,.string (dec x).2.2.1,.bool (dec x).2.2.2.1,.bool (dec x).2.2.2.2]) R):=by
 subst o;obtain⟨a,j,hM,p,m,g⟩:=OwnS.setAt e.own (k:=i) (by simpa using hi) (dec x);refine⟨by rw[e.len];omega,a,j,?_⟩;rw[Int.toNat_natCast];have f:Upd M h _:=g.mono fun b c=>.inl (by have c:b=a.block:=c;rw[c];exact hM)
 refine⟨p,bP (n _ ⟨?_,by simpa using e.small,fun b c=>aC (e.lt b c) g.size⟩ f)⟩
 rw[show(d.setIfInBounds i x).toList.map dec=(d.toList.map dec).take i++dec x::(d.toList.map dec).drop (i+1) by
  rw[Array.toList_setIfInBounds,List.map_set,List.set_eq_take_append_cons_drop,if_pos (by simpa using hi)]]
 exact m
@[simp] theorem aaS(d:Array Int)(i j:Nat):(swp d i j).size=d.size:=by simp[swp]
theorem SA.swap(e:SA dec M s h d){c b:Int}{i j:Nat}(o:c=(i:Int))(m:b=(j:Int))(hi:i<d.size)(n:j<d.size){R:ae→Prop}(p:∀h',SA dec M s h' (swp d i j)→Upd M h h'→R h'):
  ((0:Int)≤b∧b<((s.len:Nat):Int))∧∃a:Addr,s.a=some a∧∃v1:ByteArray,aP h (adr (adr a (b.toNat*5)) 0)=some (.string v1)∧∃v2:ByteArray,aP h (adr (adr a (b.toNat*5)) 1)=some (.string v2)∧∃v3:ByteArray,aP h (adr (adr a (b.toNat*5)) 2)=some (.string v3)∧∃v4:Bool,aP h (adr (adr a (b.toNat*5)) 3)=some (.bool v4)∧∃v5:Bool,aP h (adr (adr a (b.toNat*5)) 4)=some (.bool v5)∧
   (((0:Int)≤c∧c<((s.len:Nat):Int))∧∃a:Addr,s.a=some a∧∃w1:ByteArray,aP h (adr (adr a (c.toNat*5)) 0)=some (.string w1)∧∃w2:ByteArray,aP h (adr (adr a (c.toNat*5)) 1)=some (.string w2)∧∃w3:ByteArray,aP h (adr (adr a (c.toNat*5)) 2)=some (.string w3)∧∃w4:Bool,aP h (adr (adr a (c.toNat*5)) 3)=some (.bool w4)∧∃w5:Bool,aP h (adr (adr a (c.toNat*5)) 4)=some (.bool w5)∧
    (((0:Int)≤c∧c<((s.len:Nat):Int))∧∃a:Addr,s.a=some a∧(u6 h (some (adr a (c.toNat*5))) 0 [.string v1,.string v2,.string v3,.bool v4,.bool v5]∧At (iP h (adr a (c.toNat*5)) 0 [.string v1,.string v2,.string v3,.bool v4,.bool v5]) (fun f=>
     (((0:Int)≤b∧b<((s.len:Nat):Int))∧∃a:Addr,s.a=some a∧(u6 f (some (adr a (b.toNat*5))) 0 [.string w1,.string w2,.string w3,.bool w4,.bool w5]∧At (iP f (adr a (b.toNat*5)) 0 [.string w1,.string w2,.string w3,.bool w4,.bool w5]) R)))))):=by
 refine e.rd m n (e.rd o hi (e.st (x:=d[j]!) o hi fun f k k1=>k.st (x:=d[i]!) m (by simpa using n) fun h2 g q=>p h2 g (k1.tr q)))
theorem SA.less(f:SA dec M s h d){c b:Int}{i j:Nat}(p:c=(i:Int))(n:b=(j:Int))(hi:i<d.size)(o:j<d.size){R:Int→ae→Prop}(g:∀h' e,SA dec M s h' d→Upd No h h'→decide (e<0)=EY dec d[i]! d[j]!→R e h'):
  ((0:Int)≤c∧c<((s.len:Nat):Int))∧∃a:Addr,s.a=some a∧∃v1:ByteArray,aP h (adr (adr a (c.toNat*5)) 0)=some (.string v1)∧∃v2:ByteArray,aP h (adr (adr a (c.toNat*5)) 1)=some (.string v2)∧∃v3:ByteArray,aP h (adr (adr a (c.toNat*5)) 2)=some (.string v3)∧∃v4:Bool,aP h (adr (adr a (c.toNat*5)) 3)=some (.bool v4)∧∃v5:Bool,aP h (adr (adr a (c.toNat*5)) 4)=some (.bool v5)∧
   (((0:Int)≤b∧b<((s.len:Nat):Int))∧∃a:Addr,s.a=some a∧∃w1:ByteArray,aP h (adr (adr a (b.toNat*5)) 0)=some (.string w1)∧∃w2:ByteArray,aP h (adr (adr a (b.toNat*5)) 1)=some (.string w2)∧∃w3:ByteArray,aP h (adr (adr a (b.toNat*5)) 2)=some (.string w3)∧∃w4:Bool,aP h (adr (adr a (b.toNat*5)) 3)=some (.bool w4)∧∃w5:Bool,aP h (adr (adr a (b.toNat*5)) 4)=some (.bool w5)∧
    HV PG Xm [.agg #[.string v1,.string v2,.string v3,.bool v4,.bool v5],.agg #[.string w1,.string w2,.string w3,.bool w4,.bool w5]] [.c (.int .i64)] R h):=
 f.rd p hi (f.rd n o ((ZC M).call (dec d[i]!) (dec d[j]!) trivial fun h' e k m=>g h' e (f.upd0 k) k m))
end Go.Proofs
namespace Go.Proofs
open Go Go.Lift Go.Sort
variable {dec:Int→Ch} {M:Nat→Prop} {s:SliceV} {h:ae} {d:Array Int}
@[simp] theorem XZ(lt:Int→Int→Bool)(hi first a:Nat)(d:Array Int):(siftDown lt hi first a d).size=d.size:=by
 fun_induction siftDown lt hi first a d<;>simp_all
@[simp] theorem IG(lt:Int→Int→Bool)(hi first:Nat):∀(k:Nat) (d:Array Int),(heapBuild lt hi first k d).size=d.size
 |0,d=>rfl
 |k+1,d=>by rw[heapBuild,IG lt hi first k];simp
theorem Zn{a hi first:Nat}(H:SA dec M s h d)(hb:first+hi≤d.size){K:Unit→ae→Prop}(N:∀h',SA dec M s h' (siftDown (EY dec) hi first a d)→Upd M h h'→K () h')(Q:a≤1000000000):
  HC PG jS [.slice s.a s.len s.cap,.int .i64 a,.int .i64 hi,.int .i64 first,Xm] [] K h:=by
 refine pw s a hi first Xm ?_
 unfold jT bI cl aK ld cD AV Hb lP;have U:=H.small;refine LoopP.ghost (fun(g:Nat×Array Int) (t:Int) h'=>t=(g.1:Int)∧SA dec M s h' g.2∧g.2.size=d.size∧siftDown (EY dec) hi first g.1 g.2=siftDown (EY dec) hi first a d∧Upd M h h'∧g.1≤1000000000) (fun g=>hi-g.1) (a,d)
  ⟨rfl,H,rfl,rfl,Upd.refl _ _,Q⟩ ?_
 rintro I ⟨i,b⟩ t J ⟨G,n,z,m,w,D⟩ T;simp only at G n z m D;subst G;have W:IntKind.wrap .i64 (IntKind.wrap .i64 (2*(i:Int))+1)=((2*i+1:Nat):Int):=by rw[fx (x:=2*(i:Int)) (by omega),fx (by omega)];omega
 have L:IntKind.wrap .i64 (((2*i+1:Nat):Int)+1)=((2*i+2:Nat):Int):=by rw[fx (by omega)];omega
 rw[W];refine az (fun V=>?_) fun E=>?_
 ·refine N _ ?_ w
  rw[←m,siftDown,dif_pos (by omega)];exact n
 ·have E:2*i+1<hi:=by omega
  refine Join.intro (fun t h'=>SA dec M s h' b∧Upd No J h'∧∃c:Nat,t=(c:Int)∧c=if 2*i+2<hi∧(EY dec) b[first+(2*i+1)]! b[first+(2*i+1)+1]! =true then 2*i+2 else 2*i+1) (fun R O=>?_) ?_
  ·refine Join.intro (fun t h'=>SA dec M s h' b∧Upd No J h'∧(t=true↔2*i+2<hi∧(EY dec) b[first+(2*i+1)]! b[first+(2*i+1)+1]! =true)) (fun R2 q=>?_) ?_
   ·show CondP (decide (IntKind.wrap .i64 (((2*i+1:Nat):Int)+1)<(hi:Int))) _ _
    rw[L];refine az (fun k=>?_) fun k=>q _ _ ⟨n,Upd.refl _ _,by simp;omega⟩
    show(((0:Int)≤IntKind.wrap .i64 ((first:Int)+((2*i+1:Nat):Int))∧_)∧_)
    refine n.less (i:=first+(2*i+1)) (j:=first+(2*i+1)+1) (by rw[fx (by omega)];omega) (by rw[fx (x:=(first:Int)+_) (by omega),fx (by omega)];omega) (by omega) (by omega) fun h4 Y e o B=>q _ _ ⟨e,o,?_⟩
    rw[B];simp;omega
   ·rintro t h' ⟨e,o,v⟩
    refine CondP.intro (fun k=>?_) fun k=>?_
    ·show R (IntKind.wrap .i64 (((2*i+1:Nat):Int)+1)) _
     rw[L];exact O _ _ ⟨e,o,_,rfl,by rw[if_pos (v.1 k)]⟩
    ·exact O _ _ ⟨e,o,_,rfl,by rw[if_neg fun X=>by rw[v.2 X]at k;cases k]⟩
  ·rintro t h' ⟨e,o,c,rfl,hc⟩
   have S:c<hi∧i<c:=by rw[hc];split<;>omega
   refine e.less (i:=first+i) (j:=first+c) (by rw[fx (by omega)];omega) (by rw[fx (by omega)];omega) (by omega) (by omega) fun Z e5 p P C=>?_
   have u:=w.tr (o.tr P).wide;rw[C];have f:siftDown (EY dec) hi first i b=if !(EY dec) b[first+i]! b[first+c]! then b else siftDown (EY dec) hi first c (swp b (first+i) (first+c)):=by
    rw[siftDown,dif_neg (by omega)];by_cases y:2*i+2<hi∧(EY dec) b[first+(2*i+1)]! b[first+(2*i+1)+1]! =true
    ·rw[if_pos (by simp only[bK,decide_eq_true_iff];exact y),dif_pos y.1]
     rw[if_pos y]at hc;rw[hc]
    ·rw[if_neg (by simp only[bK,decide_eq_true_iff];exact y)]
     rw[if_neg y]at hc;rw[hc]
   refine CondP.intro (fun k=>?_) fun k=>?_
   ·refine N _ ?_ u
    rw[←m,f,if_pos k];exact p
   ·refine p.swap (i:=first+i) (j:=first+c) (by rw[fx (by omega)];omega) (by rw[fx (by omega)];omega) (by omega) (by omega) fun h6 A F=>?_
    refine T (c,swp b (first+i) (first+c)) _ _ ⟨rfl,A,by simp[z],?_,u.tr F,by simp only;omega⟩ (by simp only;omega)
    rw[←m,f,if_neg (by rw[k];simp)]
end Go.Proofs
namespace Go.Proofs
open Go Go.Lift Go.Sort
variable {dec:Int→Ch} {M:Nat→Prop} {s:SliceV} {h:ae} {d:Array Int}
end Go.Proofs
namespace Go.Proofs
open Go Go.Lift Go.Sort
variable {dec:Int→Ch} {M:Nat→Prop} {s:SliceV} {h:ae} {d:Array Int}
@[simp] theorem HR(lt:Int→Int→Bool):∀(j:Nat) (d:Array Int),(shiftDown lt j d).size=d.size
 |0,d=>rfl
 |j+1,d=>by rw[shiftDown];split;rfl;rw[HR lt j];simp
@[simp] theorem Ym(lt:Int→Int→Bool)(e j:Nat)(d:Array Int):(shiftUp lt e j d).size=d.size:=by
 fun_induction shiftUp lt e j d<;>simp_all
theorem X2{a e:Nat}(hs:SA dec M s h d)(ha:a<e)(he:e≤d.size){K:Bool→ae→Prop}(S:∀h',SA dec M s h' (partialInsertionSort (EY dec) d a e).1→Upd M h h'→K (partialInsertionSort (EY dec) d a e).2 h'):
  HC PG eE [.slice s.a s.len s.cap,.int .i64 a,.int .i64 e,Xm] [.c .bool] K h:=by
 refine kP s a e Xm ?_;unfold gm bI cl aK ld cD AV Hb lP;have hsm:=hs.small;refine LoopP.ghost (fun(g:Nat×Nat×Array Int) (t:Int×Int) h'=>t.1=(g.2.1:Int)∧t.2=5-(g.1:Int)∧SA dec M s h' g.2.2∧g.2.2.size=d.size∧partialIns (EY dec) a e g.1 g.2.1 g.2.2=partialInsertionSort (EY dec) d a e∧Upd M h h'∧g.1≤5∧a<g.2.1∧g.2.1≤e) (fun g=>g.1) (5,a+1,d)
  ⟨by simp only;rw[fx (by omega)];rfl,by simp only;omega,hs,rfl,rfl,Upd.refl _ _,by simp,by simp,by simp only;omega⟩ ?_
 rintro I ⟨st,i0,v⟩ ⟨t1,t2⟩ h1 ⟨ht1,ht2,H,hz1,z,Z,hst,U,X⟩ hI;simp only at ht1 ht2 H hz1 z hst U X;subst ht1 ht2;refine az (fun hlt=>?_) fun hge=>?_
 ·obtain⟨st,rfl⟩:∃k,st=k+1:=⟨st-1,by have:5-(st:Int)<5:=hlt;omega⟩
  refine Join.intro (fun t h'=>∃T d2,t=(T:Nat)∧SA dec M s h' d2∧d2.size=d.size∧partialIns (EY dec) a e st T d2=partialInsertionSort (EY dec) d a e∧Upd M h h'∧a<T∧T≤e) (fun R hR=>?_) ?_
  ·refine LoopP.ghost (fun(i:Nat) (t:Int) h'=>t=(i:Int)∧SA dec M s h' v∧Upd No h1 h'∧scanSorted (EY dec) v e i=scanSorted (EY dec) v e i0∧a<i∧i≤e) (fun i=>e-i) i0 ⟨rfl,H,Upd.refl _ _,rfl,U,X⟩ ?_
   rintro I2 i t h' ⟨rfl,x,k2,hsc,m,n⟩ hI2;refine Join.intro (fun c J=>SA dec M s J v∧Upd No h' J∧(c=true↔i<e∧(EY dec) v[i]! v[i-1]! =false)) (fun R2 V=>?_) ?_
   ·refine az (fun hle=>?_) fun hgt=>V _ _ ⟨x,Upd.refl _ _,by simp;omega⟩
    exact x.less (i:=i) (j:=i-1) rfl (by rw[fx (by omega)];omega) (by omega) (by omega) fun B e3 p k3 he3=>V _ _ ⟨p,k3,by rw[he3];simp;omega⟩
   ·rintro c J ⟨p,k3,hc⟩
    have y:=Z.tr (k2.tr k3).wide;refine CondP.intro (fun h2=>?_) fun h2=>?_
    ·have hh:=hc.1 h2
     refine hI2 (i+1) _ _ ⟨by rw[fx (by omega)];rfl,p,k2.tr k3,?_,by omega,by omega⟩ (by omega)
     rw[←hsc];conv=>rhs;rw[scanSorted]
     rw[if_pos (by simp[hh])]
    ·have hsi:scanSorted (EY dec) v e i=i:=by
      rw[scanSorted,if_neg];intro hh;simp only[bK,decide_eq_true_iff,Bool.not_eq_eq_eq_not,Bool.not_true]at hh;rw[hc.2 hh]at h2;cases h2
     have b:=z;rw[partialIns]at b;simp only[←hsc,hsi]at b;refine CondP.intro (fun B=>?_) fun B=>?_
     ·have B:i=e:=by
       have:(i:Int)=e:=by simpa using B
       omega
      rw[if_pos B]at b;rw[←b]at S;exact S _ p y
     ·have B:i≠e:=fun e'=>by subst e';simp at B
      rw[if_neg B]at b;have we:IntKind.wrap .i64 ((e:Int)-(a:Int))=((e-a:Nat):Int):=by rw[fx (by omega)];omega
      show CondP (decide (IntKind.wrap .i64 ((e:Int)-(a:Int))<50)) _ _
      rw[we];refine az (fun h4=>?_) fun h4=>?_
      ·rw[if_pos (by omega)]at b
       rw[←b]at S;exact S _ p y
      ·rw[if_neg (by omega)]at b
       have hi1:1≤i:=by omega
       refine p.swap (i:=i) (j:=i-1) rfl (by rw[fx (by omega)];omega) (by omega) (by omega) fun h5 L hu5=>?_
       have N:(swp v i (i-1)).size=d.size:=by simp[hz1]
       generalize swp v i (i-1)=d5 at L N b;refine Join.intro (fun _ h'=>SA dec M s h' (if i-a≥2 then shiftDown (EY dec) (i-1) d5 else d5)∧Upd M h h') (fun R3 u=>?_) ?_
       ·have wi:IntKind.wrap .i64 ((i:Int)-(a:Int))=((i-a:Nat):Int):=by rw[fx (by omega)];omega
        show CondP (decide (IntKind.wrap .i64 ((i:Int)-(a:Int))≥2)) _ _
        rw[wi];refine az (fun h6=>?_) fun h6=>?_
        ·rw[if_pos (by omega)]at u
         refine LoopP.ghost (fun(g:Nat×Array Int) (t:Int) h'=>t=(g.1:Int)∧SA dec M s h' g.2∧g.2.size=d.size∧shiftDown (EY dec) g.1 g.2=shiftDown (EY dec) (i-1) d5∧Upd M h h'∧g.1<e) (fun g=>g.1) (i-1,d5)
          ⟨by rw[fx (by omega)];simp only;omega,L,N,rfl,y.tr hu5,by simp only;omega⟩ ?_
         rintro I4 ⟨j,Y⟩ t h7 ⟨ht,O,hz7,o,hu7,C⟩ E;simp only at ht O hz7 o C;subst ht;refine az (fun h8=>?_) fun h8=>?_
         ·obtain⟨j,rfl⟩:∃k,j=k+1:=⟨j-1,by omega⟩
          have Q:IntKind.wrap .i64 (((j+1:Nat):Int)-1)=(j:Int):=by rw[fx (by omega)];omega
          rw[shiftDown]at o;refine O.less (i:=j+1) (j:=j) rfl Q (by omega) (by omega) fun hL eL hsL kL P=>?_
          have q:=hu7.tr kL.wide;rw[P];refine CondP.intro (fun h9=>?_) fun h9=>?_
          ·rw[if_pos h9]at o
           exact u _ _ ⟨by rw[←o];exact hsL,q⟩
          ·rw[if_neg (by rw[h9];simp)]at o
           refine hsL.swap (i:=j+1) (j:=j) rfl Q (by omega) (by omega) fun A hs10 hu10=>?_
           exact E (j,swp Y (j+1) j) _ _ ⟨Q,hs10,by simp[hz7],o,q.tr hu10,by simp only;omega⟩ (by simp)
         ·have:j=0:=by omega
          subst this;exact u _ _ ⟨by rw[←o];exact O,hu7⟩
        ·rw[if_neg (by omega)]at u
         exact u _ _ ⟨L,y.tr hu5⟩
       ·rintro _ h6 ⟨F,hu6⟩
        have G:(if i-a≥2 then shiftDown (EY dec) (i-1) d5 else d5).size=d.size:=by split<;>simp[N]
        generalize (if i-a≥2 then shiftDown (EY dec) (i-1) d5 else d5)=Y at F G b
        have wi:IntKind.wrap .i64 ((e:Int)-(i:Int))=((e-i:Nat):Int):=by rw[fx (by omega)];omega
        show CondP (decide (IntKind.wrap .i64 ((e:Int)-(i:Int))≥2)) _ _
        rw[wi];refine az (fun h7=>?_) fun h7=>?_
        ·rw[if_pos (by omega)]at b
         refine LoopP.ghost (fun(g:Nat×Array Int) (t:Int) h'=>t=(g.1:Int)∧SA dec M s h' g.2∧g.2.size=d.size∧shiftUp (EY dec) e g.1 g.2=shiftUp (EY dec) e (i+1) Y∧Upd M h h'∧1≤g.1∧g.1≤e) (fun g=>e-g.1) (i+1,Y)
          ⟨by rw[fx (by omega)];rfl,F,G,rfl,hu6,by simp,by simp only;omega⟩ ?_
         rintro I4 ⟨j,d7⟩ t h8 ⟨ht,D,w,f,hu8,hj1,C⟩ E;simp only at ht D w f hj1 C;subst ht;refine az (fun h9=>?_) fun h9=>?_
         ·have Q:IntKind.wrap .i64 ((j:Int)-1)=((j-1:Nat):Int):=by rw[fx (by omega)];omega
          rw[shiftUp,if_pos (by omega)]at f;refine D.less (i:=j) (j:=j-1) rfl Q (by omega) (by omega) fun hL eL hsL kL P=>?_
          have q:=hu8.tr kL.wide;rw[P];refine CondP.intro (fun A=>?_) fun A=>?_
          ·rw[if_pos A]at f
           exact hR _ _ ⟨i,d7,rfl,hsL,w,by rw[f];exact b,q,m,n⟩
          ·rw[if_neg (by rw[A];simp)]at f
           refine hsL.swap (i:=j) (j:=j-1) rfl Q (by omega) (by omega) fun h11 hs11 W=>?_
           exact E (j+1,swp d7 j (j-1)) _ _ ⟨by rw[fx (by omega)];rfl,hs11,by simp[w],f,q.tr W,by simp,by simp only;omega⟩ (by simp only;omega)
         ·rw[shiftUp,if_neg (by omega)]at f
          exact hR _ _ ⟨i,d7,rfl,D,w,by rw[f];exact b,hu8,m,n⟩
        ·rw[if_neg (by omega)]at b
         exact hR _ _ ⟨i,Y,rfl,F,G,b,hu6,m,n⟩
  ·rintro t h' ⟨T,d2,rfl,x,hz2,b,hu2,m,n⟩
   exact hI (st,T,d2) _ _ ⟨rfl,by simp only;rw[fx (by omega)];omega,x,hz2,b,hu2,by simp only;omega,m,n⟩ (by simp)
 ·have:st=0:=by have:¬5-(st:Int)<5:=hge;omega
  subst this;rw[partialIns]at z;rw[←z]at S;exact S _ H Z
end Go.Proofs
namespace Go.Proofs
open Go Go.Lift Go.Sort
variable {dec:Int→Ch} {M:Nat→Prop} {s:SliceV} {h:ae} {d:Array Int}
theorem abA(x:Int):IntKind.wrap .u64 x=x%18446744073709551616:=by
 simp[IntKind.wrap,IntKind.bits,IntKind.signed]
theorem and_le_right(x:Int){m:Int}(a:0≤m)(hm:m<18446744073709551616):0≤IntKind.wrap .u64 ((av (IntKind.bits .u64) x&&&av (IntKind.bits .u64) m).toNat:Int)∧IntKind.wrap .u64 ((av (IntKind.bits .u64) x&&&av (IntKind.bits .u64) m).toNat:Int)≤m:=by
 have b:(av (IntKind.bits .u64) x&&&av (IntKind.bits .u64) m).toNat≤(av (IntKind.bits .u64) m).toNat:=by
  rw[BitVec.toNat_and];exact Nat.and_le_right
 have h2:((av (IntKind.bits .u64) m).toNat:Int)=m:=by
  show((av 64 m).toNat:Int)=m
  rw[BitVec.toNat_ofInt];have:m%((2^64:Nat):Int)=m:=Int.emod_eq_of_lt a (by omega);rw[this];omega
 rw[abA];omega
end Go.Proofs
namespace Go.Proofs
open Go Go.Lift Go.Sort
variable {dec:Int→Ch} {M:Nat→Prop} {s:SliceV} {h:ae} {d:Array Int}
end Go.Proofs
namespace Go.Proofs
open Go Go.Lift
end Go.Proofs
namespace Go.Proofs
open Go Go.Lift
theorem Few.mono{n m:Nat}{L:List Pr}(f:Few n L)(h:n≤m):Few m L:=⟨f.up,bj f.len h,f.fit⟩
theorem Zv{h:ae}{t:Tr}{r:Rt}{G:ae→ae→Prop}(j:∀a h',Upd No h h'→h'[h.size]? =some (.cells (pi t).toArray bN (0,0))→h'[a.size]? =some (.cells (qQ r).toArray cQ (0,0))→h.size<a.size→G a h'):
  At (hnew h (pi Kc) bN) fun a=>At (hnew a (qQ MX) cQ) fun h2=>u6 h2 (some (aF h)) 0 (pi t)∧At (iP h2 (aF h) 0 (pi t)) fun e=>u6 e (some (aF a)) 0 (qQ r)∧At (iP e (aF a) 0 (qQ r)) fun f=>G a f:=by
 refine aW fun a b1 k1=>aW fun h2 b2 g=>?_
 have i:=bD b1;refine cU (c:=pi Kc) (vs:=pi t) (g.get0 b1) rfl fun e b3 b=>?_
 refine cU (c:=qQ MX) (vs:=qQ r) (b.oth b2 (by omega)) rfl fun f k d=>?_
 exact j a f (((k1.tr g).own b (al _)).own d k1.size) (d.oth b3 (by omega)) k i
end Go.Proofs
namespace Go.Proofs
open Go Go.Lift
theorem OX{W:Nat→Prop}{h:ae}{b:Nat}{l:List Pr}(t:RadAt W h b l)(hW:∀y,W y→y<h.size)(hr:cf l)(k:ByteArray){K:ByteArray×Bool→ae→Prop}
  (T:∀h',Upd No h h'→K ((look l k).getD ⟨#[]⟩,(look l k).isSome) h'):HC PG zP [.pointer (some ⟨b,0,none⟩),.string k] [.c .str,.c .bool] K h:=by
 refine P2 (some ⟨b,0,none⟩) k ?_;unfold Gw bI cl aK hP bU HG;refine EN (.inr ⟨b,rfl,t⟩) hW fun h2 b2 t2 Z _=>?_
 obtain⟨w,F,r1,r2,r3⟩:=t2.ex;have d:∀v,tW w F k.data.toList v↔look l k=some v:=fun v=>by
  rw[←jR,r3];constructor
  ·rintro⟨p,hp,e1,rfl⟩
   rw[←qt.1 e1];exact EZ hr hp
  ·intro hp;exact⟨_,Iq hp,rfl,rfl⟩
 refine LoopP.ghost (fun(g:ByteArray×Nat×ByteArray×Option ByteArray×Fo) (t:ByteArray×Option Addr) h'=>t=(g.1,some ⟨g.2.1,0,none⟩)∧RxN W h' g.2.1 g.2.2.1 g.2.2.2.1 g.2.2.2.2∧fV g.2.2.2.2∧(∀v,tW g.2.2.2.1 g.2.2.2.2 g.1.data.toList v↔look l k=some v)∧Upd No h h') (fun g=>g.1.size) (k,b2,⟨#[]⟩,w,F) ⟨rfl,r1,r2,d,Z⟩ ?_
 clear d r1 r2 r3 t2;rintro I ⟨kk,c,sl,w,F⟩ t h5 ⟨rfl,r,hc,d,U⟩ hI;simp only at r hc d;simp only[ey];by_cases E:kk=⟨#[]⟩
 ·subst E
  refine aj.2 (OJ r ?_);have e:look l k=w:=Option.ext fun v=>by
   rw[←d v];constructor
   ·rintro(⟨_,h⟩|h)
    ·exact h
    ·exact absurd rfl (qm hc h)
   ·intro h;exact .inl ⟨rfl,h⟩
  rw[e]at T;exact T _ U
 ·rw[decide_eq_false E]
  refine au.2 ?_;have x:kk.data.toList≠[]:=fun e=>E (by cases kk;exact congrArg mP (Array.toList_inj.1 e))
  obtain⟨c0,X,N⟩:=E3 x;refine⟨c0,Int.le_refl _,X,?_⟩;have hr0:=r;obtain⟨val,s,ow,ks,hb,_,hs,hcap,hF⟩:=r;have hL:=kM.1 hF;have D:=eW.1 hc;have o:(∀v,¬rZ F kk.data.toList v)→K ((⟨#[]⟩:ByteArray),false) h5:=fun B=>by
   have e:look l k=none:=by
    cases e:look l k with
    |none=>rfl
    |some v=>
     rcases(d v).2 e with⟨h,_⟩|h
     ·exact absurd h x
     ·exact absurd h (B v)
   rw[e]at T;exact T _ U
  refine EP hr0 hc (c:=c0.toNat) (UInt8.toNat_lt _) fun i ok hil P J H=>?_
  rw[N]at P J H;cases ok with
  |false=>
   refine au.2 (o fun v d=>?_)
   obtain⟨n',G,e,_⟩:=sF hc d;obtain⟨j,S,rfl⟩:=bC G;rcases bW j i with V|V
   ·have:=P j S V;omega
   ·have h1:=J j S V
    have h2:=J i (by omega) (al _);rcases bW i j with R|R
    ·have h3:=ce.1 D.1 i j (by omega) S R
     omega
    ·have:i=j:=by omega
     subst this;have:=H.2 ⟨S,e⟩;cases this
  |true=>
   obtain⟨hi,Q⟩:=H.1 rfl;refine aj.2 ⟨_,rfl,s,dY (i:=3) hb,?_⟩;obtain⟨kb,O,hki,C,A⟩:=hL.at hi;have q:F.toL[i]∈F.toL:=aZ hi;have z:=D.2 _ q;obtain⟨a,ha,_,hvv⟩:=hs.at0 hki;have L:=hs.len;rw[hL.1]at L;have f:∀v,rZ F kk.data.toList v↔vd F.toL[i] kk.data.toList v:=fun v=>by
    constructor
    ·intro d
     obtain⟨n',G,e,hN⟩:=sF hc d;rw[←yG hc G q (by omega)];exact hN
    ·intro d;exact gv.2 ⟨_,q,d⟩
   refine⟨⟨by simp only;omega,by simp only;omega⟩,a,ha,some ⟨kb,0,none⟩,hvv,_,rfl,?_⟩
   obtain⟨kval,kss,kow,kks,M,_⟩:=id A;generalize F.toL[i]=m at C A z f Q;obtain⟨lab,wk,Fk⟩:=m;simp only at C A z Q M;refine⟨O,dY (i:=0) M,Xk (fun u n=>?_) fun B=>?_⟩
   ·rw[C]at n
    have hlne:lab.length≠0:=fun e=>z.1 (List.length_eq_zero_iff.1 e)
    have hrl:u.size<kk.size:=by
     rw[←lY u,←lY kk,n,List.length_append];omega
    refine aj.2 (hI (u,kb,O,wk,Fk) _ _ ⟨rfl,A,z.2.2,fun v=>?_,U⟩ hrl)
    rw[←d v];constructor
    ·intro h;exact .inr ((f v).2 ⟨_,n,h⟩)
    ·rintro(⟨h,_⟩|h)
     ·exact absurd h x
     ·obtain⟨r',e,Y⟩:=(f v).1 h
      simp only at e;rw[n]at e;rw[List.append_cancel_left e];exact Y
   ·rw[C]at B
    refine au.2 (o fun v h=>?_)
    obtain⟨r',e,_⟩:=(f v).1 h;exact B r' e
theorem Tg{W:Nat→Prop}{x:Hs}{h:ae}{a:Int}{t:Tr}{l:List Pr}(i:TreeIs W h a x t l)(g:∀y,W y→y<h.size)(e:cf l)(m:l.length≤1000000)(k:ByteArray){K:Sd→ae→Prop}(f:∀h',Upd No h h'→K ((look l k).getD ⟨#[]⟩,(look l k).isSome) h'):HC PG p9 [HJ t,.string k] [.c .str,.c .bool] K h:=by
 refine GT t k ?_;unfold y6 bw aQ vO r7 dK nW;rcases i with⟨_,b,rfl,t⟩|⟨_,b,rfl,t⟩
 ·refine aW fun j b1 k1=>⟨_,vc b1 0,aj.2 ⟨_,BS b1 1 0,_,BS b1 1 1,_,BS b1 1 2,_,vc b1 4,?_⟩⟩
  exact PQ (TrieAt.upd0 k1 t) (fun y c=>aC (g y c) k1.size) e m k fun h2 d=>f h2 (k1.tr d)
 ·refine aW fun j b1 k1=>⟨_,vc b1 0,au.2 ⟨_,vc b1 5,?_⟩⟩
  exact OX (t.upd0 k1) (fun y c=>aC (g y c) k1.size) e k fun h2 d=>f h2 (k1.tr d)
theorem YX{W:Nat→Prop}{x:Hs}{h:ae}{g:Int}{t:Tr}{L:List Pr}{c:Ch}(i:TreeIs W h g x t L)(o:∀y,W y→y<h.size)(m:cf L)(p:L.length≤1000000){K:Bool→ae→Prop}(a:∀h',Upd No h h'→K (vZ L c) h'):HC PG qr [.agg #[.string c.1,.string c.2.1,.string c.2.2.1,.bool c.2.2.2.1,.bool c.2.2.2.2],HJ t] [.c .bool] K h:=by
 refine CE c t ?_;unfold vI bw ag aQ r7 yc ax dh WN;refine aW fun q b1 k1=>aW fun h2 b2 j=>⟨_,vc b2 0,_,vc b2 1,_,vc b2 2,_,vc b2 3,_,vc b2 4,_,vc b2 5,_,vc (j.get0 b1) 0,?_⟩
 have b:=k1.tr j;refine Tg (i.upd0 b) (fun y n=>aC (o y n) b.size) m p c.1 fun k f=>?_
 have d:=f.get0 (j.get0 b1);have a:=a k (b.tr f);unfold vZ at a;refine⟨_,vc d 3,CondP.intro (fun e=>⟨_,vc d 1,?_⟩) fun e=>?_⟩
 ·rw[ey]
  simp only at e;rw[e,Bool.true_and]at a;exact a
 ·simp only at e
  rw[e,Bool.false_and]at a;exact a
set_option maxHeartbeats 1000000 in
theorem Nz{W W':Nat→Prop}{x:Hs}{h:ae}{k:Int}{t:Tr}{L:List Pr}{s:SliceV}{l:List Ch}(i:TreeIs W h k x t L)(hW:∀y,W y→y<h.size)(hr:cf L)(hf:Fit L)(hn:L.length≤500000)(hs:Sl pk 5 W' h s l)(hln:l.length≤500000)(hz:Fs l){K:Tr×Int→ae→Prop}
  (hk0:xg L l≠0→∀h',Upd No h h'→K (t,xg L l) h')(hk:xg L l=0→∀h' G,TreeIs W h' k x G (mI L l)→Upd No h h'→K (G,0) h'):HC PG rx [HJ t,.slice s.a s.len s.cap] [.agg [.int .i64,.int .u64,.int .u64,.int .u64,.ptr,.ptr],.c (.int .i64)] K h:=by
 refine Eb t s ?_;unfold yN cl bw ag aQ aK eJ nv AU r7 yc J0 ax Ka qO cD dh AV;refine aW fun z b1 k1=>aW fun h2 b2 k2=>?_
 have z1:=bD b1;have z2:=bD b2;have s1:h.size≤z.size:=k1.size;have o:=k1.tr k2;refine Ny (hs.upd o fun _ h=>h.elim) (by omega) hz fun h4 k4=>?_
 have k04:=o.tr k4;have H:∀{h':ae} {e:Int},Upd No h2 h'→xg L l=e→e≠0→(∃v5:Int,aP h' (adr (aF h) 0)=some (.int .i64 v5)∧∃v6:Int,aP h' (adr (aF h) 1)=some (.int .u64 v6)∧∃v7:Int,aP h' (adr (aF h) 2)=some (.int .u64 v7)∧∃v8:Int,aP h' (adr (aF h) 3)=some (.int .u64 v8)∧∃v9:Option Addr,aP h' (adr (aF h) 4)=some (.pointer v9)∧∃v10:Option Addr,aP h' (adr (aF h) 5)=some (.pointer v10)∧
   (u6 h' (some (aF z)) 0 [.int .i64 v5,.int .u64 v6,.int .u64 v7,.int .u64 v8,.pointer v9,.pointer v10]∧At (iP h' (aF z) 0 [.int .i64 v5,.int .u64 v6,.int .u64 v7,.int .u64 v8,.pointer v9,.pointer v10]) (fun b=>∃v12:Int,aP b (adr (aF z) 0)=some (.int .i64 v12)∧∃v13:Int,aP b (adr (aF z) 1)=some (.int .u64 v13)∧∃v14:Int,aP b (adr (aF z) 2)=some (.int .u64 v14)∧∃v15:Int,aP b (adr (aF z) 3)=some (.int .u64 v15)∧∃v16:Option Addr,aP b (adr (aF z) 4)=some (.pointer v16)∧∃v17:Option Addr,aP b (adr (aF z) 5)=some (.pointer v17)∧K ((v12,v13,v14,v15,v16,v17),e) b))):=fun{h' e} X ee hne=>by
  have m:=X.get0 (k2.get0 b1);refine⟨_,vc m 0,_,vc m 1,_,vc m 2,_,vc m 3,_,vc m 4,_,vc m 5,?_⟩;refine cU (c:=pi Kc) (vs:=pi t) (X.get0 b2) rfl fun b q S=>?_
  refine⟨_,vc q 0,_,vc q 1,_,vc q 2,_,vc q 3,_,vc q 4,_,vc q 5,?_⟩;subst ee;exact hk0 hne b ((o.tr X).own S s1)
 by_cases P:qj l=0
 rotate_left
 ·rw[show(qj l !=(0:Int))=true by simpa using P]
  exact au.2 (H k4 (by unfold xg;rw[if_pos P]) P)
 rw[P];refine aj.2 ?_;refine DF (p:=fun c=> !vZ L c) (hs.upd k04 fun _ h=>h.elim) (by omega) (fun c hc h' X K' hk'=>HV.mk' (Jo c (aF h) ?_)) fun u k19=>?_
 ·unfold Al yc ax dK dh Zs yU WN Hb
  refine aW fun h1' A Y=>?_
  have kk:=(k4.tr X).tr Y;have m:=kk.get0 (k2.get0 b1);refine⟨_,vc A 0,_,vc A 1,_,vc A 2,_,vc A 3,_,vc A 4,_,vc m 0,_,vc m 1,_,vc m 2,_,vc m 3,_,vc m 4,_,vc m 5,?_⟩;exact YX (i.upd0 (o.tr kk)) (fun y g=>aC (hW y g) (o.tr kk).size) hr (by omega) fun h'' k''=>hk' h'' (Y.tr k'')
 have f:=k4.tr k19;cases ea:l.any (fun c=> !vZ L c)with
 |true=>exact au.2 (H f (by unfold xg;rw[if_neg (fun h=>h P),if_pos ea]) (by omega))
 |false=>
 refine aj.2 ?_;have e0:xg L l=0:=by unfold xg;rw[if_neg (fun h=>h P),ea];rfl
 have kL:=o.tr f;have iL:=i.pro kL;have U:=Pro.lt hW kL;have hlen:=hs.len;have sL:=f.size;have T:Pro W h u h.size:=.inr (by omega);have hP1:Pro W h u z.size:=.inr (by omega);have sz:∀c∈l,c.1.size≤10000∧c.2.2.1.size≤10000:=fun c hc=>by have:=hz c hc;omega
 refine LoopP.ghost (fun(i:Nat) (ti:Int) h'=>ti=(i:Int)∧i≤l.length∧(∃C,TreeIs (Pro W h u) h' k x C (mI L (l.take i))∧h'[h.size]? =some (.cells (pi C).toArray bN (0,0)))∧Upd (· =h.size) u h') (fun i=>l.length-i) 0 ⟨rfl,aS _,⟨t,iL,f.get0 (k2.get0 b1)⟩,Upd.refl _ _⟩ ?_
 rintro I j tj h35 ⟨rfl,hj,⟨C,iv,M⟩,Z⟩ hI;have hus:=Z.size;have V:Upd No h h35:=kL.own Z (al _);refine az (fun w=>?_) fun hge=>?_
 ·have w:j<l.length:=by omega
  obtain⟨a,ha,_,hv⟩:=(hs.upd V fun _ h=>h.elim).at (af w)
  have O:=hz _ (aZ w);have lj:=AF (l.take j) L;rw[aH]at lj;have fj:Fit (mI L (l.take j)):=AJ hf fun c hc=>sz c (List.mem_of_mem_take hc)
  have rj:cf (mI L (l.take j)):=vT hr;refine Join.intro (fun _ D=>(∃C,TreeIs (Pro W h u) D k x C (mI L (l.take (j+1)))∧D[h.size]? =some (.cells (pi C).toArray bN (0,0)))∧Upd (· =h.size) u D) (fun R Q=>⟨⟨by omega,by omega⟩,a,ha,_,hv 0 _ rfl,_,hv 1 _ rfl,_,hv 2 _ rfl,_,hv 3 _ rfl,_,hv 4 _ rfl,?_⟩) ?_
  ·rw[Jh w]at Q
   unfold yS at Q;refine Im (c:=l[j]) fun h44 E n=>⟨_,vc E 4,?_⟩
   have b2:=n.get0 M;have s44:=n.size;refine CondP.intro (fun e=>?_) fun e=>?_
   ·rw[if_pos e]at Q
    refine⟨_,vc b2 0,_,vc b2 1,_,vc b2 2,_,vc b2 3,_,vc b2 4,_,vc b2 5,_,vc E 0,_,vc E 2,?_⟩;refine OB (iv.upd0 n) (fun y g=>aC (U y g) (by omega)) rj (by omega) (l[j].1,l[j].2.2.1) O.1 O.2.2 fun h55 G J _ B=>?_
    refine cU (c:=pi C) (vs:=pi G) (B.get0 b2) rfl fun h56 N d=>Q _ _ ⟨⟨G,J.updM d fun y g=>.inl (by have g:y=h.size:=g;rw[g];exact T),N⟩,((Z.tr n.wide).tr B.wide).tr d⟩
   ·rw[if_neg (by rw[e];exact Bool.false_ne_true)]at Q
    refine⟨_,vc b2 0,_,vc b2 1,_,vc b2 2,_,vc b2 3,_,vc b2 4,_,vc b2 5,_,vc E 0,?_⟩;refine FR (iv.upd0 n) (fun y g=>aC (U y g) (by omega)) rj fj (by omega) l[j].1 O.1 fun h55 G J _ B=>?_
    refine cU (c:=pi C) (vs:=pi G) (B.get0 b2) rfl fun h56 N d=>Q _ _ ⟨⟨G,J.updM d fun y g=>.inl (by have g:y=h.size:=g;rw[g];exact T),N⟩,((Z.tr n.wide).tr B.wide).tr d⟩
  ·rintro _ D ⟨hex,hu2⟩
   rw[fy w (by omega)];exact hI (j+1) _ _ ⟨rfl,w,hex,hu2⟩ (by omega)
 ·have hjl:j=l.length:=by omega
  rw[hjl,bS]at iv;refine⟨_,vc M 0,_,vc M 1,_,vc M 2,_,vc M 3,_,vc M 4,_,vc M 5,?_⟩;refine cU (c:=pi Kc) (vs:=pi C) (Z.get (f.get0 b2) (by show ¬z.size=h.size;omega)) rfl fun h75 v F=>?_
  refine⟨_,vc v 0,_,vc v 1,_,vc v 2,_,vc v 3,_,vc v 4,_,vc v 5,?_⟩;exact hk e0 h75 C ((iv.updM F fun y g=>.inl (by have g:y=z.size:=g;rw[g];exact hP1)).less Pro.sub) (V.own F s1)
end Go.Proofs
namespace Go.Proofs
open Go Go.Lift
end Go.Proofs
namespace Go.Proofs
open Go Go.Lift
end Go.Proofs
namespace Go.Proofs
open Go Go.Lift
theorem WF{W:Nat→Prop}{h:ae}{s:SliceV}{l:List Pr}(b:Sl eC 2 W h s l)(a:cf l)(e:Fit l)(f:l.length≤1000000)(k:ByteArray){K:ByteArray×Bool→ae→Prop}
  (d:K ((look l k).getD ⟨#[]⟩,(look l k).isSome) h):HC PG xD [.slice s.a s.len s.cap,.string k] [.c .str,.c .bool] K h:=
 M5 b a e f k fun v c h2=>by rw[←TG a c h2];exact d
end Go.Proofs
namespace Go.Proofs
theorem WW:∀{n x:Nat},x<2^n→0<x→∃c,c<n∧x.testBit c=true∧∀j,j<c→x.testBit j=false
 |0,x,h,h'=>by simp at h;omega
 |n+1,x,h,h'=>by
  by_cases e:x%2=1
  ·exact⟨0,by omega,by rw[ma];simpa using e,fun j a=>absurd a (Nat.not_lt_zero _)⟩
  ·obtain⟨c,d,h2,b⟩:=WW (n:=n) (x:=x/2) (by rw[Nat.pow_succ]at h;omega) (by omega)
   refine⟨c+1,by omega,by rw[jj];exact h2,fun j a=>?_⟩
   cases j with
   |zero=>rw[ma];simpa using e
   |succ j=>rw[jj];exact b j (by omega)
theorem Ic:∀{c x:Nat},x.testBit c=true→(∀j,j<c→x.testBit j=false)→∀i,(x-1).testBit i=if i<c then true else if i=c then false else x.testBit i
 |0,x,h,_,i=>by
  have h:x%2=1:=by rw[ma]at h;simpa using h
  cases i with
  |zero=>rw[ma,if_neg (by omega),if_pos rfl];simp;omega
  |succ i=>rw[jj,jj,if_neg (by omega),if_neg (by omega)];congr 1;omega
 |c+1,x,h,hl,i=>by
  have a:=hl 0 (by omega);rw[ma]at a;have f:¬x%2=1:=by simpa using a
  have a:x%2=0:=by omega
  rw[jj]at h;have b:0<x/2:=by
   rcases cE (x/2)with e|e
   ·rw[e,g7]at h;cases h
   ·exact e
  cases i with
  |zero=>rw[ma,if_pos (by omega)];simp;omega
  |succ i=>
   have:=Ic (x:=x/2) h (fun j d=>by have:=hl (j+1) (by omega);rwa [jj]at this) i
   rw[jj,jj,show(x-1)/2=x/2-1 by omega,this]
   simp only[Nat.add_lt_add_iff_right,Nat.add_right_cancel_iff]
theorem YN{c x:Nat}(h:x.testBit c=true)(b:∀j,j<c→x.testBit j=false)(hc:c<32)(hx:x<4294967296):x&&&(4294967296-x)=2^c:=by
 have d:0<x:=by
  rcases cE x with e|e
  ·rw[e,g7]at h;cases h
  ·exact e
 refine Nat.eq_of_testBit_eq fun i=>?_
 have e:4294967296-x=2^32-((x-1)+1):=by omega
 rw[jP,e,Nat.testBit_two_pow_sub_succ (by omega),Ic h b,Nat.testBit_two_pow];by_cases a:i<c
 ·rw[if_pos a,b i a];simp;omega
 ·rw[if_neg a]
  by_cases h2:i=c
  ·subst h2;simp[h,hc]
  ·rw[if_neg h2]
   cases x.testBit i<;>simp<;>omega
theorem Vm{c x:Nat}(h:x.testBit c=true)(b:∀j,j<c→x.testBit j=false)(i:Nat):(x&&&(x-1)).testBit i=(x.testBit i&&decide (c<i)):=by
 rw[jP,Ic h b];by_cases a:i<c
 ·rw[if_pos a,b i a];rfl
 ·rw[if_neg a]
  by_cases h2:i=c
  ·subst h2;simp
  ·rw[if_neg h2]
   have:c<i:=by omega
   simp[this]
end Go.Proofs
