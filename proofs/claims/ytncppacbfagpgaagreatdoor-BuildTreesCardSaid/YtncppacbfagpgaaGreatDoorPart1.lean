/- A part of the proof that the named laws of this program answer true, whatever the input. -/
import Derived.Test.YtncppacbfagpgaaGreatDoorPart0
open BitVec renaming ofInt→af,ofInt_natCast→ey,getLsbD_ofNat→kS
open Bool renaming eq_iff_iff→gq
open Int renaming fdiv→dE,toNat_natCast→aM
open List renaming length_append→ac,replicate→dJ,replicate_succ→gv,flatMap_cons→aN,length_cons→ap,flatten_append→dI,flatten_cons→eK,flatten_nil→nL,getElem?_eq_getElem→ae,length→dX,take_of_length_le→bj,length_drop→aV,length_take→aD,range→eZ,range_add→p5,mem_range→ja,mem_cons_self→au,mem_cons_of_mem→aH,filterMap_append→nn,take_left'→dy,drop_left'→cG,drop_drop→dK,size_toArray→dM,append_assoc→ao,pairwise_cons→aS,mem_cons→az
open Nat renaming le_refl→ag,zero_le→aK,le_trans→bh,testBit_shiftRight→na,testBit_and→gn,testBit_two_pow_sub_one→j8,shiftRight_eq_div_pow→cj,lt_of_le_of_lt→eX,min_eq_left→bL,shiftRight_le→gi,mod_eq_of_lt→de,mod_lt→nJ,testBit_two_pow→lA,testBit_lt_two_pow→gH,lt_of_lt_of_le→bH,pow_le_pow_right→fg,zero_add→aR,le_of_eq→fU
open UInt8 renaming ofNat→fe
namespace Go.Proofs
open Go.Lift
theorem OwnS.zero{α:Type}{f:α→List Value}{sz:Nat}{t:TypeId}{M:Nat→Prop}{h:ad}{s:SliceV}{xs:List α}(hs:OwnS f sz t M h s xs):OwnS f sz t M h ⟨aZ s.a 0 s.cap sz,0-0,s.cap-0⟩ []:=by
 have hf:∀x,(f x).length=sz∧0<sz:=hs.ne;have hlen:=hs.len;have hcap:=hs.cap;refine⟨rfl,hf,by simp only;omega,?_⟩
 rcases hs.blk with h0|⟨b,rest,ha,hb,hc,hr⟩
 ·exact .inl (by simp only;omega)
 ·refine .inr ⟨b,xs.flatMap f++rest,by rw[ha,sub_zero],hb,hc,?_⟩
  rw[ac,nW hf,hr,←Nat.add_mul];simp only;congr 1;omega
def OK:Pr:=(⟨#[]⟩,⟨#[]⟩)
theorem IT(n:Nat):dR n [.string (⟨#[]⟩:ByteArray),.string (⟨#[]⟩:ByteArray)]=(dJ n OK).flatMap dD:=by
 unfold dR;induction n with
 |zero=>rfl
 |succ n ih=>rw[gv,gv,aN,←ih];rfl
theorem N7{n:Nat}(hn:n*32≤140737488355328){h:ad}{K:SliceV→ad→Prop}(hk:∀s' h',OwnS dD 2 al (fun b=>h.size≤b) h' s' []→Upd No h h'→K s' h'):
  HC PG eO [.slice none 0 0,.int .i64 n] [.c .slice] K h:=by
 refine lS ⟨none,0,0⟩ n ?_;unfold gP jm;have e:IntKind.wrap .i64 ((n:Int)-IntKind.wrap .i64 (((0:Nat):Int)-((0:Nat):Int)))=(n:Int):=by rw[fL (x:=((0:Nat):Int)-((0:Nat):Int)) (by omega),fL (by omega)];omega
 refine Join.plain (av (fun h=>by omega) fun _=>?_)
 simp only[Bd];rw[e];refine av (fun hp=>?_) fun hz=>hk _ _ (OwnS.nil fq) (Upd.refl _ _)
 refine⟨by omega,⟨by omega,by omega,by omega,by omega⟩,?_⟩
 refine AppP.own (f:=dD) (M:=fun b=>h.size≤b) (xs:= []) (ys:=dJ n OK) (OwnS.nil fq) (by simp) (IT _) (by rw[IT];exact rF _) rfl (by omega) (by simpa using hn) (ag _) fun s' h' ho hu=>?_
 exact⟨by omega,hk _ _ (OwnS.zero ho) (hu.mono fun b hb=>.inr hb)⟩
abbrev slF(s:SliceV):List Value:= [.slice s.a s.len s.cap]
def ParS(h:ad):List SliceV→List (List Pr)→Prop
 | [],[]=>True
 |v::vs,l::ls=>Sl dD 2 No h v l∧ParS h vs ls
 |_,_=>False
theorem ParS.upd{h h':ad}(k:Upd No h h'):∀{vs:List SliceV} {ls:List (List Pr)},ParS h vs ls→ParS h' vs ls
 | [],[],_=>trivial
 |_::_,_::_,q=>⟨q.1.upd k fun _ h=>h.elim,ParS.upd k q.2⟩
 | [],_::_,q=>q.elim
 |_::_,[],q=>q.elim
theorem ParS.len{h:ad}:∀{vs:List SliceV} {ls:List (List Pr)},ParS h vs ls→vs.length=ls.length
 | [],[],_=>rfl
 |_::_,_::_,q=>by rw[ap,ap,ParS.len q.2]
 | [],_::_,q=>q.elim
 |_::_,[],q=>q.elim
theorem ParS.at{h:ad}:∀{vs:List SliceV} {ls:List (List Pr)},ParS h vs ls→∀{i:Nat} (h1:i<vs.length) (h2:i<ls.length),Sl dD 2 No h vs[i] ls[i]
 |_::_,_::_,q,0,_,_=>q.1
 |_::_,_::_,q,i+1,h1,h2=>ParS.at q.2 (by simpa using h1) (by simpa using h2)
theorem DC(ls:List (List Pr)){i:Nat}(hi:i<ls.length):(ls.take (i+1)).flatten=(ls.take i).flatten++ls[i]:=by
 rw[List.take_succ_eq_append_getElem hi,dI,eK,nL,List.append_nil]
theorem Ju(ls:List (List Pr))(i:Nat):(ls.take i).flatten.length≤ls.flatten.length:=by
 have:ls.flatten=(ls.take i).flatten++(ls.drop i).flatten:=by rw[←dI,List.take_append_drop]
 rw[this,ac];omega
theorem KA{h:ad}{s:SliceV}{vs:List SliceV}{ls:List (List Pr)}(hs:Sl slF 1 No h s vs)(hp:ParS h vs ls)(hn:ls.flatten.length*32≤140737488355328)(hv:vs.length≤1000)
  {K:SliceV→ad→Prop}(hk:∀s' h',OwnS dD 2 al (fun b=>h.size≤b) h' s' ls.flatten→Upd No h h'→K s' h'):HC PG eF [.slice s.a s.len s.cap] [.c .slice] K h:=by
 refine lh s ?_;unfold gh bR cn jm;have hlen:=hs.len;have hpl:=hp.len;refine LoopP.ghost (fun(i:Nat) (t:Int×Int) h'=>t.2=(i:Int)∧i≤vs.length∧t.1=((ls.take i).flatten.length:Int)∧h'=h) (fun i=>vs.length-i) 0 ⟨rfl,aK _,by simp,rfl⟩ ?_
 rintro I i ⟨tz,ti⟩ h' ⟨e1,hi,e2,rfl⟩ hI;simp only at e1 e2;subst e1 e2;refine av (fun hlt=>?_) fun hge=>?_
 ·have hlt:i<vs.length:=by have:(i:Int)<(s.len:Int):=hlt;omega
  obtain⟨a,ha,_,hv'⟩:=hs.at (ae hlt);have hvl:=(hp.at hlt (hpl▸hlt)).len;have hft:=congrArg dX (DC ls (hpl▸hlt));rw[ac]at hft;have hfl:=Ju ls (i+1);refine Join.plain ⟨by simp only;omega,a,ha,_,hv' 0 _ rfl,?_⟩;simp only;have ew:IntKind.wrap .i64 (((ls.take i).flatten.length:Int)+((vs[i]).len:Int))=((ls.take (i+1)).flatten.length:Int):=by rw[fL (by omega)];omega
  rw[ew];refine av (fun h=>by omega) fun _=>?_
  rw[cl hlt (by omega)];exact hI (i+1) _ _ ⟨rfl,hlt,rfl,rfl⟩ (by omega)
 ·have hil:i=vs.length:=by have:¬(i:Int)<(s.len:Int):=hge;omega
  rw[bj (by omega)];refine N7 hn fun s0 h0 ho0 hu0=>?_
  refine LoopP.ghost (fun(i:Nat) (t:SliceV×Int) h1=>t.2=(i:Int)∧i≤vs.length∧OwnS dD 2 al (fun b=>h'.size≤b) h1 t.1 (ls.take i).flatten∧Upd No h' h1) (fun i=>vs.length-i) 0 ⟨rfl,aK _,by simpa using ho0,hu0⟩ ?_
  rintro I2 j ⟨sj,tj⟩ h1 ⟨e1,hj,ho,hu⟩ hI2;simp only at e1 ho;subst e1;refine av (fun hlt=>?_) fun hge2=>?_
  ·have hlt:j<vs.length:=by have:(j:Int)<(s.len:Int):=hlt;omega
   obtain⟨a,ha,_,hv'⟩:=(hs.upd hu fun _ h=>h.elim).at (ae hlt)
   have hvj:=((hp.upd hu).at hlt (hpl▸hlt));have hft:=DC ls (hpl▸hlt);have hft2:=congrArg dX hft;rw[ac]at hft2;have hfl:=Ju ls (j+1);refine Join.plain ⟨by simp only;omega,a,ha,_,hv' 0 _ rfl,_,hvj.srow,?_⟩;refine AppP.own (ys:=ls[j]) ho hvj.len rfl (rF _) rfl (by omega) (by omega) hu.size fun s2 h2 ho2 hu2=>?_
   simp only;rw[cl hlt (by omega)];exact hI2 (j+1) _ _ ⟨rfl,hlt,hft▸ho2,hu.trans hu2 fun b hb=>.inr hb⟩ (by omega)
  ·have hjl:j=vs.length:=by have:¬(j:Int)<(s.len:Int):=hge2;omega
   rw[bj (by omega)]at ho;exact hk _ _ ho hu
def El(l:List Pr)(p:Pr):List Pr:=l.take (sR l p.1)++p::l.drop (if lD l p.1 then sR l p.1+1 else sR l p.1)
theorem L7{l:List Pr}(hr:d9 l){k:ByteArray}(ht:lD l k=true):∃h:sR l k<l.length,l[sR l k].1=k:=by
 unfold lD at ht;obtain⟨p,hp,e⟩:=List.any_eq_true.1 ht;have e:=of_decide_eq_true e;obtain⟨q,hq,rfl⟩:=List.mem_iff_getElem.1 hp;have:sR l k=q:=L6 (by omega) (fun j hj hjq=>by rw[←e];exact List.pairwise_iff_getElem.1 hr j q hj hq hjq) fun h=>by rw[←e];exact dw _
 subst this;exact⟨hq,e⟩
theorem LO{h:ad}{s:SliceV}{l:List Pr}(hs:Sl dD 2 No h s l){i j m:Nat}(h1:i≤j)(h2:j≤l.length)(h3:j≤m)(c:Nat):Sl dD 2 No h ⟨aZ s.a i m 2,j-i,c⟩ ((l.drop i).take (j-i)):=Sl.sub hs h1 h2 h3
theorem HB{h:ad}{s:SliceV}{l:List Pr}(hs:Sl dD 2 No h s l)(hc:s.len≤s.cap)(hr:d9 l)(hn:l.length≤1000000000)(p:Pr)
  {K:SliceV→ad→Prop}(hk:∀s' h',OwnS dD 2 al (fun b=>h.size≤b) h' s' (El l p)→Upd No h h'→K s' h'):HC PG vK [.slice s.a s.len s.cap,.agg #[.string p.1,.string p.2]] [.c .slice] K h:=by
 refine IC s p ?_;unfold BR aF im ut xS B7;have hlen:=hs.len;have k1:=Upd.hnew No h [.string p.1,.string p.2] al;have b1:=dj h [.string p.1,.string p.2] al;refine bM ?_;simp only[fk h];generalize hnew h [.string p.1,.string p.2] al=h1 at k1 b1;refine⟨p.1,by rw[cc,bo b1];rfl,N8 (hs.upd k1 fun _ h=>h.elim) hr hn p.1 fun h2 hu2=>?_⟩
 have hp:=O6 l p.1;have hu02:=k1.tr hu2;refine⟨by simp only;omega,?_⟩;let q:=if lD l p.1 then sR l p.1+1 else sR l p.1
 have hq:q≤l.length:=by
  show(if lD l p.1 then sR l p.1+1 else sR l p.1)≤l.length
  split
  ·rename_i ht;obtain⟨h,_⟩:=L7 hr ht;omega
  ·exact hp
 refine Join.intro (fun t h'=>h'=h2∧t=⟨aZ s.a q s.cap 2,s.len-q,s.cap-q⟩) (fun R hR=>?_) ?_
 ·refine CondP.intro (fun e=>?_) fun e=>hR _ _ ⟨rfl,?_⟩
  ·have e:lD l p.1=true:=e
   obtain⟨hlt,_⟩:=L7 hr e;have ew:IntKind.wrap .i64 ((sR l p.1:Int)+1)=((sR l p.1+1:Nat):Int):=by rw[fL (by omega)];omega
   simp only;rw[ew];refine⟨by omega,hR _ _ ⟨rfl,?_⟩⟩;have:q=sR l p.1+1:=by show(if lD l p.1 then _ else _)=_;rw[if_pos e]
   rw[this];rfl
  ·have e:lD l p.1=false:=e
   have:q=sR l p.1:=by show(if lD l p.1 then _ else _)=_;rw[if_neg (by rw[e];decide)]
   rw[this];rfl
 ·rintro t h' ⟨rfl,rfl⟩
  have b2:=hu2.get0 b1;refine⟨by simp only;omega,p.1,by rw[cc,bo b2];rfl,p.2,by rw[cc,bo b2];rfl,?_⟩
  have k3:=Upd.hnew No h' [.string p.1,.string p.2] al;have b3:=dj h' [.string p.1,.string p.2] al;refine bM ?_;simp only[fk h'];generalize hnew h' [.string p.1,.string p.2] al=h3 at k3 b3;refine bM ?_;have hs2:=(hs.upd hu02 fun _ h=>h.elim).upd k3 fun _ h=>h.elim
  have k4:=Upd.hnew No h3 [.slice (aZ s.a 0 s.cap 2) ((sR l p.1:Int).toNat-0) (s.cap-0),.slice (some ⟨h'.size,0,none⟩) 1 1,.slice (aZ s.a q s.cap 2) (s.len-q) (s.cap-q)] cD;have b4:=dj h3 [.slice (aZ s.a 0 s.cap 2) ((sR l p.1:Int).toNat-0) (s.cap-0),.slice (some ⟨h'.size,0,none⟩) 1 1,.slice (aZ s.a q s.cap 2) (s.len-q) (s.cap-q)] cD;have hA:=LO hs2 (i:=0) (j:=sR l p.1) (m:=s.cap) (aK _) hp (by omega) (s.cap-0)
  have hB:Sl dD 2 No h3 ⟨some ⟨h'.size,0,none⟩,1,1⟩ [p]:=⟨rfl,fq,fun _=>⟨_,rfl,fun h=>h.elim,pb b3 fun i v hv=>by simpa using hv⟩⟩
  have hC:=LO hs2 (i:=q) (j:=l.length) (m:=s.cap) hq (ag _) (by omega) (s.cap-q);rw[←hlen]at hC;rw[List.drop_zero]at hA;rw[bj (by rw[aV];omega)]at hC;have e0:El l p= [l.take (sR l p.1-0),[p],l.drop q].flatten:=by simp[El,q]
  refine KA (s:=⟨some (aC h3),3,3⟩) (vs:= [⟨aZ s.a 0 s.cap 2,(sR l p.1:Int).toNat-0,s.cap-0⟩,⟨some ⟨h'.size,0,none⟩,1,1⟩,⟨aZ s.a q s.cap 2,s.len-q,s.cap-q⟩]) (ls:= [l.take (sR l p.1-0),[p],l.drop q])
   ⟨rfl,fun x=>⟨rfl,Nat.one_pos⟩,fun _=>⟨_,rfl,fun h=>h.elim,pb b4 fun i v hv=>by simpa[slF]using hv⟩⟩ ⟨hA.upd k4 fun _ h=>h.elim,hB.upd k4 fun _ h=>h.elim,hC.upd k4 fun _ h=>h.elim,trivial⟩ ?_ (by simp) fun s5 h5 ho5 hu5=>?_
  ·simp only[eK,nL,ac,aD,aV,List.length_singleton,List.length_nil];omega
  ·rw[←e0]at ho5
   have hu:=((hu02.tr k3).tr k4);exact hk _ _ (ho5.more fun b hb=>bh hu.size hb) (hu.tr hu5)
end Go.Proofs
namespace Go.Proofs
open Go.Lift
def rv(n d:Nat):Nat:=(eZ n).countP (d.testBit ·)
theorem zY(m n d:Nat):rv (m+n) d=rv m d+rv n (d>>>m):=by
 unfold rv;rw[p5,List.countP_append,List.countP_map];congr 1
 refine List.countP_congr fun i _=>?_
 simp[na]
theorem JA(d:Nat)(i:Nat):∀n,i≤n→rv n (d&&&(2^i-1))=rv i d:=by
 intro n hn;obtain⟨m,rfl⟩:=Nat.exists_eq_add_of_le hn;rw[zY];have e1:rv i (d&&&(2^i-1))=rv i d:=by
  unfold rv;refine List.countP_congr fun j hj=>?_
  have:=ja.1 hj;simp[gn,j8,this]
 have e2:rv m ((d&&&(2^i-1))>>>i)=0:=by
  unfold rv;rw[List.countP_eq_zero];intro j _;simp[na,gn,j8];intro h;omega
 omega
theorem Pm(d:Nat):rv 8 (d&&&255)=rv 8 d:=JA d 8 8 (ag _)
theorem vN(n d:Nat):rv n d≤n:=by
 have:=List.countP_le_length (p:=(d.testBit ·)) (l:=eZ n)
 simpa[rv]using this
theorem kE(d n:Nat):dE (d:Int) (2^n)=((d>>>n:Nat):Int):=by
 rw[Int.fdiv_eq_ediv_of_nonneg _ (by exact Int.le_of_lt (Int.pow_pos (by decide))),cj];simp
theorem MS(a b:Nat):(af (IntKind.bits .u32) (a:Int)&&&af (IntKind.bits .u32) (b:Int)).toNat=(a%4294967296)&&&(b%4294967296):=by
 simp[IntKind.bits,BitVec.toNat_and,BitVec.toNat_ofInt];rfl
theorem wi{n:Nat}(h:n<4294967296):IntKind.wrap .u32 (n:Int)=(n:Int):=Go.IntWalk.u32_in _ (by omega)
theorem AF{i:Nat}(hi:i<32){h:ad}{K:Bool→ad→Prop}(hk:K true h):HC PG lL [.int .i64 i] [.c .bool] K h:=by
 refine CC i ?_;unfold u0;refine av (fun _=>?_) fun h=>absurd (Int.natCast_nonneg i) h
 rw[decide_eq_true (by omega)];exact hk
theorem EJ{a b:Nat}(h:b<4294967296):a&&&b<4294967296:=eX Nat.and_le_right h
theorem yb{d i:Nat}(hd:d<4294967296)(hi:i<32){h:ad}{K:Bool→ad→Prop}(hk:K (d.testBit i) h):HC PG fc [.int .u32 d,.int .i64 i] [.c .bool] K h:=by
 refine yB d i ?_;unfold rt;refine AF hi (aB.2 ⟨by omega,?_⟩);have e:min (i:Int).toNat (IntKind.bits .u32)=i:=by rw[aM];exact bL (by show i≤32;omega)
 rw[e,kE];have e2:=MS (d>>>i) 1;have hlt:d>>>i<4294967296:=eX (gi d i) hd;rw[de hlt,show(1:Nat)%4294967296=1 from rfl]at e2
 simp only[Bd];rw[show((1:Nat):Int)=(1:Int)from rfl]at e2
 rw[e2,wi (EJ (by omega))];have e3:(((d>>>i&&&1:Nat):Int)==(1:Int))=d.testBit i:=by
  rw[gq,beq_iff_eq,Nat.testBit,Nat.and_comm];simp only[bne_iff_ne,ne_eq,Nat.one_and_eq_mod_two];have:(d>>>i)%2<2:=nJ _ (by omega);omega
 rw[e3];exact hk
theorem KS{d i:Nat}(hd:d<4294967296)(hi:i<32):∃w:Nat,IntKind.wrap .u32 (af (IntKind.bits .u32) (d:Int)|||af (IntKind.bits .u32) (IntKind.wrap .u32 (1*2^(min (i:Int).toNat (IntKind.bits .u32))))).toNat=(w:Int)∧w<4294967296∧∀j,w.testBit j=(d.testBit j||decide (j=i)):=by
 have e:min (i:Int).toNat (IntKind.bits .u32)=i:=by rw[aM];exact bL (by show i≤32;omega)
 have hp:2^i<4294967296:=Nat.pow_lt_pow_right (by omega) (show i<32 from hi)
 have e2:(1*2^i:Int)=((2^i:Nat):Int):=by simp
 rw[e,e2,wi hp];refine⟨_,wi (BitVec.isLt _),BitVec.isLt _,fun j=>?_⟩
 rw[BitVec.testBit_toNat,BitVec.getLsbD_or,ey,ey,kS,kS,lA];by_cases hj:j<32
 ·have:decide (j<IntKind.bits .u32)=true:=decide_eq_true hj
  rw[this];simp[eq_comm]
 ·have h1:decide (j<IntKind.bits .u32)=false:=decide_eq_false hj
  have h2:d.testBit j=false:=gH (bH hd (fg (n:=2) (by omega) (show 32≤j by omega)))
  rw[h1,h2];simp;omega
theorem IY{d i:Nat}(hd:d<4294967296)(hi:i<32){h:ad}{K:Int→ad→Prop}(hk:∀w:Nat,w<4294967296→(∀j,w.testBit j=(d.testBit j||decide (j=i)))→K (w:Int) h):HC PG eJ [.int .u32 d,.int .i64 i] [.c (.int .u32)] K h:=by
 refine xt d i ?_;unfold qz;refine AF hi (aj.2 ⟨by omega,?_⟩);obtain⟨w,e,h1,h2⟩:=KS hd hi;simp only[Bd];rw[e];exact hk w h1 h2
theorem EH{d i:Nat}(hd:d<4294967296)(hi:i<32):∃w:Nat,IntKind.wrap .u32 (af (IntKind.bits .u32) (d:Int)&&& ~~~af (IntKind.bits .u32) (IntKind.wrap .u32 (1*2^(min (i:Int).toNat (IntKind.bits .u32))))).toNat=(w:Int)∧w<4294967296∧∀j,w.testBit j=(d.testBit j&&decide (j≠i)):=by
 have e:min (i:Int).toNat (IntKind.bits .u32)=i:=by rw[aM];exact bL (by show i≤32;omega)
 have hp:2^i<4294967296:=Nat.pow_lt_pow_right (by omega) (show i<32 from hi)
 have e2:(1*2^i:Int)=((2^i:Nat):Int):=by simp
 rw[e,e2,wi hp];refine⟨_,wi (BitVec.isLt _),BitVec.isLt _,fun j=>?_⟩
 rw[BitVec.testBit_toNat,BitVec.getLsbD_and,BitVec.getLsbD_not,ey,ey,kS,kS,lA];by_cases hj:j<32
 ·have:decide (j<IntKind.bits .u32)=true:=decide_eq_true hj
  rw[this];simp[eq_comm]
 ·have h1:decide (j<IntKind.bits .u32)=false:=decide_eq_false hj
  have h2:d.testBit j=false:=gH (bH hd (fg (n:=2) (by omega) (show 32≤j by omega)))
  rw[h1,h2];simp
theorem Ad{d i:Nat}(hd:d<4294967296)(hi:i<32){h:ad}{K:Int→ad→Prop}(hk:∀w:Nat,w<4294967296→(∀j,w.testBit j=(d.testBit j&&decide (j≠i)))→K (w:Int) h):HC PG ix [.int .u32 d,.int .i64 i] [.c (.int .u32)] K h:=by
 refine tJ d i ?_;unfold oz;refine AF hi (aj.2 ⟨by omega,?_⟩);obtain⟨w,e,h1,h2⟩:=EH hd hi;simp only[Bd];rw[e];exact hk w h1 h2
abbrev PS:ByteArray:=⟨#[0,1,1,2,1,2,2,3,1,2,2,3,2,3,3,4,1,2,2,3,2,3,3,4,2,3,3,4,3,4,4,5,1,2,2,3,2,3,3,4,2,3,3,4,3,4,4,5,2,3,3,4,3,4,4,5,3,4,4,5,4,5,5,6,1,2,2,3,2,3,3,4,2,3,3,4,3,4,4,5,2,3,3,4,3,4,4,5,3,4,4,5,4,5,5,6,2,3,3,4,3,4,4,5,3,4,4,5,4,5,5,6,3,4,4,5,4,5,5,6,4,5,5,6,5,6,6,7,1,2,2,3,2,3,3,4,2,3,3,4,3,4,4,5,2,3,3,4,3,4,4,5,3,4,4,5,4,5,5,6,2,3,3,4,3,4,4,5,3,4,4,5,4,5,5,6,3,4,4,5,4,5,5,6,4,5,5,6,5,6,6,7,2,3,3,4,3,4,4,5,3,4,4,5,4,5,5,6,3,4,4,5,4,5,5,6,4,5,5,6,5,6,6,7,3,4,4,5,4,5,5,6,4,5,5,6,5,6,6,7,4,5,5,6,5,6,6,7,5,6,6,7,6,7,7,8]⟩
theorem Ns:(eZ 256).all (fun b=>decide (PS[b]? =some (fe (rv 8 b))))=true:=by decide+kernel
theorem D4{b:Nat}(h:b<256):PS[b]? =some (fe (rv 8 b)):=of_decide_eq_true (List.all_eq_true.1 Ns b (ja.2 h))
theorem Ez(b:Nat):(fe (rv 8 b)).toNat=rv 8 b:=by
 have:=vN 8 b;simp;omega
theorem Qz(d:Nat):rv 32 d=rv 8 (d>>>24)+rv 8 ((d>>>16)&&&255)+rv 8 ((d>>>8)&&&255)+rv 8 (d&&&255):=by
 rw[Pm,Pm,Pm,show(32:Nat)=8+(8+(8+8))from rfl,zY,zY,zY]
 simp only[←Nat.shiftRight_add,Nat.reduceAdd];omega
set_option maxRecDepth 100000 in
theorem NT{d:Nat}(hd:d<4294967296){h:ad}{K:Int→ad→Prop}(hk:K (rv 32 d:Int) h):HC PG iZ [.int .u32 d] [.c (.int .i64)] K h:=by
 refine rk d ?_;unfold mD;have e24:dE (d:Int) (2^(min (24:Int).toNat (IntKind.bits .u32)))=((d>>>24:Nat):Int):=kE d 24;have e16:dE (d:Int) (2^(min (16:Int).toNat (IntKind.bits .u32)))=((d>>>16:Nat):Int):=kE d 16;have e8:dE (d:Int) (2^(min (8:Int).toNat (IntKind.bits .u32)))=((d>>>8:Nat):Int):=kE d 8;have b:∀x:Nat,x<4294967296→IntKind.wrap .u32 (af (IntKind.bits .u32) (x:Int)&&&af (IntKind.bits .u32) 255).toNat=((x&&&255:Nat):Int):=fun x hx=>by
  have:=MS x 255;rw[de hx]at this;rw[show((255:Nat):Int)=(255:Int)from rfl]at this
  rw[this,wi (EJ (by omega))]
 have l24:d>>>24<256:=by rw[cj];omega
 have lb:∀x:Nat,x&&&255<256:=fun x=>eX Nat.and_le_right (by omega)
 have s16:d>>>16<4294967296:=eX (gi d 16) hd;have s8:d>>>8<4294967296:=eX (gi d 8) hd;simp only[Bd];rw[e24,e16,e8,b _ s16,b _ s8,b _ hd];refine⟨by decide,_,by omega,D4 (b:=d>>>24) l24,by decide,_,by omega,D4 (lb _),by decide,_,by omega,D4 (lb _),_,by omega,D4 (lb _),?_⟩
 rw[Ez,Ez,Ez,Ez];simp only[aM];have q1:=vN 8 (d>>>24);have q2:=vN 8 (d>>>16&&&255);have q3:=vN 8 (d>>>8&&&255);have q4:=vN 8 (d&&&255);rw[Qz]at hk;have u8:∀n:Nat,n≤255→IntKind.wrap .u8 (n:Int)=(n:Int):=fun n hn=>Go.IntWalk.u8_in _ (by omega)
 rw[←Int.natCast_add,u8 _ (by omega),←Int.natCast_add,u8 _ (by omega),←Int.natCast_add,u8 _ (by omega),fL (by omega)];exact hk
theorem nQ{d i:Nat}(hd:d<4294967296)(hi:i<32){h:ad}{K:Int→ad→Prop}(hk:K (rv i d:Int) h):HC PG dg [.int .u32 d,.int .i64 i] [.c (.int .i64)] K h:=by
 refine xu d i ?_;unfold qA bV;refine av (fun h0=>?_) fun h0=>?_
 ·have:i=0:=by omega
  subst this;exact hk
 ·refine av (fun h=>by omega) fun _=>⟨by omega,?_⟩
  have e:min (i:Int).toNat (IntKind.bits .u32)=i:=by rw[aM];exact bL (by show i≤32;omega)
  have hp:2^i<4294967296:=Nat.pow_lt_pow_right (by omega) (show i<32 from hi)
  have hp0:0<2^i:=Nat.pow_pos (by omega);have e2:(1*2^i:Int)=((2^i:Nat):Int):=by simp
  have e3:(((2^i:Nat):Int)-1)=((2^i-1:Nat):Int):=by omega
  simp only[Bd];rw[e,e2,wi hp,e3,wi (show 2^i-1<4294967296 by omega),MS,de hd,de (show 2^i-1<4294967296 by omega),wi (EJ (by omega))]
  refine vZ _ ?_;unfold pX bV;refine NT (EJ (by omega)) ?_;rw[JA d i 32 (by omega)];exact hk
end Go.Proofs
namespace Go.Proofs
open Go.Lift
def fm{β:Type}(g:Nat→Option β)(n:Nat):List β:=(eZ n).filterMap g
def upd{β:Type}(g:Nat→Option β)(i:Nat)(x:Option β)(j:Nat):Option β:=if j=i then x else g j
theorem P2{β:Type}{f g:Nat→Option β}:∀l:List Nat,(∀j∈l,f j=g j)→l.filterMap f=l.filterMap g
 | [],_=>rfl
 |j::l,h=>by
  rw[List.filterMap_cons,List.filterMap_cons,h j (au ..),P2 l fun k hk=>h k (aH _ hk)]
section
variable {β:Type} {g:Nat→Option β} {d:Nat}
theorem A2(hd:∀c,c<32→d.testBit c=(g c).isSome){i:Nat}(hi:i≤32):(fm g i).length=rv i d:=by
 unfold fm rv;rw[List.length_filterMap_eq_countP];exact List.countP_congr fun j hj=>by rw[hd j (by have:=ja.1 hj;omega)]
theorem om{i n:Nat}(hi:i<n):fm g n=fm g i++((g i).toList++(eZ (n-(i+1))).filterMap fun j=>g (i+1+j)):=by
 unfold fm;have e:n=i+(1+(n-(i+1))):=by omega
 rw[e,p5,nn,p5];have e2:i+(1+(n-(i+1)))-(i+1)=n-(i+1):=by omega
 rw[e2];congr 1
 rw[List.map_append,nn,List.map_map];congr 1
 rw[List.filterMap_map];refine P2 _ fun j _=>?_
 show g (i+(1+j))=_
 rw[Nat.add_assoc]
theorem vD{i:Nat}{x:Option β}:fm (upd g i x) i=fm g i:=by
 unfold fm;refine P2 _ fun j hj=>?_
 have:=ja.1 hj;unfold upd;rw[if_neg (by omega)]
theorem te{i m:Nat}{x:Option β}:((eZ m).filterMap fun j=>upd g i x (i+1+j))=(eZ m).filterMap fun j=>g (i+1+j):=by
 refine P2 _ fun j _=>?_
 unfold upd;rw[if_neg (by omega)]
theorem Ms{i:Nat}(hi:i<32)(hd:∀c,c<32→d.testBit c=(g c).isSome)(hn:g i=none)(x:β):fm (upd g i (some x)) 32=(fm g 32).take (rv i d)++x::(fm g 32).drop (rv i d):=by
 have hl:=A2 hd (i:=i) (by omega);rw[om (g:=upd g i (some x)) hi,om (g:=g) hi,vD,te,hn,dy hl,cG hl];simp[upd]
theorem Mr{i:Nat}(hi:i<32)(hd:∀c,c<32→d.testBit c=(g c).isSome){y:β}(hn:g i=some y)(x:β):fm (upd g i (some x)) 32=(fm g 32).take (rv i d)++x::(fm g 32).drop (rv i d+1):=by
 have hl:=A2 hd (i:=i) (by omega);rw[om (g:=upd g i (some x)) hi,om (g:=g) hi,vD,te,hn,dy hl,←dK,cG hl];simp[upd]
theorem Mu{i:Nat}(hi:i<32)(hd:∀c,c<32→d.testBit c=(g c).isSome){y:β}(hn:g i=some y):fm (upd g i none) 32=(fm g 32).take (rv i d)++(fm g 32).drop (rv i d+1):=by
 have hl:=A2 hd (i:=i) (by omega);rw[om (g:=upd g i none) hi,om (g:=g) hi,vD,te,hn,dy hl,←dK,cG hl];simp[upd]
theorem Mv{i:Nat}(hi:i<32)(hd:∀c,c<32→d.testBit c=(g c).isSome){y:β}(hn:g i=some y):(fm g 32)[rv i d]? =some y:=by
 have hl:=A2 hd (i:=i) (by omega);rw[om (g:=g) hi,hn,List.getElem?_append_right (by omega),hl,Nat.sub_self];rfl
theorem DB{i:Nat}(hi:i<32)(hd:∀c,c<32→d.testBit c=(g c).isSome){y:β}(hn:g i=some y):rv i d<(fm g 32).length:=(List.getElem?_eq_some_iff.1 (Mv hi hd hn)).1
theorem OG{i:Nat}(hi:i<32)(hd:∀c,c<32→d.testBit c=(g c).isSome):rv i d≤(fm g 32).length:=by
 have hl:=A2 hd (i:=i) (by omega);rw[om (g:=g) hi,ac];omega
theorem wQ:(fm g 32).length≤32:=by
 have:=List.length_filterMap_le g (eZ 32);simpa[fm]using this
end
end Go.Proofs
namespace Go.Proofs
open Go.Lift
abbrev sv(s:SliceV):Value:=.slice s.a s.len s.cap
structure Slots where
 p:Nat→Option Pr
 k:Nat→Option (Option Addr)
def fb(d n:Nat)(sp sk:SliceV)(bu:Bool)(ow:Option Addr):Array Value:= #[.int .u32 (d:Int),.int .u32 (n:Int),sv sp,sv sk,.bool bu,.pointer ow]
structure BitsOf(d n:Nat)(s:Slots):Prop where
 d32:d<4294967296
 n32:n<4294967296
 dp:∀c,c<32→d.testBit c=(s.p c).isSome
 nk:∀c,c<32→n.testBit c=(s.k c).isSome
structure NodeAt(W:Nat→Prop)(h:ad)(b:Nat)(s:Slots):Prop where
 ex:∃d n sp sk ow,h[b]? =some (.cells (fb d n sp sk false ow) bm (0,0))∧BitsOf d n s∧Sl dD 2 W h sp (fm s.p 32)∧Sl oX 1 W h sk (fm s.k 32)∧sp.len≤sp.cap∧sk.len≤sk.cap
 nw:¬W b
theorem NodeAt.upd{W M:Nat→Prop}{h h':ad}{b:Nat}{s:Slots}(n:NodeAt W h b s)(k:Upd M h h')(hm:∀b,M b→W b∨h.size≤b):NodeAt W h' b s:=by
 obtain⟨d,m,sp,sk,ow,h1,h2,h3,h4,h5,h6⟩:=n.ex;exact⟨⟨d,m,sp,sk,ow,k.get h1 (fun hb=>(hm _ hb).elim n.nw fun h=>by have:=bw h1;omega),h2,h3.upd k hm,h4.upd k hm,h5,h6⟩,n.nw⟩
structure OwnN(M:Nat→Prop)(h:ad)(b d n:Nat)(sp sk:SliceV)(s:Slots)(ow:Option Addr):Prop where
 blk:h[b]? =some (.cells (fb d n sp sk false ow) bm (0,0))
 bits:BitsOf d n s
 ex:∃A B:Nat→Prop,OwnS dD 2 al A h sp (fm s.p 32)∧OwnS oX 1 bK B h sk (fm s.k 32)∧(∀x,A x→M x∧¬B x∧x≠b∧x<h.size)∧(∀x,B x→M x∧x≠b∧x<h.size)
 mb:M b
theorem AO{h:ad}{K:Bool→ad→Prop}(hk:K false h):HC PG jr [.pointer none] [.c .bool] K h:=by
 refine vR none ?_;unfold pP hH;exact aj.2 hk
theorem Dg{b:Nat}{h:ad}{K:Bool→ad→Prop}(hk:K false h):HC PG mV [.pointer (some ⟨b,0,none⟩),.pointer none] [.c .bool] K h:=by
 refine xo _ none ?_;unfold qv yS;exact aB.2 (AO (aj.2 hk))
theorem OwnN.upd{M M':Nat→Prop}{h h':ad}{b d n:Nat}{sp sk:SliceV}{s:Slots}{ow:Option Addr}(o:OwnN M h b d n sp sk s ow)(k:Upd M' h h')(hm:∀x,M' x→¬M x):OwnN M h' b d n sp sk s ow:=by
 obtain⟨A,B,h1,h2,h3,h4⟩:=o.ex;have z:=k.size;exact⟨k.get o.blk fun hb=>hm _ hb o.mb,o.bits,⟨A,B,h1.upd k fun x hx hy=>hm _ hy (h3 x hx).1,h2.upd k fun x hx hy=>hm _ hy (h4 x hx).1,fun x hx=>⟨(h3 x hx).1,(h3 x hx).2.1,(h3 x hx).2.2.1,by have:=(h3 x hx).2.2.2;omega⟩,fun x hx=>⟨(h4 x hx).1,(h4 x hx).2.1,by have:=(h4 x hx).2.2;omega⟩⟩,o.mb⟩
set_option maxRecDepth 4000 in
theorem Mc{W:Nat→Prop}{h:ad}{b:Nat}{s:Slots}(nd:NodeAt W h b s){K:Option Addr→ad→Prop}
  (hk:∀h' d n sp sk,OwnN (fun x=>h.size≤x) h' h.size d n sp sk s none→Upd No h h'→K (some ⟨h.size,0,none⟩) h'):
  HC PG ig [.pointer (some ⟨b,0,none⟩),.pointer none] [.c .ptr] K h:=by
 obtain⟨d,n,sp,sk,ow,hb,bits,hsp,hsk,hcp,hck⟩:=nd.ex;refine sr _ none ?_;unfold oO nv d6 hH bU Ll f8 Aj yS OM;refine Dg (aj.2 ?_);have c:∀{h:ad} {b:Nat} {c:Array Value} {i:Nat},h[b]? =some (.cells c bm (0,0))→aO h ⟨b,0+i,none⟩=c[i]?:=fun hb=>by rw[aR];exact bo hb
 refine⟨_,rfl,_,c (i:=0) hb,_,c (i:=1) hb,sp,c (i:=2) hb,sk,c (i:=3) hb,_,c (i:=4) hb,_,c (i:=5) hb,?_⟩;have k1:=Upd.hnew No h [.int .u32 0,.int .u32 0,.slice none 0 0,.slice none 0 0,.bool false,.pointer none] bm;have b1:=dj h [.int .u32 0,.int .u32 0,.slice none 0 0,.slice none 0 0,.bool false,.pointer none] bm;refine bM ?_;simp only[fk h];generalize hnew h [.int .u32 0,.int .u32 0,.slice none 0 0,.slice none 0 0,.bool false,.pointer none] bm=h1 at k1 b1
 have hs1:iM h1 ⟨h.size,0,none⟩ 0 [.int .u32 (d:Int),.int .u32 (n:Int),.slice sp.a sp.len sp.cap,.slice sk.a sk.len sk.cap,.bool false,.pointer ow]=_:=ia _ h1 0 0 _ b1 (by simp);refine⟨.inr ⟨_,rfl,fun j hj=>by rw[cc];exact gB b1 (by simp at hj⊢;omega)⟩,bM ?_⟩
 rw[hs1];have b2:=iq (o:=.cells (fb d n sp sk false ow) bm (0,0)) b1;have k2:Upd No h _:=k1.trans (M':=(· =h.size)) (Upd.set h1 (.cells (fb d n sp sk false ow) bm (0,0)) rfl) fun x hx=>.inr (fU hx.symm)
 have hz2:h.size<(h1.setIfInBounds h.size (.cells (fb d n sp sk false ow) bm (0,0))).size:=bw b2;have hbb:h.size≠b:=fun e=>by have:=bw hb;omega
 have e2:(Obj.cells (List.take (0+0) [Value.int .u32 0,.int .u32 0,.slice none 0 0,.slice none 0 0,.bool false,.pointer none]++ [Value.int .u32 (d:Int),.int .u32 (n:Int),.slice sp.a sp.len sp.cap,.slice sk.a sk.len sk.cap,.bool false,.pointer ow]++List.drop (0+0+ [Value.int .u32 (d:Int),.int .u32 (n:Int),.slice sp.a sp.len sp.cap,.slice sk.a sk.len sk.cap,.bool false,.pointer ow].length) [Value.int .u32 0,.int .u32 0,.slice none 0 0,.slice none 0 0,.bool false,.pointer none]).toArray bm (0,0))=.cells (fb d n sp sk false ow) bm (0,0):=rfl
 rw[e2];generalize h1.setIfInBounds h.size (.cells (fb d n sp sk false ow) bm (0,0))=h2 at b2 k2 hz2;have hb2:=k2.get0 hb;refine⟨_,rfl,sp,c (i:=2) hb2,_,rfl,sk,c (i:=3) hb2,?_⟩;refine uh (hsp.upd k2 fun _ h=>h.elim) (by have:=wQ (g:=s.p);omega) fun s3 h3 ho3 hu3=>?_
 refine⟨c (i:=3) (hu3.get0 hb2),?_⟩;refine yl ((hsk.upd k2 fun _ h=>h.elim).upd hu3 fun _ h=>h.elim) (by have:=wQ (g:=s.k);omega) fun s4 h4 ho4 hu4=>?_
 have b4:=hu4.get0 (hu3.get0 b2);have ho3':=ho3.within.upd hu4 fun _ _ h=>h
 have ho4':=ho4.within;have z3:=hu3.size;have z4:=hu4.size;have w:∀{h:ad} {c:Array Value} {x i:Nat},h[x]? =some (.cells c bm (0,0))→i<c.size→Wr h ⟨x,0+i,none⟩:=fun hb hi=>by rw[aR];exact gB hb hi
 have st:∀{h:ad} {c c':Array Value} {x i:Nat} {v:Value} {k:ad→Prop},h[x]? =some (.cells c bm (0,0))→c.setIfInBounds i v=c'→(∀h',h'[x]? =some (.cells c' bm (0,0))→Upd (· =x) h h'→k h')→At (hset h ⟨x,i,none⟩ v) k:=fun hb e hk=>rU hb fun h' hb' hu=>hk h' (e▸hb') hu
 refine⟨w (i:=2) b4 (show 2<6 by decide),st (i:=2) (c':=fb d n s3 sk false ow) b4 rfl fun h5 b5 hu5=>?_⟩
 refine⟨w (i:=3) b5 (show 3<6 by decide),st (i:=3) (c':=fb d n s3 s4 false ow) b5 rfl fun h6 b6 hu6=>?_⟩
 refine⟨w (i:=5) b6 (show 5<6 by decide),st (i:=5) (c':=fb d n s3 s4 false none) b6 rfl fun h7 b7 hu7=>?_⟩
 refine AO (aj.2 ?_);have hu47:=hu5.tr (hu6.tr hu7);have z7:=hu47.size;refine hk _ d n s3 s4 ⟨b7,bits,⟨fun x=>h2.size≤x∧x<h3.size,fun x=>h3.size≤x∧x<h4.size,ho3'.upd hu47 fun x hx e=>by have e:x=h.size:=e;omega,ho4'.upd hu47 fun x hx e=>by have e:x=h.size:=e;omega,fun x hx=>⟨by omega,by omega,by omega,by omega⟩,fun x hx=>⟨by omega,by omega,by omega⟩⟩,ag _⟩ ?_
 exact((k2.tr hu3).tr hu4).trans hu47 fun x hx=>.inr (fU hx.symm)
end Go.Proofs
namespace Go.Proofs
open Go.Lift
theorem qX{β:Type}{g:Nat→Option β}{i:Nat}(h:g i=none):upd g i none=g:=by
 funext j;unfold upd;split
 ·rename_i e;rw[e,h]
 ·rfl
theorem d7{h:ad}{b:Nat}{c:Array Value}{t:TypeId}{i:Nat}(hb:h[b]? =some (.cells c t (0,0))):aO h ⟨b,0+i,none⟩=c[i]?:=by rw[aR];exact bo hb
theorem NU{h:ad}{b:Nat}{c:Array Value}{t:TypeId}{i:Nat}(hb:h[b]? =some (.cells c t (0,0))) (hi:i<c.size):Wr h ⟨b,0+i,none⟩:=by rw[aR];exact gB hb hi
theorem Ei{h:ad}{b:Nat}{c c':Array Value}{t:TypeId}{i:Nat}{v:Value}{k:ad→Prop}(hb:h[b]? =some (.cells c t (0,0))) (e:c.setIfInBounds i v=c')
 (hk:∀h',h'[b]? =some (.cells c' t (0,0))→Upd (· =b) h h'→k h'):At (hset h ⟨b,i,none⟩ v) k:=rU hb fun h' hb' hu=>hk h' (e▸hb') hu
theorem Jv{M:Nat→Prop}{h:ad}{b d n:Nat}{sp sk:SliceV}{s:Slots}{ow:Option Addr}(o:OwnN M h b d n sp sk s ow){i:Nat}(hi:i<32){K:Unit→ad→Prop}
  (hk:∀h' d' n' sp' sk',OwnN M h' b d' n' sp' sk' ⟨upd s.p i none,upd s.k i none⟩ ow→Upd M h h'→K () h'):HC PG j4 [.pointer (some ⟨b,0,none⟩),.int .i64 i] [] K h:=by
 obtain⟨A,B,hA,hB,hAm,hBm⟩:=o.ex;have bits:=o.bits;refine xm _ i ?_;unfold qt bV d6 bU mG f8 ma Ls;have ew:∀k:Nat,k≤100→IntKind.wrap .i64 ((k:Int)+1)=((k+1:Nat):Int):=fun k hk=>by rw[fL (by omega)];omega
 have hc1:=vN i d;have hc2:=vN i n;have hAM:∀x,A x→M x∨h.size≤x:=fun x hx=>.inl (hAm x hx).1
 refine Join.intro (fun _ h'=>∃sp',h'[b]? =some (.cells (fb d n sp' sk false ow) bm (0,0))∧OwnS dD 2 al A h' sp' (fm (upd s.p i none) 32)∧OwnS oX 1 bK B h' sk (fm s.k 32)∧Upd M h h') (fun R hR=>?_) ?_
 ·refine⟨_,rfl,_,d7 (i:=0) o.blk,yb bits.d32 hi ?_⟩
  rw[bits.dp i hi];cases hp:s.p i with
  |none=>exact aj.2 (hR _ _ ⟨sp,o.blk,by rw[qX hp];exact hA,hB,Upd.refl _ _⟩)
  |some y=>
   refine aB.2 ⟨_,rfl,_,d7 (i:=0) o.blk,nQ bits.d32 hi ⟨_,rfl,sp,d7 (i:=2) o.blk,?_⟩⟩;rw[ew _ (by omega)];refine H5 hA (DB hi bits.dp hp) (by have:=wQ (g:=s.p);omega) fun s2 h2 ho2 hu2=>?_
   rw[←Mu hi bits.dp hp]at ho2;have b2:=hu2.get o.blk fun hb=>(hAm b hb).2.2.1 rfl
   refine⟨_,rfl,NU (i:=2) b2 (show 2<6 by decide),Ei (i:=2) (c':=fb d n s2 sk false ow) b2 rfl fun h3 b3 hu3=>?_⟩
   refine hR _ _ ⟨s2,b3,ho2.upd hu3 fun x hx e=>(hAm x hx).2.2.1 e,(hB.upd hu2 fun x hx hy=>(hAm x hy).2.1 hx).upd hu3 fun x hx e=>(hBm x hx).2.1 e,(hu2.mono hAM).tr (hu3.mono fun x e=>.inl (e▸o.mb))⟩
 rintro _ h1 ⟨sp1,b1,hA1,hB1,hu1⟩;refine Join.intro (fun _ h'=>∃sk',h'[b]? =some (.cells (fb d n sp1 sk' false ow) bm (0,0))∧OwnS dD 2 al A h' sp1 (fm (upd s.p i none) 32)∧OwnS oX 1 bK B h' sk' (fm (upd s.k i none) 32)∧Upd M h1 h') (fun R hR=>?_) ?_
 ·refine⟨_,rfl,_,d7 (i:=1) b1,yb bits.n32 hi ?_⟩
  rw[bits.nk i hi];cases hp:s.k i with
  |none=>exact aj.2 (hR _ _ ⟨sk,b1,hA1,by rw[qX hp];exact hB1,Upd.refl _ _⟩)
  |some y=>
   refine aB.2 ⟨_,rfl,_,d7 (i:=1) b1,nQ bits.n32 hi ⟨_,rfl,sk,d7 (i:=3) b1,?_⟩⟩;rw[ew _ (by omega)];refine H6 hB1 (DB hi bits.nk hp) (by have:=wQ (g:=s.k);omega) fun s2 h2 ho2 hu2=>?_
   rw[←Mu hi bits.nk hp]at ho2;have b2:=hu2.get b1 fun hb=>(hBm b hb).2.1 rfl
   refine⟨_,rfl,NU (i:=3) b2 (show 3<6 by decide),Ei (i:=3) (c':=fb d n sp1 s2 false ow) b2 rfl fun h3 b3 hu3=>?_⟩
   refine hR _ _ ⟨s2,b3,(hA1.upd hu2 fun x hx hy=>(hAm x hx).2.1 hy).upd hu3 fun x hx e=>(hAm x hx).2.2.1 e,ho2.upd hu3 fun x hx e=>(hBm x hx).2.1 e,(hu2.mono fun x hx=>.inl (hBm x hx).1).tr (hu3.mono fun x e=>.inl (e▸o.mb))⟩
 rintro _ h2 ⟨sk2,b2,hA2,hB2,hu2⟩;refine⟨_,rfl,_,d7 (i:=0) b2,_,rfl,_,d7 (i:=1) b2,?_⟩;refine Ad bits.d32 hi fun d' hd' hdt=>⟨d7 (i:=1) b2,?_⟩
 refine Ad bits.n32 hi fun n' hn' hnt=>?_
 refine⟨_,rfl,NU (i:=0) b2 (show 0<6 by decide),Ei (i:=0) (c':=fb d' n sp1 sk2 false ow) b2 rfl fun h3 b3 hu3=>?_⟩
 refine⟨_,rfl,NU (i:=1) b3 (show 1<6 by decide),Ei (i:=1) (c':=fb d' n' sp1 sk2 false ow) b3 rfl fun h4 b4 hu4=>?_⟩
 have hu34:=hu3.tr hu4;have z:=(hu1.tr (hu2.tr (hu34.mono (M':=M) fun x e=>.inl (e▸o.mb)))).size
 refine hk h4 d' n' sp1 sk2 ⟨b4,⟨hd',hn',fun c hc=>?_,fun c hc=>?_⟩,⟨A,B,hA2.upd hu34 fun x hx e=>(hAm x hx).2.2.1 e,hB2.upd hu34 fun x hx e=>(hBm x hx).2.1 e,fun x hx=>⟨(hAm x hx).1,(hAm x hx).2.1,(hAm x hx).2.2.1,by have:=(hAm x hx).2.2.2;omega⟩,fun x hx=>⟨(hBm x hx).1,(hBm x hx).2.1,by have:=(hBm x hx).2.2;omega⟩⟩,o.mb⟩ (hu1.tr (hu2.tr (hu34.mono fun x e=>.inl (e▸o.mb))))
 ·rw[hdt,bits.dp c hc];simp only[upd];split<;>simp[*]
 ·rw[hnt,bits.nk c hc];simp only[upd];split<;>simp[*]
end Go.Proofs
namespace Go.Proofs
open Go.Lift
theorem OwnS.setAt{α:Type}{f:α→List Value}{sz:Nat}{t:TypeId}{M:Nat→Prop}{h:ad}{s:SliceV}{xs:List α}(hs:OwnS f sz t M h s xs){k:Nat}(hkl:k<xs.length)(x:α):
  ∃a,s.a=some a∧M a.block∧uv h (some (adr a (k*sz))) 0 (f x)∧OwnS f sz t M (iM h (adr a (k*sz)) 0 (f x)) s (xs.take k++x::xs.drop (k+1))∧Upd (· =a.block) h (iM h (adr a (k*sz)) 0 (f x)):=by
 have hf:∀x,(f x).length=sz∧0<sz:=hs.ne;have hlen:=hs.len;have hcap:=hs.cap;rcases hs.blk with h0|⟨b,rest,ha,hb,hc,hr⟩
 ·omega
 have hA:((xs.take k).flatMap f).length=k*sz:=by rw[nW hf,aD,bL (by omega)]
 have e1:xs.flatMap f=(xs.take k).flatMap f++(f xs[k]++(xs.drop (k+1)).flatMap f):=by
  rw[←aN,←List.drop_eq_getElem_cons hkl];exact Bb xs k
 rw[e1]at hc;have hX:=(hf xs[k]).1;have hY:=(hf x).1;have hins:(xs.take k++x::xs.drop (k+1)).flatMap f=(xs.take k).flatMap f++(f x++(xs.drop (k+1)).flatMap f):=by rw[List.flatMap_append,aN]
 generalize (xs.take k).flatMap f=A at hA hc hins;generalize (xs.drop (k+1)).flatMap f=B at hc hins;generalize f xs[k]=X at hX hc;have hl:k*sz+0+(f x).length≤(A++(X++B)++rest).length:=by simp only[ac];omega
 have ea:adr ⟨b,0,none⟩ (k*sz)=⟨b,k*sz,none⟩:=by rw[cc,aR]
 refine⟨⟨b,0,none⟩,ha,hb,?_,?_,?_⟩
 ·rw[ea]
  refine .inr ⟨_,rfl,fun j hj=>?_⟩
  rw[cc];exact gB hc (by rw[dM];omega)
 ·rw[ea,ia (f x) h 0 (k*sz) _ hc hl]
  refine⟨by simp;omega,hf,hcap,.inr ⟨b,rest,ha,hb,?_,?_⟩⟩
  ·rw[iq hc,hins]
   congr 3
   rw[Nat.add_zero,ao A,dy hA,←dK,cG hA,ao X,cG (by omega)];simp only[ao]
  ·exact hr
 ·rw[ea,ia (f x) h 0 (k*sz) _ hc hl]
  exact Upd.set h _ rfl
theorem OwnN.node{M W:Nat→Prop}{h:ad}{b d n:Nat}{sp sk:SliceV}{s:Slots}{ow:Option Addr}(o:OwnN M h b d n sp sk s ow)(hW:∀x,M x→¬W x):NodeAt W h b s:=by
 obtain⟨A,B,h1,h2,h3,h4⟩:=o.ex;exact⟨⟨d,n,sp,sk,ow,o.blk,o.bits,h1.sl fun x hx _=>hW _ (h3 x hx).1,h2.sl fun x hx _=>hW _ (h4 x hx).1,h1.cap,h2.cap⟩,hW _ o.mb⟩
theorem FZ{W:Nat→Prop}{h:ad}{b:Nat}{s:Slots}(nd:NodeAt W h b s){i:Nat}(hi:i<32){K:Bool→ad→Prop}(hk:K true h):HC PG j5 [.pointer (some ⟨b,0,none⟩),.int .i64 i] [.c .bool] K h:=by
 obtain⟨d,n,sp,sk,ow,hb,_⟩:=nd.ex;refine xn _ i ?_;unfold qu hH;refine aB.2 ⟨_,rfl,_,d7 (i:=4) hb,aB.2 ?_⟩;refine av (fun _=>?_) fun h=>absurd (Int.natCast_nonneg i) h
 rw[decide_eq_true (by omega)];exact hk
theorem IZ{β:Type}{g:Nat→Option β}{i:Nat}{x y:Option β}:upd (upd g i x) i y=upd g i y:=by
 funext j;unfold upd;split<;>rfl
theorem qW{β:Type}{g:Nat→Option β}{i:Nat}{x:Option β}:upd g i x i=x:=by simp[upd]
theorem G7{W:Nat→Prop}{h:ad}{b:Nat}{s:Slots}(nd:NodeAt W h b s)(hW:∀x,W x→x<h.size){i:Nat}(hi:i<32)(hx:∀y,s.p i=some y→s.k i=none)(p:Pr){K:Option Addr→ad→Prop}
  (hk:∀h' b',NodeAt W h' b' ⟨upd s.p i (some p),upd s.k i none⟩→Upd No h h'→K (some ⟨b',0,none⟩) h'):
  HC PG iS [.pointer (some ⟨b,0,none⟩),.pointer none,.int .i64 i,.agg #[.string p.1,.string p.2]] [.c .ptr] K h:=by
 refine uy _ none i p ?_;unfold o9 cn bV aF d6 im yH bU B7 lC mG f8 ma Aj;have k1:=Upd.hnew No h [.string p.1,.string p.2] al;have b1:=dj h [.string p.1,.string p.2] al;refine bM ?_;simp only[fk h];generalize hnew h [.string p.1,.string p.2] al=h1 at k1 b1;have z1:=bw b1;have nd1:=nd.upd k1 fun _ h=>h.elim
 refine FZ nd1 hi (aj.2 ?_);refine Mc nd1 fun h2 d n sp sk o hu2=>?_
 have bits:=o.bits;obtain⟨A,B,hA,hB,hAm,hBm⟩:=o.ex;have hu02:=k1.tr hu2;have b12:=hu2.get0 b1;have hMW:∀x,h1.size≤x→¬W x:=fun x hx hw=>by have:=hW x hw;omega
 refine⟨_,rfl,_,d7 (i:=0) o.blk,yb bits.d32 hi ?_⟩;rw[bits.dp i hi];cases hp:s.p i with
 |some y=>
  refine aB.2 ⟨_,rfl,sp,d7 (i:=2) o.blk,_,rfl,_,d7 (i:=0) o.blk,p.1,by rw[cc,bo b12];rfl,p.2,by rw[cc,bo b12];rfl,?_⟩
  refine nQ bits.d32 hi ⟨⟨by rw[cc,bo b12];rfl,by rw[cc,bo b12];rfl⟩,d7 (i:=2) o.blk,?_⟩
  have hlt:=DB hi bits.dp hp;obtain⟨a,ha,hab,hw,ho3,hu3⟩:=OwnS.setAt hA hlt p;have hlen:=hA.len;refine⟨by omega,a,ha,?_⟩;rw[aM];refine⟨hw,bM ?_⟩;rw[←Mr hi bits.dp hp]at ho3;have ob:=hu3.get o.blk fun e=>(hAm _ hab).2.2.1 e.symm
  have z3:=hu3.size;have o3:OwnN (fun x=>h1.size≤x) _ h1.size d n sp sk ⟨upd s.p i (some p),upd s.k i none⟩ none:=⟨ob,⟨bits.d32,bits.n32,fun c hc=>by
    rw[bits.dp c hc];simp only[upd];split
    ·rename_i e;rw[e,hp];rfl
    ·rfl,fun c hc=>by rw[bits.nk c hc,qX (hx y hp)]⟩,
   ⟨A,B,ho3,by rw[qX (hx y hp)];exact hB.upd hu3 fun x hx e=>(hAm _ hab).2.1 (e▸hx),fun x hx=>⟨(hAm x hx).1,(hAm x hx).2.1,(hAm x hx).2.2.1,by have:=(hAm x hx).2.2.2;omega⟩,fun x hx=>⟨(hBm x hx).1,(hBm x hx).2.1,by have:=(hBm x hx).2.2;omega⟩⟩,o.mb⟩
  refine hk _ _ (o3.node hMW) (hu02.trans hu3 fun x hx=>.inr ?_)
  have:=(hAm _ hab).1;have hx:x=a.block:=hx;omega
 |none=>
  refine aj.2 ⟨_,rfl,Jv o hi fun h3 d3 n3 sp3 sk3 o3 hu3=>?_⟩
  have bits3:=o3.bits;obtain⟨A3,B3,hA3,hB3,hAm3,hBm3⟩:=o3.ex;have z2:=hu2.size;have z3:=hu3.size;have b13:=hu3.get b12 (show ¬h1.size≤h.size by omega)
  have hu03:Upd No h h3:=hu02.trans hu3 fun x hx=>.inr (bh (Nat.le_of_lt z1) hx)
  refine⟨_,rfl,sp3,d7 (i:=2) o3.blk,_,rfl,_,d7 (i:=0) o3.blk,p.1,by rw[cc,bo b13];rfl,p.2,by rw[cc,bo b13];rfl,?_⟩
  have k4:=Upd.hnew No h3 [.string p.1,.string p.2] al;have b4:=dj h3 [.string p.1,.string p.2] al;have z4:=f9 h3 [.string p.1,.string p.2] al;have o4:=o3.upd k4 fun _ h=>h.elim
  have fin:HC PG cN [.slice sp3.a sp3.len sp3.cap,.int .i64 (rv i d3),.slice (some (aC h3)) 1 1] [.c .slice] (fun(e32:SliceV) h33=>
       ∃a34:Addr,some (⟨h1.size,0,none⟩:Addr)=some a34∧
       (Wr h33 (adr (adr a34 0) 2)∧
        At (hset h33 (adr (adr a34 0) 2) (.slice e32.a e32.len e32.cap)) (fun h35=>
         ∃a36:Addr,some (⟨h1.size,0,none⟩:Addr)=some a36∧
         ∃v37:Int,aO h35 (adr (adr a36 0) 0)=some (.int .u32 v37)∧
         HC PG eJ [.int .u32 v37,.int .i64 i] [.c (.int .u32)] (fun(e38:Int) h39=>
          ∃a40:Addr,some (⟨h1.size,0,none⟩:Addr)=some a40∧
          (Wr h39 (adr (adr a40 0) 0)∧
           At (hset h39 (adr (adr a40 0) 0) (.int .u32 e38)) (fun h41=>
            K (some ⟨h1.size,0,none⟩) h41))) h35))) (hnew h3 [.string p.1,.string p.2] al):=by
   generalize hnew h3 [.string p.1,.string p.2] al=h4 at k4 b4 z4 o4;rw[fk h3];have hA4:=(hA3.upd k4 fun _ _ h=>h).more (M':=fun x=>A3 x∨h4.size≤x) fun x hx=>.inl hx
   have hpn:(⟨upd s.p i none,upd s.k i none⟩:Slots).p i=none:=qW;refine HU hA4 (OG hi bits3.dp) (by have:=wQ (g:=(⟨upd s.p i none,upd s.k i none⟩:Slots).p);omega) (x:=p) b4 (fun e=>e.elim (fun e=>by have:=(hAm3 _ e).2.2.2;omega) fun e=>by omega) (fun x hx=>.inr hx) fun s5 h5 ho5 hu5=>?_
   rw[←Ms hi bits3.dp hpn p]at ho5;have hbl:h1.size<h3.size:=bw o3.blk;have b5:=hu5.get o4.blk fun e=>e.elim (fun e=>(hAm3 _ e).2.2.1 rfl) fun e=>by omega
   refine⟨_,rfl,NU (i:=2) b5 (show 2<6 by decide),Ei (i:=2) (c':=fb d3 n3 s5 sk3 false none) b5 rfl fun h6 b6 hu6=>?_⟩
   refine⟨_,rfl,_,d7 (i:=0) b6,IY bits3.d32 hi fun w hw hwt=>?_⟩
   refine⟨_,rfl,NU (i:=0) b6 (show 0<6 by decide),Ei (i:=0) (c':=fb w n3 s5 sk3 false none) b6 rfl fun h7 b7 hu7=>?_⟩
   have hu57:=hu6.tr hu7;have z5:=hu5.size;have z7:=hu57.size;have ho5':=ho5.within;have e1:(⟨upd (⟨upd s.p i none,upd s.k i none⟩:Slots).p i (some p),upd s.k i none⟩:Slots)=⟨upd s.p i (some p),upd s.k i none⟩:=by rw[IZ]
   have o7:OwnN (fun x=>h1.size≤x) h7 h1.size w n3 s5 sk3 ⟨upd s.p i (some p),upd s.k i none⟩ none:=by
    rw[←e1];refine⟨b7,⟨hw,bits3.n32,fun c hc=>?_,bits3.nk⟩,⟨fun x=>(A3 x∨h4.size≤x)∧x<h5.size,B3,ho5'.upd hu57 fun x hx e=>?_,((hB3.upd k4 fun _ _ h=>h).upd hu5 fun x hx e=>?_).upd hu57 fun x hx e=>(hBm3 x hx).2.1 e,fun x hx=>⟨?_,?_,?_,by omega⟩,fun x hx=>⟨(hBm3 x hx).1,(hBm3 x hx).2.1,by have:=(hBm3 x hx).2.2;omega⟩⟩,o.mb⟩
    ·rw[hwt,bits3.dp c hc];simp only[upd];split<;>simp[*]
    ·have e:x=h1.size:=e
     rcases hx.1 with h|h
     ·exact(hAm3 x h).2.2.1 e
     ·omega
    ·rcases e with e|e
     ·exact(hAm3 x e).2.1 hx
     ·have:=(hBm3 x hx).2.2;omega
    ·rcases hx.1 with h|h
     ·exact(hAm3 x h).1
     ·omega
    ·rcases hx.1 with h|h
     ·exact(hAm3 x h).2.1
     ·exact fun hb=>by have:=(hBm3 x hb).2.2;omega
    ·rcases hx.1 with h|h
     ·exact(hAm3 x h).2.2.1
     ·omega
   refine hk _ _ (o7.node hMW) (((hu03.tr k4).trans hu5 fun x hx=>.inr ?_).trans hu57 fun x hx=>.inr ?_)
   ·rcases hx with h|h
    ·have:=(hAm3 x h).1;omega
    ·omega
   ·have hx:x=h1.size:=hx
    omega
  refine⟨nQ bits3.d32 hi ⟨⟨by rw[cc,bo b13];rfl,by rw[cc,bo b13];rfl⟩,d7 (i:=2) o3.blk,bM ⟨d7 (i:=2) o4.blk,fin⟩⟩,bM ⟨d7 (i:=0) o4.blk,d7 (i:=2) o4.blk,nQ bits3.d32 hi ⟨d7 (i:=2) o4.blk,fin⟩⟩⟩
end Go.Proofs
namespace Go.Proofs
open Go.Lift
theorem J0{W:Nat→Prop}{h:ad}{b:Nat}{s:Slots}(nd:NodeAt W h b s)(hW:∀x,W x→x<h.size){i:Nat}(hi:i<32)(hx:∀y,s.k i=some y→s.p i=none)(kid:Addr){K:Option Addr→ad→Prop}
  (hk:∀h' b',NodeAt W h' b' ⟨upd s.p i none,upd s.k i (some (some kid))⟩→Upd No h h'→K (some ⟨b',0,none⟩) h'):
  HC PG jw [.pointer (some ⟨b,0,none⟩),.pointer none,.int .i64 i,.pointer (some kid)] [.c .ptr] K h:=by
 refine vY _ none i (some kid) ?_;unfold pW cn bV d6 yH bU mG f8 ma Aj PJ;refine aj.2 ?_;refine FZ nd hi (aj.2 ?_);refine Mc nd fun h2 d n sp sk o hu2=>?_
 have bits:=o.bits;obtain⟨A,B,hA,hB,hAm,hBm⟩:=o.ex;have hMW:∀x,h.size≤x→¬W x:=fun x hx hw=>by have:=hW x hw;omega
 refine⟨_,rfl,_,d7 (i:=1) o.blk,yb bits.n32 hi ?_⟩;rw[bits.nk i hi];cases hp:s.k i with
 |some y=>
  refine aB.2 ⟨_,rfl,sk,d7 (i:=3) o.blk,_,rfl,_,d7 (i:=1) o.blk,?_⟩;refine nQ bits.n32 hi ⟨d7 (i:=3) o.blk,?_⟩;have hlt:=DB hi bits.nk hp;obtain⟨a,ha,hab,hw,ho3,hu3⟩:=OwnS.setAt hB hlt (some kid);have hlen:=hB.len;refine⟨by omega,a,ha,?_⟩;rw[aM];have hw1:Wr h2 (adr a (rv i n*1)):=by
   rcases hw with hw|⟨b',hb',hw⟩
   ·cases hw
   ·cases hb';exact hw 0 (by simp)
  refine⟨hw1,bM ?_⟩;rw[←Mr hi bits.nk hp]at ho3;have ob:=hu3.get o.blk fun e=>(hBm _ hab).2.1 e.symm
  have z3:=hu3.size;have o3:OwnN (fun x=>h.size≤x) _ h.size d n sp sk ⟨upd s.p i none,upd s.k i (some (some kid))⟩ none:=⟨ob,⟨bits.d32,bits.n32,fun c hc=>by rw[bits.dp c hc,qX (hx y hp)],fun c hc=>by
    rw[bits.nk c hc];simp only[upd];split
    ·rename_i e;rw[e,hp];rfl
    ·rfl⟩,
   ⟨A,B,by rw[qX (hx y hp)];exact hA.upd hu3 fun x hx e=>(hAm _ hx).2.1 (e▸hab),ho3,fun x hx=>⟨(hAm x hx).1,(hAm x hx).2.1,(hAm x hx).2.2.1,by have:=(hAm x hx).2.2.2;omega⟩,fun x hx=>⟨(hBm x hx).1,(hBm x hx).2.1,by have:=(hBm x hx).2.2;omega⟩⟩,o.mb⟩
  refine hk _ _ (o3.node hMW) (hu2.trans hu3 fun x hx=>.inr ?_)
  have:=(hBm _ hab).1;have hx:x=a.block:=hx;omega
 |none=>
  refine aj.2 ⟨_,rfl,Jv o hi fun h3 d3 n3 sp3 sk3 o3 hu3=>?_⟩
  have bits3:=o3.bits;obtain⟨A3,B3,hA3,hB3,hAm3,hBm3⟩:=o3.ex;have z2:=hu2.size;have z3:=hu3.size;have hu03:Upd No h h3:=hu2.trans hu3 fun x hx=>.inr hx
  refine⟨_,rfl,sk3,d7 (i:=3) o3.blk,_,rfl,_,d7 (i:=1) o3.blk,?_⟩;have k4:=Upd.hnew No h3 [.pointer (some kid)] bK;have b4:=dj h3 [.pointer (some kid)] bK;have z4:=f9 h3 [.pointer (some kid)] bK;have o4:=o3.upd k4 fun _ h=>h.elim
  have fin:HC PG cC [.slice sk3.a sk3.len sk3.cap,.int .i64 (rv i n3),.slice (some (aC h3)) 1 1] [.c .slice] (fun(e32:SliceV) h33=>
       ∃a34:Addr,some (⟨h.size,0,none⟩:Addr)=some a34∧
       (Wr h33 (adr (adr a34 0) 3)∧
        At (hset h33 (adr (adr a34 0) 3) (.slice e32.a e32.len e32.cap)) (fun h35=>
         ∃a36:Addr,some (⟨h.size,0,none⟩:Addr)=some a36∧
         ∃v37:Int,aO h35 (adr (adr a36 0) 1)=some (.int .u32 v37)∧
         HC PG eJ [.int .u32 v37,.int .i64 i] [.c (.int .u32)] (fun(e38:Int) h39=>
          ∃a40:Addr,some (⟨h.size,0,none⟩:Addr)=some a40∧
          (Wr h39 (adr (adr a40 0) 1)∧
           At (hset h39 (adr (adr a40 0) 1) (.int .u32 e38)) (fun h41=>
            K (some ⟨h.size,0,none⟩) h41))) h35))) (hnew h3 [.pointer (some kid)] bK):=by
   generalize hnew h3 [.pointer (some kid)] bK=h4 at k4 b4 z4 o4;rw[fk h3];have hB4:=(hB3.upd k4 fun _ _ h=>h).more (M':=fun x=>B3 x∨h4.size≤x) fun x hx=>.inl hx
   have hpn:(⟨upd s.p i none,upd s.k i none⟩:Slots).k i=none:=qW;refine HW hB4 (OG hi bits3.nk) (by have:=wQ (g:=(⟨upd s.p i none,upd s.k i none⟩:Slots).k);omega) (x:=some kid) b4 (fun e=>e.elim (fun e=>by have:=(hBm3 _ e).2.2;omega) fun e=>by omega) (fun x hx=>.inr hx) fun s5 h5 ho5 hu5=>?_
   rw[←Ms hi bits3.nk hpn (some kid)]at ho5;have hbl:h.size<h3.size:=bw o3.blk;have b5:=hu5.get o4.blk fun e=>e.elim (fun e=>(hBm3 _ e).2.1 rfl) fun e=>by omega
   refine⟨_,rfl,NU (i:=3) b5 (show 3<6 by decide),Ei (i:=3) (c':=fb d3 n3 sp3 s5 false none) b5 rfl fun h6 b6 hu6=>?_⟩
   refine⟨_,rfl,_,d7 (i:=1) b6,IY bits3.n32 hi fun w hw hwt=>?_⟩
   refine⟨_,rfl,NU (i:=1) b6 (show 1<6 by decide),Ei (i:=1) (c':=fb d3 w sp3 s5 false none) b6 rfl fun h7 b7 hu7=>?_⟩
   have hu57:=hu6.tr hu7;have z5:=hu5.size;have z7:=hu57.size;have ho5':=ho5.within;have e1:(⟨upd s.p i none,upd (⟨upd s.p i none,upd s.k i none⟩:Slots).k i (some (some kid))⟩:Slots)=⟨upd s.p i none,upd s.k i (some (some kid))⟩:=by rw[IZ]
   have o7:OwnN (fun x=>h.size≤x) h7 h.size d3 w sp3 s5 ⟨upd s.p i none,upd s.k i (some (some kid))⟩ none:=by
    rw[←e1];refine⟨b7,⟨bits3.d32,hw,bits3.dp,fun c hc=>?_⟩,⟨A3,fun x=>(B3 x∨h4.size≤x)∧x<h5.size,((hA3.upd k4 fun _ _ h=>h).upd hu5 fun x hx e=>?_).upd hu57 fun x hx e=>(hAm3 x hx).2.2.1 e,ho5'.upd hu57 fun x hx e=>?_,fun x hx=>⟨(hAm3 x hx).1,?_,(hAm3 x hx).2.2.1,by have:=(hAm3 x hx).2.2.2;omega⟩,fun x hx=>⟨?_,?_,by omega⟩⟩,o.mb⟩
    ·rw[hwt,bits3.nk c hc];simp only[upd];split<;>simp[*]
    ·rcases e with e|e
     ·exact(hAm3 x hx).2.1 e
     ·have:=(hAm3 x hx).2.2.2;omega
    ·have e:x=h.size:=e
     rcases hx.1 with h|h
     ·exact(hBm3 x h).2.1 e
     ·omega
    ·rintro⟨h|h,_⟩
     ·exact(hAm3 x hx).2.1 h
     ·have:=(hAm3 x hx).2.2.2;omega
    ·rcases hx.1 with h|h
     ·exact(hBm3 x h).1
     ·omega
    ·rcases hx.1 with h|h
     ·exact(hBm3 x h).2.1
     ·omega
   refine hk _ _ (o7.node hMW) (((hu03.tr k4).trans hu5 fun x hx=>.inr ?_).trans hu57 fun x hx=>.inr ?_)
   ·rcases hx with h|h
    ·exact(hBm3 x h).1
    ·omega
   ·have hx:x=h.size:=hx
    omega
  refine⟨nQ bits3.n32 hi ⟨d7 (i:=3) o3.blk,bM ⟨d7 (i:=3) o4.blk,fin⟩⟩,bM ⟨d7 (i:=1) o4.blk,d7 (i:=3) o4.blk,nQ bits3.n32 hi ⟨d7 (i:=3) o4.blk,fin⟩⟩⟩
end Go.Proofs
namespace Go.Proofs
open Go.Lift
theorem Ew{h:ad}{b d n:Nat}{sp sk:SliceV}{bu:Bool}{ow:Option Addr}(hb:h[b]? =some (.cells (fb d n sp sk bu ow) bm (0,0))) {K:Int→ad→Prop} (hk:K (d:Int) h):HC PG iY [.pointer (some ⟨b,0,none⟩)] [.c (.int .u32)] K h:=by
 refine yz _ ?_;unfold rr f8;exact aj.2 ⟨_,rfl,_,d7 (i:=0) hb,hk⟩
theorem AM{h:ad}{b d n:Nat}{sp sk:SliceV}{bu:Bool}{ow:Option Addr}(hb:h[b]? =some (.cells (fb d n sp sk bu ow) bm (0,0))) {K:Int→ad→Prop} (hk:K (n:Int) h):HC PG gd [.pointer (some ⟨b,0,none⟩)] [.c (.int .u32)] K h:=by
 refine xp _ ?_;unfold qw f8;exact aj.2 ⟨_,rfl,_,d7 (i:=1) hb,hk⟩
theorem oh{h:ad}{b d n:Nat}{sp sk:SliceV}{bu:Bool}{ow:Option Addr}(hb:h[b]? =some (.cells (fb d n sp sk bu ow) bm (0,0))) {K:Bool→ad→Prop} (hk:K bu h):HC PG fX [.pointer (some ⟨b,0,none⟩)] [.c .bool] K h:=by
 refine tI _ ?_;unfold oy hH;exact aB.2 ⟨_,rfl,_,d7 (i:=4) hb,hk⟩
def Er(o:Option Pr):Pr:=o.getD (⟨#[]⟩,⟨#[]⟩)
theorem L4{h:ad}{b:Nat}{q p:Pr}(hb:h[b]? =some (.cells #[.string q.1,.string q.2] al (0,0))) {k:ad→Prop}
  (hk:∀h',h'[b]? =some (.cells #[.string p.1,.string p.2] al (0,0))→Upd (· =b) h h'→k h'):uv h (some ⟨b,0,none⟩) 0 [.string p.1,.string p.2]∧At (iM h ⟨b,0,none⟩ 0 [.string p.1,.string p.2]) k:=by
 have e:=ia [.string p.1,.string p.2] h 0 0 [.string q.1,.string q.2] hb (by simp);refine⟨.inr ⟨_,rfl,fun j hj=>by rw[cc];exact gB hb (by simp at hj⊢;omega)⟩,bM ?_⟩
 rw[e];refine hk _ ?_ (Upd.set h _ rfl);rw[iq hb];rfl
theorem Mg{W:Nat→Prop}{h:ad}{b:Nat}{s:Slots}(nd:NodeAt W h b s){i:Nat}(hi:i<32){K:Pr×Bool→ad→Prop}(hk:∀h',Upd No h h'→K (Er (s.p i),(s.p i).isSome) h'):
  HC PG nG [.pointer (some ⟨b,0,none⟩),.int .i64 i] [.agg [.str,.str],.c .bool] K h:=by
 refine yy _ i ?_;unfold rq cn hJ jm bV aL aF im bU mG f8 ma;obtain⟨d,n,sp,sk,ow,hb,bits,hsp,hsk,hcp,hck⟩:=nd.ex;have k1:=Upd.hnew No h [.string (⟨#[]⟩:ByteArray),.string (⟨#[]⟩:ByteArray)] al;have b1:=dj h [.string (⟨#[]⟩:ByteArray),.string (⟨#[]⟩:ByteArray)] al;refine bM ?_;simp only[fk h];generalize hnew h [.string (⟨#[]⟩:ByteArray),.string (⟨#[]⟩:ByteArray)] al=h1 at k1 b1
 have hb1:=k1.get0 hb;have b1':h1[h.size]? =some (.cells #[.string OK.1,.string OK.2] al (0,0)):=b1;refine Ew hb1 (yb bits.d32 hi ?_);rw[bits.dp i hi];cases hp:s.p i with
 |none=>
  rw[hp]at hk;refine aB.2 (L4 (p:=OK) b1' fun h2 b2 hu2=>⟨_,by rw[cc,bo b2];rfl,_,by rw[cc,bo b2];rfl,hk _ (k1.trans hu2 fun x hx=>.inr (fU hx.symm))⟩)
 |some y=>
  rw[hp]at hk;refine aj.2 ⟨_,rfl,sp,d7 (i:=2) hb1,_,rfl,_,d7 (i:=0) hb1,nQ bits.d32 hi ⟨d7 (i:=2) hb1,?_⟩⟩;have hlt:=DB hi bits.dp hp;have hsp1:=hsp.upd k1 fun _ h=>h.elim
  obtain⟨a,ha,_,hv⟩:=hsp1.at (Mv hi bits.dp hp);have hlen:=hsp.len;refine⟨by omega,a,ha,y.1,hv 0 _ rfl,y.2,hv 1 _ rfl,?_⟩;refine L4 (p:=y) b1' fun h2 b2 hu2=>⟨_,by rw[cc,bo b2];rfl,_,by rw[cc,bo b2];rfl,hk _ (k1.trans hu2 fun x hx=>.inr (fU hx.symm))⟩
theorem NX{W:Nat→Prop}{h:ad}{b:Nat}{s:Slots}(nd:NodeAt W h b s){i:Nat}(hi:i<32){K:Option Addr×Bool→ad→Prop}(hk:K ((s.k i).getD none,(s.k i).isSome) h):
  HC PG l3 [.pointer (some ⟨b,0,none⟩),.int .i64 i] [.c .ptr,.c .bool] K h:=by
 refine zE _ i ?_;unfold sE bR cn bV bU mG f8 ma;obtain⟨d,n,sp,sk,ow,hb,bits,hsp,hsk,hcp,hck⟩:=nd.ex;refine AM hb (yb bits.n32 hi ?_);rw[bits.nk i hi];cases hp:s.k i with
 |none=>rw[hp]at hk;exact aB.2 hk
 |some y=>
  rw[hp]at hk;refine aj.2 ⟨_,rfl,sk,d7 (i:=3) hb,_,rfl,_,d7 (i:=1) hb,nQ bits.n32 hi ⟨d7 (i:=3) hb,?_⟩⟩;have hlt:=DB hi bits.nk hp;obtain⟨a,ha,_,hv⟩:=hsk.at (Mv hi bits.nk hp);have hlen:=hsk.len;exact⟨by omega,a,ha,y,hv 0 _ rfl,hk⟩
theorem rb{W:Nat→Prop}{h:ad}{b d n:Nat}{sp sk:SliceV}{bu:Bool}{ow:Option Addr}{l:List Pr}(hb:h[b]? =some (.cells (fb d n sp sk bu ow) bm (0,0))) (hs:Sl dD 2 W h sp l) (hn:l.length≤1000000000) {K:SliceV→ad→Prop}
  (hk:∀s' h',OwnS dD 2 al (fun x=>h.size≤x) h' s' l→Upd No h h'→K s' h'):HC PG gc [.pointer (some ⟨b,0,none⟩)] [.c .slice] K h:=by
 refine qm _ ?_;unfold m5 bU;exact aj.2 ⟨_,rfl,sp,d7 (i:=2) hb,uh hs (by omega) hk⟩
theorem Ek{W:Nat→Prop}{h:ad}{b d n:Nat}{sp sk:SliceV}{bu:Bool}{ow:Option Addr}{l:List (Option Addr)}(hb:h[b]? =some (.cells (fb d n sp sk bu ow) bm (0,0))) (hs:Sl oX 1 W h sk l) (hn:l.length≤1000000000) {K:SliceV→ad→Prop}
  (hk:∀s' h',OwnS oX 1 bK (fun x=>h.size≤x) h' s' l→Upd No h h'→K s' h'):HC PG kW [.pointer (some ⟨b,0,none⟩)] [.c .slice] K h:=by
 refine rj _ ?_;unfold nI bU;exact aj.2 ⟨_,rfl,sk,d7 (i:=3) hb,yl hs (by omega) hk⟩
structure BuckAt(W:Nat→Prop)(h:ad)(b:Nat)(l:List Pr):Prop where
 ex:∃sp sk ow,h[b]? =some (.cells (fb 0 0 sp sk true ow) bm (0,0))∧Sl dD 2 W h sp l∧Sl oX 1 W h sk []∧sp.len≤sp.cap∧sk.len≤sk.cap
 nw:¬W b
theorem BuckAt.upd{W M:Nat→Prop}{h h':ad}{b:Nat}{l:List Pr}(n:BuckAt W h b l)(k:Upd M h h')(hm:∀b,M b→W b∨h.size≤b):BuckAt W h' b l:=by
 obtain⟨sp,sk,ow,h1,h3,h4,h5,h6⟩:=n.ex;exact⟨⟨sp,sk,ow,k.get h1 (fun hb=>(hm _ hb).elim n.nw fun h=>by have:=bw h1;omega),h3.upd k hm,h4.upd k hm,h5,h6⟩,n.nw⟩
end Go.Proofs
namespace Go.Proofs
open Go.Lift
set_option maxRecDepth 4000 in
theorem NR{W:Nat→Prop}{h:ad}{b:Nat}{l:List Pr}(nd:BuckAt W h b l)(hn:l.length≤1000000000){K:Option Addr→ad→Prop}
  (hk:∀h' sp sk,h'[h.size]? =some (.cells (fb 0 0 sp sk true none) bm (0,0))→OwnS dD 2 al (fun x=>h.size<x∧x<h'.size) h' sp l→OwnS oX 1 bK (fun x=>h.size<x∧x<h'.size) h' sk []→Upd No h h'→K (some ⟨h.size,0,none⟩) h'):
  HC PG ig [.pointer (some ⟨b,0,none⟩),.pointer none] [.c .ptr] K h:=by
 obtain⟨sp,sk,ow,hb,hsp,hsk,hcp,hck⟩:=nd.ex;refine sr _ none ?_;unfold oO nv d6 hH bU Ll f8 Aj yS OM;refine Dg (aj.2 ?_);have c:∀{h:ad} {b:Nat} {c:Array Value} {i:Nat},h[b]? =some (.cells c bm (0,0))→aO h ⟨b,0+i,none⟩=c[i]?:=fun hb=>by rw[aR];exact bo hb
 refine⟨_,rfl,_,c (i:=0) hb,_,c (i:=1) hb,sp,c (i:=2) hb,sk,c (i:=3) hb,_,c (i:=4) hb,_,c (i:=5) hb,?_⟩;have k1:=Upd.hnew No h [.int .u32 0,.int .u32 0,.slice none 0 0,.slice none 0 0,.bool false,.pointer none] bm;have b1:=dj h [.int .u32 0,.int .u32 0,.slice none 0 0,.slice none 0 0,.bool false,.pointer none] bm;refine bM ?_;simp only[fk h];generalize hnew h [.int .u32 0,.int .u32 0,.slice none 0 0,.slice none 0 0,.bool false,.pointer none] bm=h1 at k1 b1
 have hs1:iM h1 ⟨h.size,0,none⟩ 0 [.int .u32 ((0:Nat):Int),.int .u32 ((0:Nat):Int),.slice sp.a sp.len sp.cap,.slice sk.a sk.len sk.cap,.bool true,.pointer ow]=_:=ia _ h1 0 0 _ b1 (by simp);refine⟨.inr ⟨_,rfl,fun j hj=>by rw[cc];exact gB b1 (by simp at hj⊢;omega)⟩,bM ?_⟩
 rw[hs1];have b2:=iq (o:=.cells (fb 0 0 sp sk true ow) bm (0,0)) b1;have k2:Upd No h _:=k1.trans (M':=(· =h.size)) (Upd.set h1 (.cells (fb 0 0 sp sk true ow) bm (0,0)) rfl) fun x hx=>.inr (fU hx.symm)
 have hz2:h.size<(h1.setIfInBounds h.size (.cells (fb 0 0 sp sk true ow) bm (0,0))).size:=bw b2;have hbb:h.size≠b:=fun e=>by have:=bw hb;omega
 have e2:(Obj.cells (List.take (0+0) [Value.int .u32 0,.int .u32 0,.slice none 0 0,.slice none 0 0,.bool false,.pointer none]++ [Value.int .u32 ((0:Nat):Int),.int .u32 ((0:Nat):Int),.slice sp.a sp.len sp.cap,.slice sk.a sk.len sk.cap,.bool true,.pointer ow]++List.drop (0+0+ [Value.int .u32 ((0:Nat):Int),.int .u32 ((0:Nat):Int),.slice sp.a sp.len sp.cap,.slice sk.a sk.len sk.cap,.bool true,.pointer ow].length) [Value.int .u32 0,.int .u32 0,.slice none 0 0,.slice none 0 0,.bool false,.pointer none]).toArray bm (0,0))=.cells (fb 0 0 sp sk true ow) bm (0,0):=rfl
 rw[e2];generalize h1.setIfInBounds h.size (.cells (fb 0 0 sp sk true ow) bm (0,0))=h2 at b2 k2 hz2;have hb2:=k2.get0 hb;refine⟨_,rfl,sp,c (i:=2) hb2,_,rfl,sk,c (i:=3) hb2,?_⟩;refine uh (hsp.upd k2 fun _ h=>h.elim) (by omega) fun s3 h3 ho3 hu3=>?_
 refine⟨c (i:=3) (hu3.get0 hb2),?_⟩;refine yl ((hsk.upd k2 fun _ h=>h.elim).upd hu3 fun _ h=>h.elim) (by simp) fun s4 h4 ho4 hu4=>?_
 have b4:=hu4.get0 (hu3.get0 b2);have ho3':=ho3.within.upd hu4 fun _ _ h=>h
 have ho4':=ho4.within;have z3:=hu3.size;have z4:=hu4.size;have w:∀{h:ad} {c:Array Value} {x i:Nat},h[x]? =some (.cells c bm (0,0))→i<c.size→Wr h ⟨x,0+i,none⟩:=fun hb hi=>by rw[aR];exact gB hb hi
 have st:∀{h:ad} {c c':Array Value} {x i:Nat} {v:Value} {k:ad→Prop},h[x]? =some (.cells c bm (0,0))→c.setIfInBounds i v=c'→(∀h',h'[x]? =some (.cells c' bm (0,0))→Upd (· =x) h h'→k h')→At (hset h ⟨x,i,none⟩ v) k:=fun hb e hk=>rU hb fun h' hb' hu=>hk h' (e▸hb') hu
 refine⟨w (i:=2) b4 (show 2<6 by decide),st (i:=2) (c':=fb 0 0 s3 sk true ow) b4 rfl fun h5 b5 hu5=>?_⟩
 refine⟨w (i:=3) b5 (show 3<6 by decide),st (i:=3) (c':=fb 0 0 s3 s4 true ow) b5 rfl fun h6 b6 hu6=>?_⟩
 refine⟨w (i:=5) b6 (show 5<6 by decide),st (i:=5) (c':=fb 0 0 s3 s4 true none) b6 rfl fun h7 b7 hu7=>?_⟩
 refine AO (aj.2 ?_);have hu47:=hu5.tr (hu6.tr hu7);have z7:=hu47.size;refine hk _ s3 s4 b7 ((ho3'.upd hu47 fun x hx e=>?_).more fun x hx=>?_) ((ho4'.upd hu47 fun x hx e=>?_).more fun x hx=>?_) ?_
 ·have e:x=h.size:=e;omega
 ·omega
 ·have e:x=h.size:=e;omega
 ·omega
 ·exact((k2.tr hu3).tr hu4).trans hu47 fun x hx=>.inr (fU hx.symm)
theorem Om{W:Nat→Prop}{h:ad}{b:Nat}{l:List Pr}(bk:BuckAt W h b l)(hW:∀x,W x→x<h.size)(hr:d9 l)(hn:l.length≤1000000000)(p:Pr){K:Option Addr→ad→Prop}
  (hk:∀h' b',BuckAt W h' b' (El l p)→Upd No h h'→K (some ⟨b',0,none⟩) h'):
  HC PG oI [.pointer (some ⟨b,0,none⟩),.pointer none,.agg #[.string p.1,.string p.2]] [.c .ptr] K h:=by
 refine zC _ none p ?_;unfold sB aF d6 xM bU B7 Aj;have k1:=Upd.hnew No h [.string p.1,.string p.2] al;have b1:=dj h [.string p.1,.string p.2] al;refine bM ?_;simp only[fk h];generalize hnew h [.string p.1,.string p.2] al=h1 at k1 b1;have z1:=bw b1;have bk1:=bk.upd k1 fun _ h=>h.elim
 obtain⟨sp,sk,ow,hb,hsp,hsk,hcp,hck⟩:=bk1.ex;refine oh hb (aj.2 ?_);refine NR bk1 hn fun h2 s2 t2 b2 hA hB hu2=>?_
 have b12:=hu2.get0 b1;refine⟨_,rfl,s2,d7 (i:=2) b2,p.1,by rw[cc,bo b12];rfl,p.2,by rw[cc,bo b12];rfl,?_⟩
 refine HB (hA.sl fun _ _ _ h=>h) hA.cap hr hn p fun s3 h3 ho3 hu3=>?_
 have b3:=hu3.get0 b2;refine⟨_,rfl,NU (i:=2) b3 (show 2<6 by decide),Ei (i:=2) (c':=fb 0 0 s3 t2 true none) b3 rfl fun h4 b4 hu4=>?_⟩
 have z2:=bw b2;have ho4:=ho3.upd hu4 fun x hx e=>by have e:x=h1.size:=e;omega
 have hB4:=(hB.upd hu3 fun _ _ h=>h).upd hu4 fun x hx e=>by have e:x=h1.size:=e;omega
 refine hk h4 h1.size ⟨⟨s3,t2,none,b4,ho4.sl fun x hx _ hw=>?_,hB4.sl fun x hx _ hw=>?_,ho3.cap,hB.cap⟩,fun hw=>?_⟩ (((k1.tr hu2).tr hu3).trans hu4 fun x hx=>.inr ?_)
 ·have:=hW x hw;have:=hu2.size;omega
 ·have:=hW x hw;omega
 ·have:=hW _ hw;omega
 ·have hx:x=h1.size:=hx
  omega
theorem KP{W:Nat→Prop}{h:ad}(hW:∀x,W x→x<h.size){K:Option Addr→ad→Prop}(hk:∀h' b',BuckAt W h' b' []→Upd No h h'→K (some ⟨b',0,none⟩) h'):HC PG qN [] [.c .ptr] K h:=by
 refine CB ?_;unfold uZ;exact hk _ _ ⟨⟨⟨none,0,0⟩,⟨none,0,0⟩,none,dj h _ _,Sl.nil fq,Sl.nil pz,ag _,ag _⟩,fun hx=>Nat.lt_irrefl _ (hW _ hx)⟩ (Upd.hnew No h _ _)
theorem wE{W:Nat→Prop}{h:ad}(hW:∀x,W x→x<h.size){K:Option Addr→ad→Prop}(hk:∀h' b',NodeAt W h' b' ⟨fun _=>none,fun _=>none⟩→Upd No h h'→K (some ⟨b',0,none⟩) h'):HC PG ph [] [.c .ptr] K h:=by
 refine EV ?_;unfold xG Ll;have e1:fm (fun _=>(none:Option Pr)) 32= []:=by simp[fm]
 have e2:fm (fun _=>(none:Option (Option Addr))) 32= []:=by simp[fm]
 refine hk _ _ ⟨⟨0,0,⟨none,0,0⟩,⟨none,0,0⟩,none,dj h _ _,⟨by decide,by decide,fun c _=>by simp,fun c _=>by simp⟩,?_,?_,ag _,ag _⟩,fun hx=>Nat.lt_irrefl _ (hW _ hx)⟩ (Upd.hnew No h _ _)
 ·show Sl dD 2 W _ _ (fm (fun _=>none) 32)
  rw[e1];exact Sl.nil fq
 ·show Sl oX 1 W _ _ (fm (fun _=>none) 32)
  rw[e2];exact Sl.nil pz
end Go.Proofs
namespace Go.Proofs
open Go.Lift
def lI(p:Pr):List Pr→List Pr
 | []=> [p]
 |q::l=>if kl q.1 p.1 then q::lI p l else if q.1=p.1 then p::l else p::q::l
theorem iX(p q:Pr)(l:List Pr):lI p (q::l)=if kl q.1 p.1 then q::lI p l else if q.1=p.1 then p::l else p::q::l:=rfl
theorem Jr(p:Pr):∀{l:List Pr},d9 l→El l p=lI p l
 | [],_=>by simp[El,lI,sR,lD]
 |q::l,hr=>by
  have hr:=aS.1 hr;unfold lI;have hpos:sR (q::l) p.1=if kl q.1 p.1 then sR l p.1+1 else 0:=by
   unfold sR;rw[List.takeWhile_cons];by_cases h:kl q.1 p.1
   ·rw[if_pos (by simpa using h),if_pos h];rfl
   ·rw[if_neg (by simpa using h),if_neg h];rfl
  have hth:lD (q::l) p.1=(decide (q.1=p.1)||lD l p.1):=by unfold lD;rw[List.any_cons]
  by_cases h:kl q.1 p.1
  ·have hne:q.1≠p.1:=fun e=>by rw[e]at h;exact dw _ h
   rw[if_pos h,←Jr p hr.2];unfold El;rw[hth,hpos,if_pos h,decide_eq_false hne,Bool.false_or];by_cases ht:lD l p.1=true
   ·rw[if_pos ht,if_pos ht];rfl
   ·rw[if_neg ht,if_neg ht];rfl
  ·rw[if_neg h]
   unfold El;rw[hth,hpos,if_neg h];by_cases e:q.1=p.1
   ·rw[if_pos e,decide_eq_true e,Bool.true_or,if_pos rfl];rfl
   ·have hgt:=rH h e
    have ht:lD l p.1=false:=by
     unfold lD;rw[List.any_eq_false];intro r hr' e2;have e2:=of_decide_eq_true e2;have:=hr.1 r hr';rw[e2]at this;exact dw _ (jG hgt this)
    rw[if_neg e,decide_eq_false e,ht];rfl
theorem FL{p q:Pr}:∀{l:List Pr},q∈lI p l→q=p∨q∈l
 | [],h=>by simp[lI]at h;exact .inl h
 |r::l,h=>by
  unfold lI at h;split at h
  ·rcases az.1 h with h|h
   ·exact .inr (h▸au ..)
   ·exact(FL h).imp id fun h=>aH _ h
  ·split at h
   ·rcases az.1 h with h|h
    ·exact .inl h
    ·exact .inr (aH _ h)
   ·rcases az.1 h with h|h
    ·exact .inl h
    ·exact .inr h
theorem C6(p:Pr):∀{l:List Pr},d9 l→d9 (lI p l)
 | [],_=>List.pairwise_singleton ..
 |q::l,hr=>by
  have hr':=hr;have hr:=aS.1 hr;unfold lI;split
  ·rename_i h
   refine aS.2 ⟨fun r hm=>?_,C6 p hr.2⟩
   rcases FL hm with rfl|hm
   ·exact h
   ·exact hr.1 r hm
  ·rename_i h
   split
   ·rename_i e
    exact aS.2 ⟨fun r hm=>e▸hr.1 r hm,hr.2⟩
   ·rename_i e
    have hgt:=rH h e;refine aS.2 ⟨fun r hm=>?_,hr'⟩
    rcases az.1 hm with rfl|hm
    ·exact hgt
    ·exact jG hgt (hr.1 r hm)
def ck(x:Hs)(lev:Nat)(k:ByteArray):Nat:=((ga x k).toNat>>>(5*lev))%32
theorem JD(x:Hs)(lev:Nat)(k:ByteArray):ck x lev k<32:=nJ _ (by omega)
def part(x:Hs)(lev c:Nat)(l:List Pr):List Pr:=l.filter fun p=>decide (ck x lev p.1=c)
def TrieAt(W:Nat→Prop)(x:Hs)(h:ad):Nat→Nat→List Pr→Prop
 |0,b,l=>BuckAt W h b l
 |m+1,b,l=>∃s,NodeAt W h b s∧∀c,c<32→
  ((part x (12-m) c l= []∧s.p c=none∧s.k c=none)∨(∃p,part x (12-m) c l= [p]∧s.p c=some p∧s.k c=none)∨
   (2≤(part x (12-m) c l).length∧s.p c=none∧∃kb,s.k c=some (some ⟨kb,0,none⟩)∧TrieAt W x h m kb (part x (12-m) c l)))
theorem TrieAt.upd0{W:Nat→Prop}{x:Hs}{h h':ad}(k:Upd No h h'):∀{m b:Nat} {l:List Pr},TrieAt W x h m b l→TrieAt W x h' m b l
 |0,_,_,t=>BuckAt.upd t k fun _ h=>h.elim
 |m+1,_,_,⟨s,nd,hc⟩=>⟨s,nd.upd k fun _ h=>h.elim,fun c hc'=>(hc c hc').imp id fun o=>o.imp id fun⟨h1,h2,kb,h3,h4⟩=>⟨h1,h2,kb,h3,TrieAt.upd0 k h4⟩⟩
theorem NodeAt.less{W W':Nat→Prop}{h:ad}{b:Nat}{s:Slots}(n:NodeAt W h b s)(hm:∀b,W' b→W b∨h.size≤b):NodeAt W' h b s:=by
 obtain⟨d,m,sp,sk,ow,h1,h2,h3,h4,h5,h6⟩:=n.ex;exact⟨⟨d,m,sp,sk,ow,h1,h2,h3.less hm,h4.less hm,h5,h6⟩,fun hx=>(hm _ hx).elim n.nw fun h=>by have:=bw h1;omega⟩
theorem BuckAt.less{W W':Nat→Prop}{h:ad}{b:Nat}{l:List Pr}(n:BuckAt W h b l)(hm:∀b,W' b→W b∨h.size≤b):BuckAt W' h b l:=by
 obtain⟨sp,sk,ow,h1,h3,h4,h5,h6⟩:=n.ex;exact⟨⟨sp,sk,ow,h1,h3.less hm,h4.less hm,h5,h6⟩,fun hx=>(hm _ hx).elim n.nw fun h=>by have:=bw h1;omega⟩
theorem TrieAt.less{W W':Nat→Prop}{x:Hs}{h:ad}(hm:∀b,W' b→W b∨h.size≤b):∀{m b:Nat} {l:List Pr},TrieAt W x h m b l→TrieAt W' x h m b l
 |0,_,_,t=>BuckAt.less t hm
 |m+1,_,_,⟨s,nd,hc⟩=>⟨s,nd.less hm,fun c hc'=>(hc c hc').imp id fun o=>o.imp id fun⟨h1,h2,kb,h3,h4⟩=>⟨h1,h2,kb,h3,TrieAt.less hm h4⟩⟩
theorem TrieAt.updM{W M:Nat→Prop}{x:Hs}{h h':ad}(k:Upd M h h')(hm:∀b,M b→W b∨h.size≤b):∀{m b:Nat} {l:List Pr},TrieAt W x h m b l→TrieAt W x h' m b l
 |0,_,_,t=>BuckAt.upd t k hm
 |m+1,_,_,⟨s,nd,hc⟩=>⟨s,nd.upd k hm,fun c hc'=>(hc c hc').imp id fun o=>o.imp id fun⟨h1,h2,kb,h3,h4⟩=>⟨h1,h2,kb,h3,TrieAt.updM k hm h4⟩⟩
end Go.Proofs
namespace Go.Proofs
open Go.Lift
theorem Px(a b:Nat):(af (IntKind.bits .u64) (a:Int)&&&af (IntKind.bits .u64) (b:Int)).toNat=(a%18446744073709551616)&&&(b%18446744073709551616):=by
 simp[IntKind.bits,BitVec.toNat_and,BitVec.toNat_ofInt];rfl
theorem Qa{hv:Int}(h0:0≤hv∧hv<18446744073709551616){lev:Nat}(hl:lev<13){h:ad}{K:Int→ad→Prop}(hk:K (((hv.toNat>>>(5*lev))%32:Nat):Int) h):HC PG pF [.int .u64 hv,.int .i64 lev] [.c (.int .i64)] K h:=by
 refine IG hv lev ?_;unfold BS;refine Join.plain (av (fun h=>by omega) fun _=>?_)
 rw[decide_eq_false (by omega)];refine aj.2 ?_;have e5:IntKind.wrap .i64 (5*(lev:Int))=((5*lev:Nat):Int):=by rw[fL (by omega)];omega
 rw[e5];have em:min (((5*lev:Nat):Int)).toNat (IntKind.bits .u64)=5*lev:=by rw[aM];exact bL (by show 5*lev≤64;omega)
 rw[em];obtain⟨n,rfl⟩:=Int.eq_ofNat_of_zero_le h0.1;rw[aM]at hk;simp only[Bd];rw[kE];have hlt:n>>>(5*lev)<18446744073709551616:=eX (gi _ _) (by omega);have e:=Px (n>>>(5*lev)) 31;rw[de hlt,show((31:Nat):Int)=(31:Int)from rfl,show 31%18446744073709551616=2^5-1 from rfl,Nat.and_two_pow_sub_one_eq_mod]at e
 rw[e];have hm:n>>>(5*lev)%2^5<32:=nJ _ (by omega);rw[Go.IntWalk.u64_in _ (by omega),fL (by omega)];exact⟨by omega,hk⟩
theorem P7{x:Hs}{k:ByteArray}{lev:Nat}(hl:lev<13){h:ad}{K:Int→ad→Prop}(hk:K (ck x lev k:Int) h):HC PG pF [.int .u64 (ga x k),.int .i64 lev] [.c (.int .i64)] K h:=Qa (y3 x k) hl hk
theorem Mb{x:Hs}{lev c:Nat}{l:List Pr}(h:∀p∈l,ck x lev p.1=c):part x lev c l=l:=List.filter_eq_self.2 fun p hp=>decide_eq_true (h p hp)
theorem wA{x:Hs}{lev c:Nat}{l:List Pr}(h:∀p∈l,ck x lev p.1≠c):part x lev c l= []:=List.filter_eq_nil_iff.2 fun p hp=>by simpa using h p hp
theorem tV{β:Type}{g:Nat→Option β}{i c:Nat}{x:Option β}(h:c≠i):upd g i x c=g c:=by unfold upd;rw[if_neg h]
end Go.Proofs
namespace Go.Proofs
open Go.Lift
noncomputable instance memDec (p:Pr) (l:List Pr):Decidable (p∈l):=Classical.propDecidable _
theorem sW{x:Hs}{lev c:Nat}{l:List Pr}{p:Pr}:p∈part x lev c l↔p∈l∧ck x lev p.1=c:=by unfold part;rw[List.mem_filter,decide_eq_true_iff]
theorem rD{x:Hs}{lev c:Nat}{l:List Pr}(hr:d9 l):d9 (part x lev c l):=hr.sublist List.filter_sublist
theorem nZ{x:Hs}{lev c:Nat}{l:List Pr}:(part x lev c l).length≤l.length:=List.length_filter_le ..
def SlotIs(W:Nat→Prop)(x:Hs)(h:ad)(m:Nat)(s:Slots)(c:Nat)(l:List Pr):Prop:=
 (l= []∧s.p c=none∧s.k c=none)∨(∃p,l= [p]∧s.p c=some p∧s.k c=none)∨(2≤l.length∧s.p c=none∧∃kb,s.k c=some (some ⟨kb,0,none⟩)∧TrieAt W x h m kb l)
theorem SlotIs.upd0{W:Nat→Prop}{x:Hs}{h h':ad}{m:Nat}{s:Slots}{c:Nat}{l:List Pr}(k:Upd No h h')(t:SlotIs W x h m s c l):SlotIs W x h' m s c l:=t.imp id fun o=>o.imp id fun⟨h1,h2,kb,h3,h4⟩=>⟨h1,h2,kb,h3,TrieAt.upd0 k h4⟩
theorem w8{a b:ByteArray}:(a.toList==b.toList)=decide (a=b):=by
 rw[gq,beq_iff_eq,decide_eq_true_iff,ym]
end Go.Proofs
namespace Go.Proofs
open Go.Lift
theorem Lz{W:Nat→Prop}{x:Hs}{h:ad}{m b:Nat}(nd:NodeAt W h b ⟨fun _=>none,fun _=>none⟩):TrieAt W x h (m+1) b []:=⟨_,nd,fun _ _=>.inl ⟨rfl,rfl,rfl⟩⟩
def RootAt(W:Nat→Prop)(x:Hs)(h:ad)(r:Option Addr)(l:List Pr):Prop:=(r=none∧l= [])∨∃b,r=some ⟨b,0,none⟩∧TrieAt W x h 13 b l
theorem RootAt.upd0{W:Nat→Prop}{x:Hs}{h h':ad}{r:Option Addr}{l:List Pr}(k:Upd No h h')(t:RootAt W x h r l):RootAt W x h' r l:=t.imp id fun⟨b,e,t⟩=>⟨b,e,TrieAt.upd0 k t⟩
theorem eL{h:ad}{b:Nat}{t:TypeId}{c vs:List Value}(hb:h[b]? =some (.cells c.toArray t (0,0))) (hl:vs.length=c.length) {k:ad→Prop}
  (hk:∀h',h'[b]? =some (.cells vs.toArray t (0,0))→Upd (· =b) h h'→k h'):uv h (some ⟨b,0,none⟩) 0 vs∧At (iM h ⟨b,0,none⟩ 0 vs) k:=by
 have e:=ia vs h 0 0 c hb (by omega);refine⟨.inr ⟨_,rfl,fun j hj=>by rw[cc];exact gB hb (by rw[dM];omega)⟩,bM ?_⟩
 rw[e];refine hk _ ?_ (Upd.set h _ rfl);rw[iq hb];congr 3
 simp[hl]
end Go.Proofs
