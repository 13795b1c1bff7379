/- A part of the proof that the named laws of this program answer true, whatever the input. -/
import Derived.Test.YtopdngagmfanlaaGreatDoorPart0
open BitVec renaming ofInt→aj,ofInt_natCast→kB,getLsbD_ofNat→kC
open Go.IntKind renaming wrap→ac,bits→af
open Int renaming fdiv→fa,toNat_natCast→aB
open List renaming length_append→ai,replicate→bw,replicate_succ→gq,flatMap_cons→be,length_cons→aV,flatten_cons→iw,flatten_nil→od,getElem?_eq_getElem→aJ,length→jk,take_of_length_le→bq,length_drop→aK,length_take→aP,range→dA,range_add→qV,mem_range→gP,mem_cons_self→aW,mem_cons_of_mem→bj,filterMap_append→nG,take_left'→ct,drop_left'→bT,drop_drop→cE,append_assoc→aF,pairwise_cons→bE,mem_cons→au,filter_cons→cS
open Nat renaming le_refl→az,zero_le→cu,le_trans→bR,shiftRight_eq_div_pow→lg,lt_of_le_of_lt→fP,min_eq_left→bB,shiftRight_le→ni,mod_eq_of_lt→gF,mod_lt→tV,testBit_lt_two_pow→nh,lt_of_lt_of_le→aC,pow_le_pow_right→kj,zero_add→aD,le_of_eq→eZ,lt_irrefl→jJ
open UInt8 renaming ofNat→bP
namespace Go.Proofs
open Go.Lift
theorem OwnS.zero{α:Type}{f:α→List Value}{c:Nat}{t:TypeId}{M:Nat→Prop}{h:ad}{s:SliceV}{xs:List α}(d:OwnS f c t M h s xs):OwnS f c t M h ⟨aM s.a 0 s.cap c,0-0,s.cap-0⟩ []:=by
 have g:∀x,(f x).length=c∧0<c:=d.ne;have e:=d.len;have i:=d.cap;refine⟨rfl,g,by simp only;omega,?_⟩
 rcases d.blk with n|⟨b,a,k,j,hc,m⟩
 ·exact .inl (by simp only;omega)
 ·refine .inr ⟨b,xs.flatMap f++a,by rw[k,sub_zero],j,hc,?_⟩
  rw[ai,iq g,m,←Nat.add_mul];simp only;congr 1;omega
def Lf:Pr:=(⟨#[]⟩,⟨#[]⟩)
theorem Lc(n:Nat):cL n [.string (⟨#[]⟩:ByteArray),.string (⟨#[]⟩:ByteArray)]=(bw n Lf).flatMap mn:=by
 unfold cL;induction n with
 |zero=>rfl
 |succ n ih=>rw[gq,gq,be,←ih];rfl
theorem Qq{n:Nat}(d:n*32≤140737488355328){h:ad}{K:SliceV→ad→Prop}(a:∀s' h',OwnS mn 2 ak (fun b=>h.size≤b) h' s' []→Upd No h h'→K s' h'):
  HC PG eA [.slice none 0 0,.int .i64 n] [.c .slice] K h:=by
 refine lJ ⟨none,0,0⟩ n ?_;unfold gA jl;have e:ac .i64 ((n:Int)-ac .i64 (((0:Nat):Int)-((0:Nat):Int)))=(n:Int):=by rw[j2 (x:=((0:Nat):Int)-((0:Nat):Int)) (by omega),j2 (by omega)];omega
 refine Join.plain (aG (fun h=>by omega) fun _=>?_)
 simp only[Bd];rw[e];refine aG (fun k=>?_) fun j=>a _ _ (OwnS.nil mM) (Upd.refl _ _)
 refine⟨by omega,⟨by omega,by omega,by omega,by omega⟩,?_⟩
 refine AppP.own (f:=mn) (M:=fun b=>h.size≤b) (xs:= []) (ys:=bw n Lf) (OwnS.nil mM) (by simp) (Lc _) (by rw[Lc];exact vP _) rfl (by omega) (by simpa using d) (az _) fun s' h' i g=>?_
 exact⟨by omega,a _ _ (OwnS.zero i) (g.mono fun b c=>.inr c)⟩
abbrev Tk(s:SliceV):List Value:= [.slice s.a s.len s.cap]
def ParS(h:ad):List SliceV→List (List Pr)→Prop
 | [],[]=>True
 |v::vs,l::ls=>Sl mn 2 No h v l∧ParS h vs ls
 |_,_=>False
theorem ParS.upd{h h':ad}(k:Upd No h h'):∀{vs:List SliceV} {ls:List (List Pr)},ParS h vs ls→ParS h' vs ls
 | [],[],_=>trivial
 |_::_,_::_,q=>⟨q.1.upd k fun _ h=>h.elim,ParS.upd k q.2⟩
 | [],_::_,q=>q.elim
 |_::_,[],q=>q.elim
theorem ParS.len{h:ad}:∀{vs:List SliceV} {ls:List (List Pr)},ParS h vs ls→vs.length=ls.length
 | [],[],_=>rfl
 |_::_,_::_,q=>by rw[aV,aV,ParS.len q.2]
 | [],_::_,q=>q.elim
 |_::_,[],q=>q.elim
theorem ParS.at{h:ad}:∀{vs:List SliceV} {ls:List (List Pr)},ParS h vs ls→∀{i:Nat} (h1:i<vs.length) (h2:i<ls.length),Sl mn 2 No h vs[i] ls[i]
 |_::_,_::_,q,0,_,_=>q.1
 |_::_,_::_,q,i+1,h1,h2=>ParS.at q.2 (by simpa using h1) (by simpa using h2)
theorem Ft(ls:List (List Pr)){i:Nat}(hi:i<ls.length):(ls.take (i+1)).flatten=(ls.take i).flatten++ls[i]:=by
 rw[List.take_succ_eq_append_getElem hi,List.flatten_append,iw,od,List.append_nil]
theorem LG(ls:List (List Pr))(i:Nat):(ls.take i).flatten.length≤ls.flatten.length:=by
 have:ls.flatten=(ls.take i).flatten++(ls.drop i).flatten:=by rw[←List.flatten_append,List.take_append_drop]
 rw[this,ai];omega
theorem Fy{h:ad}{s:SliceV}{vs:List SliceV}{ls:List (List Pr)}(v:Sl Tk 1 No h s vs)(x:ParS h vs ls)(O:ls.flatten.length*32≤140737488355328)(W:vs.length≤1000)
  {K:SliceV→ad→Prop}(J:∀s' h',OwnS mn 2 ak (fun b=>h.size≤b) h' s' ls.flatten→Upd No h h'→K s' h'):HC PG cW [.slice s.a s.len s.cap] [.c .slice] K h:=by
 refine kU s ?_;unfold gd bA dU jl;have D:=v.len;have d:=x.len;refine LoopP.ghost (fun(i:Nat) (t:Int×Int) h'=>t.2=(i:Int)∧i≤vs.length∧t.1=((ls.take i).flatten.length:Int)∧h'=h) (fun i=>vs.length-i) 0 ⟨rfl,cu _,by simp,rfl⟩ ?_
 rintro I i ⟨R,Y⟩ h' ⟨e1,hi,e2,rfl⟩ L;simp only at e1 e2;subst e1 e2;refine aG (fun c=>?_) fun y=>?_
 ·have c:i<vs.length:=by have:(i:Int)<(s.len:Int):=c;omega
  obtain⟨a,q,_,f⟩:=v.at (aJ c);have N:=(x.at c (d▸c)).len;have e:=congrArg jk (Ft ls (d▸c));rw[ai]at e;have p:=LG ls (i+1);refine Join.plain ⟨by simp only;omega,a,q,_,f 0 _ rfl,?_⟩;simp only;have F:ac .i64 (((ls.take i).flatten.length:Int)+((vs[i]).len:Int))=((ls.take (i+1)).flatten.length:Int):=by rw[j2 (by omega)];omega
  rw[F];refine aG (fun h=>by omega) fun _=>?_
  rw[eu c (by omega)];exact L (i+1) _ _ ⟨rfl,c,rfl,rfl⟩ (by omega)
 ·have H:i=vs.length:=by have:¬(i:Int)<(s.len:Int):=y;omega
  rw[bq (by omega)];refine Qq O fun T S A w=>?_
  refine LoopP.ghost (fun(i:Nat) (t:SliceV×Int) C=>t.2=(i:Int)∧i≤vs.length∧OwnS mn 2 ak (fun b=>h'.size≤b) C t.1 (ls.take i).flatten∧Upd No h' C) (fun i=>vs.length-i) 0 ⟨rfl,cu _,by simpa using A,w⟩ ?_
  rintro P j ⟨Q,U⟩ C ⟨e1,X,o,n⟩ z;simp only at e1 o;subst e1;refine aG (fun c=>?_) fun m=>?_
  ·have c:j<vs.length:=by have:(j:Int)<(s.len:Int):=c;omega
   obtain⟨a,q,_,f⟩:=(v.upd n fun _ h=>h.elim).at (aJ c)
   have k:=((x.upd n).at c (d▸c));have e:=Ft ls (d▸c);have g:=congrArg jk e;rw[ai]at g;have p:=LG ls (j+1);refine Join.plain ⟨by simp only;omega,a,q,_,f 0 _ rfl,_,k.srow,?_⟩;refine AppP.own (ys:=ls[j]) o k.len rfl (vP _) rfl (by omega) (by omega) n.size fun V Z u B=>?_
   simp only;rw[eu c (by omega)];exact z (j+1) _ _ ⟨rfl,c,e▸u,n.trans B fun b E=>.inr E⟩ (by omega)
  ·have G:j=vs.length:=by have:¬(j:Int)<(s.len:Int):=m;omega
   rw[bq (by omega)]at o;exact J _ _ o n
def Gs(l:List Pr)(p:Pr):List Pr:=l.take (pos l p.1)++p::l.drop (if bX l p.1 then pos l p.1+1 else pos l p.1)
def MR(l:List Pr)(k:ByteArray):List Pr:=if bX l k then l.take (pos l k)++l.drop (pos l k+1)else l
theorem Gc{l:List Pr}(d:dM l){k:ByteArray}(c:bX l k=true):∃h:pos l k<l.length,l[pos l k].1=k:=by
 unfold bX at c;obtain⟨p,g,e⟩:=List.any_eq_true.1 c;have e:=of_decide_eq_true e;obtain⟨q,b,rfl⟩:=List.mem_iff_getElem.1 g;have:pos l k=q:=Ol (by omega) (fun j f a=>by rw[←e];exact List.pairwise_iff_getElem.1 d j q f b a) fun h=>by rw[←e];exact dV _
 subst this;exact⟨b,e⟩
theorem FU{h:ad}{s:SliceV}{l:List Pr}(b:Sl mn 2 No h s l){i j m:Nat}(d:i≤j)(a:j≤l.length)(e:j≤m)(c:Nat):Sl mn 2 No h ⟨aM s.a i m 2,j-i,c⟩ ((l.drop i).take (j-i)):=Sl.sub b d a e
theorem JX{h:ad}{s:SliceV}{l:List Pr}(o:Sl mn 2 No h s l)(hc:s.len≤s.cap)(w:dM l)(N:l.length≤1000000000)(p:Pr)
  {K:SliceV→ad→Prop}(J:∀s' h',OwnS mn 2 ak (fun b=>h.size≤b) h' s' (Gs l p)→Upd No h h'→K s' h'):HC PG xp [.slice s.a s.len s.cap,.agg #[.string p.1,.string p.2]] [.c .slice] K h:=by
 refine KZ s p ?_;unfold DR av eI ny D4;have d:=o.len;have k1:=Upd.hnew No h [.string p.1,.string p.2] ak;have b1:=bh h [.string p.1,.string p.2] ak;refine aU ?_;simp only[cG h];generalize hnew h [.string p.1,.string p.2] ak=h1 at k1 b1;refine⟨p.1,by rw[bJ,aI b1];rfl,Gy (o.upd k1 fun _ h=>h.elim) w N p.1 fun O f=>?_⟩
 have B:=Om l p.1;have a:=k1.tr f;refine⟨by simp only;omega,?_⟩;let q:=if bX l p.1 then pos l p.1+1 else pos l p.1
 have E:q≤l.length:=by
  show(if bX l p.1 then pos l p.1+1 else pos l p.1)≤l.length
  split
  ·rename_i ht;obtain⟨h,_⟩:=Gc w ht;omega
  ·exact B
 refine Join.intro (fun t h'=>h'=O∧t=⟨aM s.a q s.cap 2,s.len-q,s.cap-q⟩) (fun R A=>?_) ?_
 ·refine CondP.intro (fun e=>?_) fun e=>A _ _ ⟨rfl,?_⟩
  ·have e:bX l p.1=true:=e
   obtain⟨L,_⟩:=Gc w e;have G:ac .i64 ((pos l p.1:Int)+1)=((pos l p.1+1:Nat):Int):=by rw[j2 (by omega)];omega
   simp only;rw[G];refine⟨by omega,A _ _ ⟨rfl,?_⟩⟩;have:q=pos l p.1+1:=by show(if bX l p.1 then _ else _)=_;rw[if_pos e]
   rw[this];rfl
  ·have e:bX l p.1=false:=e
   have:q=pos l p.1:=by show(if bX l p.1 then _ else _)=_;rw[if_neg (by rw[e];decide)]
   rw[this];rfl
 ·rintro t h' ⟨rfl,rfl⟩
  have b2:=f.get0 b1;refine⟨by simp only;omega,p.1,by rw[bJ,aI b2];rfl,p.2,by rw[bJ,aI b2];rfl,?_⟩
  have u:=Upd.hnew No h' [.string p.1,.string p.2] ak;have b3:=bh h' [.string p.1,.string p.2] ak;refine aU ?_;simp only[cG h'];generalize hnew h' [.string p.1,.string p.2] ak=h3 at u b3;refine aU ?_;have g:=(o.upd a fun _ h=>h.elim).upd u fun _ h=>h.elim
  have k:=Upd.hnew No h3 [.slice (aM s.a 0 s.cap 2) ((pos l p.1:Int).toNat-0) (s.cap-0),.slice (some ⟨h'.size,0,none⟩) 1 1,.slice (aM s.a q s.cap 2) (s.len-q) (s.cap-q)] fR;have H:=bh h3 [.slice (aM s.a 0 s.cap 2) ((pos l p.1:Int).toNat-0) (s.cap-0),.slice (some ⟨h'.size,0,none⟩) 1 1,.slice (aM s.a q s.cap 2) (s.len-q) (s.cap-q)] fR;have C:=FU g (i:=0) (j:=pos l p.1) (m:=s.cap) (cu _) B (by omega) (s.cap-0)
  have P:Sl mn 2 No h3 ⟨some ⟨h'.size,0,none⟩,1,1⟩ [p]:=⟨rfl,mM,fun _=>⟨_,rfl,fun h=>h.elim,om b3 fun i v z=>by simpa using z⟩⟩
  have y:=FU g (i:=q) (j:=l.length) (m:=s.cap) E (az _) (by omega) (s.cap-q);rw[←d]at y;rw[List.drop_zero]at C;rw[bq (by rw[aK];omega)]at y;have I:Gs l p= [l.take (pos l p.1-0),[p],l.drop q].flatten:=by simp[Gs,q]
  refine Fy (s:=⟨some (aR h3),3,3⟩) (vs:= [⟨aM s.a 0 s.cap 2,(pos l p.1:Int).toNat-0,s.cap-0⟩,⟨some ⟨h'.size,0,none⟩,1,1⟩,⟨aM s.a q s.cap 2,s.len-q,s.cap-q⟩]) (ls:= [l.take (pos l p.1-0),[p],l.drop q])
   ⟨rfl,fun x=>⟨rfl,Nat.one_pos⟩,fun _=>⟨_,rfl,fun h=>h.elim,om H fun i v z=>by simpa[Tk]using z⟩⟩ ⟨C.upd k fun _ h=>h.elim,P.upd k fun _ h=>h.elim,y.upd k fun _ h=>h.elim,trivial⟩ ?_ (by simp) fun Q S c n=>?_
  ·simp only[iw,od,ai,aP,aK,List.length_singleton,List.length_nil];omega
  ·rw[←I]at c
   have D:=((a.tr u).tr k);exact J _ _ (c.more fun b F=>bR D.size F) (D.tr n)
end Go.Proofs
namespace Go.Proofs
open Go.Lift
def tp(n d:Nat):Nat:=(dA n).countP (d.testBit ·)
theorem Ck(m n d:Nat):tp (m+n) d=tp m d+tp n (d>>>m):=by
 unfold tp;rw[qV,List.countP_append,List.countP_map];congr 1
 refine List.countP_congr fun i _=>?_
 simp[Nat.testBit_shiftRight]
theorem LK(d:Nat)(i:Nat):∀n,i≤n→tp n (d&&&(2^i-1))=tp i d:=by
 intro n b;obtain⟨m,rfl⟩:=Nat.exists_eq_add_of_le b;rw[Ck];have e1:tp i (d&&&(2^i-1))=tp i d:=by
  unfold tp;refine List.countP_congr fun j a=>?_
  have:=gP.1 a;simp[this]
 have e2:tp m ((d&&&(2^i-1))>>>i)=0:=by
  unfold tp;rw[List.countP_eq_zero];intro j _;simp[Nat.testBit_shiftRight];intro h;omega
 omega
theorem RJ(d:Nat):tp 8 (d&&&255)=tp 8 d:=LK d 8 8 (az _)
theorem xy(n d:Nat):tp n d≤n:=by
 have:=List.countP_le_length (p:=(d.testBit ·)) (l:=dA n)
 simpa[tp]using this
theorem qq(d n:Nat):fa (d:Int) (2^n)=((d>>>n:Nat):Int):=by
 rw[Int.fdiv_eq_ediv_of_nonneg _ (by exact Int.le_of_lt (Int.pow_pos (by decide))),lg];simp
theorem Px(a b:Nat):(aj (af .u32) (a:Int)&&&aj (af .u32) (b:Int)).toNat=(a%4294967296)&&&(b%4294967296):=by
 simp[af];rfl
theorem xW{n:Nat}(h:n<4294967296):ac .u32 (n:Int)=(n:Int):=Go.IntWalk.u32_in _ (by omega)
theorem CO{i:Nat}(hi:i<32){h:ad}{K:Bool→ad→Prop}(a:K true h):HC PG lH [.int .i64 i] [.c .bool] K h:=by
 refine EB i ?_;unfold wV;refine aG (fun _=>?_) fun h=>absurd (Int.natCast_nonneg i) h
 rw[decide_eq_true (by omega)];exact a
theorem GQ{a b:Nat}(h:b<4294967296):a&&&b<4294967296:=fP Nat.and_le_right h
theorem Ar{d i:Nat}(hd:d<4294967296)(hi:i<32){h:ad}{K:Bool→ad→Prop}(b:K (d.testBit i) h):HC PG eK [.int .u32 d,.int .i64 i] [.c .bool] K h:=by
 refine AR d i ?_;unfold tf;refine CO hi (ay.2 ⟨by omega,?_⟩);have e:min (i:Int).toNat (af .u32)=i:=by rw[aB];exact bB (by show i≤32;omega)
 rw[e,qq];have e2:=Px (d>>>i) 1;have a:d>>>i<4294967296:=fP (ni d i) hd;rw[gF a,show(1:Nat)%4294967296=1 from rfl]at e2
 simp only[Bd];rw[show((1:Nat):Int)=(1:Int)from rfl]at e2
 rw[e2,xW (GQ (by omega))];have c:(((d>>>i&&&1:Nat):Int)==(1:Int))=d.testBit i:=by
  rw[Bool.eq_iff_iff,beq_iff_eq,Nat.testBit,Nat.and_comm];simp only[bne_iff_ne,ne_eq,Nat.one_and_eq_mod_two];have:(d>>>i)%2<2:=tV _ (by omega);omega
 rw[c];exact b
theorem M5{d i:Nat}(hd:d<4294967296)(hi:i<32):∃w:Nat,ac .u32 (aj (af .u32) (d:Int)|||aj (af .u32) (ac .u32 (1*2^(min (i:Int).toNat (af .u32))))).toNat=(w:Int)∧w<4294967296∧∀j,w.testBit j=(d.testBit j||decide (j=i)):=by
 have e:min (i:Int).toNat (af .u32)=i:=by rw[aB];exact bB (by show i≤32;omega)
 have f:2^i<4294967296:=Nat.pow_lt_pow_right (by omega) (show i<32 from hi)
 have e2:(1*2^i:Int)=((2^i:Nat):Int):=by simp
 rw[e,e2,xW f];refine⟨_,xW (BitVec.isLt _),BitVec.isLt _,fun j=>?_⟩
 rw[BitVec.testBit_toNat,BitVec.getLsbD_or,kB,kB,kC,kC,Nat.testBit_two_pow];by_cases a:j<32
 ·have:decide (j<af .u32)=true:=decide_eq_true a
  rw[this];simp[eq_comm]
 ·have c:decide (j<af .u32)=false:=decide_eq_false a
  have b:d.testBit j=false:=nh (aC hd (kj (n:=2) (by omega) (show 32≤j by omega)))
  rw[c,b];simp;omega
theorem Li{d i:Nat}(hd:d<4294967296)(hi:i<32){h:ad}{K:Int→ad→Prop}(a:∀w:Nat,w<4294967296→(∀j,w.testBit j=(d.testBit j||decide (j=i)))→K (w:Int) h):HC PG ef [.int .u32 d,.int .i64 i] [.c (.int .u32)] K h:=by
 refine zm d i ?_;unfold rR;refine CO hi (ag.2 ⟨by omega,?_⟩);obtain⟨w,e,b,c⟩:=M5 hd hi;simp only[Bd];rw[e];exact a w b c
theorem GN{d i:Nat}(hd:d<4294967296)(hi:i<32):∃w:Nat,ac .u32 (aj (af .u32) (d:Int)&&& ~~~aj (af .u32) (ac .u32 (1*2^(min (i:Int).toNat (af .u32))))).toNat=(w:Int)∧w<4294967296∧∀j,w.testBit j=(d.testBit j&&decide (j≠i)):=by
 have e:min (i:Int).toNat (af .u32)=i:=by rw[aB];exact bB (by show i≤32;omega)
 have f:2^i<4294967296:=Nat.pow_lt_pow_right (by omega) (show i<32 from hi)
 have e2:(1*2^i:Int)=((2^i:Nat):Int):=by simp
 rw[e,e2,xW f];refine⟨_,xW (BitVec.isLt _),BitVec.isLt _,fun j=>?_⟩
 rw[BitVec.testBit_toNat,BitVec.getLsbD_and,BitVec.getLsbD_not,kB,kB,kC,kC,Nat.testBit_two_pow];by_cases a:j<32
 ·have:decide (j<af .u32)=true:=decide_eq_true a
  rw[this];simp[eq_comm]
 ·have c:decide (j<af .u32)=false:=decide_eq_false a
  have b:d.testBit j=false:=nh (aC hd (kj (n:=2) (by omega) (show 32≤j by omega)))
  rw[c,b];simp
theorem Cp{d i:Nat}(hd:d<4294967296)(hi:i<32){h:ad}{K:Int→ad→Prop}(a:∀w:Nat,w<4294967296→(∀j,w.testBit j=(d.testBit j&&decide (j≠i)))→K (w:Int) h):HC PG il [.int .u32 d,.int .i64 i] [.c (.int .u32)] K h:=by
 refine vE d i ?_;unfold pg;refine CO hi (ag.2 ⟨by omega,?_⟩);obtain⟨w,e,b,c⟩:=GN hd hi;simp only[Bd];rw[e];exact a w b c
abbrev Sh:ByteArray:=⟨#[0,1,1,2,1,2,2,3,1,2,2,3,2,3,3,4,1,2,2,3,2,3,3,4,2,3,3,4,3,4,4,5,1,2,2,3,2,3,3,4,2,3,3,4,3,4,4,5,2,3,3,4,3,4,4,5,3,4,4,5,4,5,5,6,1,2,2,3,2,3,3,4,2,3,3,4,3,4,4,5,2,3,3,4,3,4,4,5,3,4,4,5,4,5,5,6,2,3,3,4,3,4,4,5,3,4,4,5,4,5,5,6,3,4,4,5,4,5,5,6,4,5,5,6,5,6,6,7,1,2,2,3,2,3,3,4,2,3,3,4,3,4,4,5,2,3,3,4,3,4,4,5,3,4,4,5,4,5,5,6,2,3,3,4,3,4,4,5,3,4,4,5,4,5,5,6,3,4,4,5,4,5,5,6,4,5,5,6,5,6,6,7,2,3,3,4,3,4,4,5,3,4,4,5,4,5,5,6,3,4,4,5,4,5,5,6,4,5,5,6,5,6,6,7,3,4,4,5,4,5,5,6,4,5,5,6,5,6,6,7,4,5,5,6,5,6,6,7,5,6,6,7,6,7,7,8]⟩
theorem PV:(dA 256).all (fun b=>decide (Sh[b]? =some (bP (tp 8 b))))=true:=by decide+kernel
theorem FQ{b:Nat}(h:b<256):Sh[b]? =some (bP (tp 8 b)):=of_decide_eq_true (List.all_eq_true.1 PV b (gP.2 h))
theorem GI(b:Nat):(bP (tp 8 b)).toNat=tp 8 b:=by
 have:=xy 8 b;simp;omega
theorem TP(d:Nat):tp 32 d=tp 8 (d>>>24)+tp 8 ((d>>>16)&&&255)+tp 8 ((d>>>8)&&&255)+tp 8 (d&&&255):=by
 rw[RJ,RJ,RJ,show(32:Nat)=8+(8+(8+8))from rfl,Ck,Ck,Ck]
 simp only[←Nat.shiftRight_add,Nat.reduceAdd];omega
set_option maxRecDepth 100000 in
theorem Qc{d:Nat}(hd:d<4294967296){h:ad}{K:Int→ad→Prop}(j:K (tp 32 d:Int) h):HC PG iS [.int .u32 d] [.c (.int .i64)] K h:=by
 refine sS d ?_;unfold mu;have g:fa (d:Int) (2^(min (24:Int).toNat (af .u32)))=((d>>>24:Nat):Int):=qq d 24;have e:fa (d:Int) (2^(min (16:Int).toNat (af .u32)))=((d>>>16:Nat):Int):=qq d 16;have m:fa (d:Int) (2^(min (8:Int).toNat (af .u32)))=((d>>>8:Nat):Int):=qq d 8;have b:∀x:Nat,x<4294967296→ac .u32 (aj (af .u32) (x:Int)&&&aj (af .u32) 255).toNat=((x&&&255:Nat):Int):=fun x hx=>by
  have:=Px x 255;rw[gF hx]at this;rw[show((255:Nat):Int)=(255:Int)from rfl]at this
  rw[this,xW (GQ (by omega))]
 have a:d>>>24<256:=by rw[lg];omega
 have i:∀x:Nat,x&&&255<256:=fun x=>fP Nat.and_le_right (by omega)
 have f:d>>>16<4294967296:=fP (ni d 16) hd;have k:d>>>8<4294967296:=fP (ni d 8) hd;simp only[Bd];rw[g,e,m,b _ f,b _ k,b _ hd];refine⟨by decide,_,by omega,FQ (b:=d>>>24) a,by decide,_,by omega,FQ (i _),by decide,_,by omega,FQ (i _),_,by omega,FQ (i _),?_⟩
 rw[GI,GI,GI,GI];simp only[aB];have p:=xy 8 (d>>>24);have o:=xy 8 (d>>>16&&&255);have q:=xy 8 (d>>>8&&&255);have q4:=xy 8 (d&&&255);rw[TP]at j;have c:∀n:Nat,n≤255→ac .u8 (n:Int)=(n:Int):=fun n s=>Go.IntWalk.u8_in _ (by omega)
 rw[←Int.natCast_add,c _ (by omega),←Int.natCast_add,c _ (by omega),←Int.natCast_add,c _ (by omega),j2 (by omega)];exact j
theorem oq{d i:Nat}(hd:d<4294967296)(hi:i<32){h:ad}{K:Int→ad→Prop}(a:K (tp i d:Int) h):HC PG cK [.int .u32 d,.int .i64 i] [.c (.int .i64)] K h:=by
 refine zq d i ?_;unfold rS;refine aG (fun c=>?_) fun c=>?_
 ·have:i=0:=by omega
  subst this;exact a
 ·refine aG (fun h=>by omega) fun _=>⟨by omega,?_⟩
  have e:min (i:Int).toNat (af .u32)=i:=by rw[aB];exact bB (by show i≤32;omega)
  have f:2^i<4294967296:=Nat.pow_lt_pow_right (by omega) (show i<32 from hi)
  have b:0<2^i:=Nat.pow_pos (by omega);have e2:(1*2^i:Int)=((2^i:Nat):Int):=by simp
  have g:(((2^i:Nat):Int)-1)=((2^i-1:Nat):Int):=by omega
  simp only[Bd];rw[e,e2,xW f,g,xW (show 2^i-1<4294967296 by omega),Px,gF hd,gF (show 2^i-1<4294967296 by omega),xW (GQ (by omega))]
  refine xP _ ?_;unfold qT;refine Qc (GQ (by omega)) ?_;rw[LK d i 32 (by omega)];exact a
end Go.Proofs
namespace Go.Proofs
open Go.Lift
def fm{β:Type}(g:Nat→Option β)(n:Nat):List β:=(dA n).filterMap g
def upd{β:Type}(g:Nat→Option β)(i:Nat)(x:Option β)(j:Nat):Option β:=if j=i then x else g j
theorem SN{β:Type}{f g:Nat→Option β}:∀l:List Nat,(∀j∈l,f j=g j)→l.filterMap f=l.filterMap g
 | [],_=>rfl
 |j::l,h=>by
  rw[List.filterMap_cons,List.filterMap_cons,h j (aW ..),SN l fun k a=>h k (bj _ a)]
section
variable {β:Type} {g:Nat→Option β} {d:Nat}
theorem Da(hd:∀c,c<32→d.testBit c=(g c).isSome){i:Nat}(hi:i≤32):(fm g i).length=tp i d:=by
 unfold fm tp;rw[List.length_filterMap_eq_countP];exact List.countP_congr fun j a=>by rw[hd j (by have:=gP.1 a;omega)]
theorem oL{i n:Nat}(hi:i<n):fm g n=fm g i++((g i).toList++(dA (n-(i+1))).filterMap fun j=>g (i+1+j)):=by
 unfold fm;have e:n=i+(1+(n-(i+1))):=by omega
 rw[e,qV,nG,qV];have e2:i+(1+(n-(i+1)))-(i+1)=n-(i+1):=by omega
 rw[e2];congr 1
 rw[List.map_append,nG,List.map_map];congr 1
 rw[List.filterMap_map];refine SN _ fun j _=>?_
 show g (i+(1+j))=_
 rw[Nat.add_assoc]
theorem xn{i:Nat}{x:Option β}:fm (upd g i x) i=fm g i:=by
 unfold fm;refine SN _ fun j a=>?_
 have:=gP.1 a;unfold upd;rw[if_neg (by omega)]
theorem uT{i m:Nat}{x:Option β}:((dA m).filterMap fun j=>upd g i x (i+1+j))=(dA m).filterMap fun j=>g (i+1+j):=by
 refine SN _ fun j _=>?_
 unfold upd;rw[if_neg (by omega)]
theorem OQ{i:Nat}(hi:i<32)(hd:∀c,c<32→d.testBit c=(g c).isSome)(b:g i=none)(x:β):fm (upd g i (some x)) 32=(fm g 32).take (tp i d)++x::(fm g 32).drop (tp i d):=by
 have a:=Da hd (i:=i) (by omega);rw[oL (g:=upd g i (some x)) hi,oL (g:=g) hi,xn,uT,b,ct a,bT a];simp[upd]
theorem OO{i:Nat}(hi:i<32)(hd:∀c,c<32→d.testBit c=(g c).isSome){y:β}(b:g i=some y)(x:β):fm (upd g i (some x)) 32=(fm g 32).take (tp i d)++x::(fm g 32).drop (tp i d+1):=by
 have a:=Da hd (i:=i) (by omega);rw[oL (g:=upd g i (some x)) hi,oL (g:=g) hi,xn,uT,b,ct a,←cE,bT a];simp[upd]
theorem OT{i:Nat}(hi:i<32)(hd:∀c,c<32→d.testBit c=(g c).isSome){y:β}(b:g i=some y):fm (upd g i none) 32=(fm g 32).take (tp i d)++(fm g 32).drop (tp i d+1):=by
 have a:=Da hd (i:=i) (by omega);rw[oL (g:=upd g i none) hi,oL (g:=g) hi,xn,uT,b,ct a,←cE,bT a];simp[upd]
theorem OU{i:Nat}(hi:i<32)(hd:∀c,c<32→d.testBit c=(g c).isSome){y:β}(b:g i=some y):(fm g 32)[tp i d]? =some y:=by
 have a:=Da hd (i:=i) (by omega);rw[oL (g:=g) hi,b,List.getElem?_append_right (by omega),a,Nat.sub_self];rfl
theorem Fs{i:Nat}(hi:i<32)(hd:∀c,c<32→d.testBit c=(g c).isSome){y:β}(a:g i=some y):tp i d<(fm g 32).length:=(List.getElem?_eq_some_iff.1 (OU hi hd a)).1
theorem QY{i:Nat}(hi:i<32)(hd:∀c,c<32→d.testBit c=(g c).isSome):tp i d≤(fm g 32).length:=by
 have a:=Da hd (i:=i) (by omega);rw[oL (g:=g) hi,ai];omega
theorem Bf:(fm g 32).length≤32:=by
 have:=List.length_filterMap_le g (dA 32);simpa[fm]using this
end
end Go.Proofs
namespace Go.Proofs
open Go.Lift
abbrev sv(s:SliceV):Value:=.slice s.a s.len s.cap
structure Slots where
 p:Nat→Option Pr
 k:Nat→Option (Option Addr)
def eO(d n:Nat)(sp sk:SliceV)(a:Bool)(ow:Option Addr):Array Value:= #[.int .u32 (d:Int),.int .u32 (n:Int),sv sp,sv sk,.bool a,.pointer ow]
structure BitsOf(d n:Nat)(s:Slots):Prop where
 d32:d<4294967296
 n32:n<4294967296
 dp:∀c,c<32→d.testBit c=(s.p c).isSome
 nk:∀c,c<32→n.testBit c=(s.k c).isSome
structure NodeAt(W:Nat→Prop)(h:ad)(b:Nat)(s:Slots):Prop where
 ex:∃d n sp sk ow,h[b]? =some (.cells (eO d n sp sk false ow) ba (0,0))∧BitsOf d n s∧Sl mn 2 W h sp (fm s.p 32)∧Sl q9 1 W h sk (fm s.k 32)∧sp.len≤sp.cap∧sk.len≤sk.cap
 nw:¬W b
theorem NodeAt.upd{W M:Nat→Prop}{h h':ad}{b:Nat}{s:Slots}(n:NodeAt W h b s)(k:Upd M h h')(hm:∀b,M b→W b∨h.size≤b):NodeAt W h' b s:=by
 obtain⟨d,m,sp,sk,ow,a,j,c,i,g,e⟩:=n.ex;exact⟨⟨d,m,sp,sk,ow,k.get a (fun f=>(hm _ f).elim n.nw fun h=>by have:=bp a;omega),j,c.upd k hm,i.upd k hm,g,e⟩,n.nw⟩
structure OwnN(M:Nat→Prop)(h:ad)(b d n:Nat)(sp sk:SliceV)(s:Slots)(ow:Option Addr):Prop where
 blk:h[b]? =some (.cells (eO d n sp sk false ow) ba (0,0))
 bits:BitsOf d n s
 ex:∃A B:Nat→Prop,OwnS mn 2 ak A h sp (fm s.p 32)∧OwnS q9 1 bv B h sk (fm s.k 32)∧(∀x,A x→M x∧¬B x∧x≠b∧x<h.size)∧(∀x,B x→M x∧x≠b∧x<h.size)
 mb:M b
theorem uN{h:ad}{K:Bool→ad→Prop}(a:K false h):HC PG fG [.pointer none] [.c .bool] K h:=by
 refine xE none ?_;unfold qH cX;exact ag.2 a
theorem E2{b:Nat}{h:ad}{K:Bool→ad→Prop}(a:K false h):HC PG mX [.pointer (some ⟨b,0,none⟩),.pointer none] [.c .bool] K h:=by
 refine za _ none ?_;unfold rI gi;exact ay.2 (uN (ag.2 a))
theorem OwnN.upd{M M':Nat→Prop}{h h':ad}{b d n:Nat}{sp sk:SliceV}{s:Slots}{ow:Option Addr}(o:OwnN M h b d n sp sk s ow)(k:Upd M' h h')(hm:∀x,M' x→¬M x):OwnN M h' b d n sp sk s ow:=by
 obtain⟨A,B,g,i,a,c⟩:=o.ex;have z:=k.size;exact⟨k.get o.blk fun f=>hm _ f o.mb,o.bits,⟨A,B,g.upd k fun x hx e=>hm _ e (a x hx).1,i.upd k fun x hx e=>hm _ e (c x hx).1,fun x hx=>⟨(a x hx).1,(a x hx).2.1,(a x hx).2.2.1,by have:=(a x hx).2.2.2;omega⟩,fun x hx=>⟨(c x hx).1,(c x hx).2.1,by have:=(c x hx).2.2;omega⟩⟩,o.mb⟩
set_option maxRecDepth 4000 in
theorem JY{W:Nat→Prop}{h:ad}{b:Nat}{s:Slots}(nd:NodeAt W h b s){K:Option Addr→ad→Prop}
  (F:∀h' d n sp sk,OwnN (fun x=>h.size≤x) h' h.size d n sp sk s none→Upd No h h'→K (some ⟨h.size,0,none⟩) h'):
  HC PG fj [.pointer (some ⟨b,0,none⟩),.pointer none] [.c .ptr] K h:=by
 obtain⟨d,n,sp,sk,ow,a,bits,E,L,T,V⟩:=nd.ex;refine uh _ none ?_;unfold px cX bL nv cg hO gi fg Nv Q6;refine E2 (ag.2 ?_);have c:∀{h:ad} {b:Nat} {c:Array Value} {i:Nat},h[b]? =some (.cells c ba (0,0))→aE h ⟨b,0+i,none⟩=c[i]?:=fun a=>by rw[aD];exact aI a
 refine⟨_,rfl,_,c (i:=0) a,_,c (i:=1) a,sp,c (i:=2) a,sk,c (i:=3) a,_,c (i:=4) a,_,c (i:=5) a,?_⟩;have k1:=Upd.hnew No h [.int .u32 0,.int .u32 0,.slice none 0 0,.slice none 0 0,.bool false,.pointer none] ba;have b1:=bh h [.int .u32 0,.int .u32 0,.slice none 0 0,.slice none 0 0,.bool false,.pointer none] ba;refine aU ?_;simp only[cG h];generalize hnew h [.int .u32 0,.int .u32 0,.slice none 0 0,.slice none 0 0,.bool false,.pointer none] ba=h1 at k1 b1
 have N:ia h1 ⟨h.size,0,none⟩ 0 [.int .u32 (d:Int),.int .u32 (n:Int),.slice sp.a sp.len sp.cap,.slice sk.a sk.len sk.cap,.bool false,.pointer ow]=_:=g6 _ h1 0 0 _ b1 (by simp);refine⟨.inr ⟨_,rfl,fun j X=>by rw[bJ];exact gI b1 (by simp at X⊢;omega)⟩,aU ?_⟩
 rw[N];have b2:=hT (o:=.cells (eO d n sp sk false ow) ba (0,0)) b1;have t:Upd No h _:=k1.trans (M':=(· =h.size)) (Upd.set h1 (.cells (eO d n sp sk false ow) ba (0,0)) rfl) fun x hx=>.inr (eZ hx.symm)
 have J:h.size<(h1.setIfInBounds h.size (.cells (eO d n sp sk false ow) ba (0,0))).size:=bp b2;have S:h.size≠b:=fun e=>by have:=bp a;omega
 have e2:(Obj.cells (List.take (0+0) [Value.int .u32 0,.int .u32 0,.slice none 0 0,.slice none 0 0,.bool false,.pointer none]++ [Value.int .u32 (d:Int),.int .u32 (n:Int),.slice sp.a sp.len sp.cap,.slice sk.a sk.len sk.cap,.bool false,.pointer ow]++List.drop (0+0+ [Value.int .u32 (d:Int),.int .u32 (n:Int),.slice sp.a sp.len sp.cap,.slice sk.a sk.len sk.cap,.bool false,.pointer ow].length) [Value.int .u32 0,.int .u32 0,.slice none 0 0,.slice none 0 0,.bool false,.pointer none]).toArray ba (0,0))=.cells (eO d n sp sk false ow) ba (0,0):=rfl
 rw[e2];generalize h1.setIfInBounds h.size (.cells (eO d n sp sk false ow) ba (0,0))=h2 at b2 t J;have q:=t.get0 a;refine⟨_,rfl,sp,c (i:=2) q,_,rfl,sk,c (i:=3) q,?_⟩;refine vV (E.upd t fun _ h=>h.elim) (by have:=Bf (g:=s.p);omega) fun z O H m=>?_
 refine⟨c (i:=3) (m.get0 q),?_⟩;refine FA ((L.upd t fun _ h=>h.elim).upd m fun _ h=>h.elim) (by have:=Bf (g:=s.k);omega) fun I Y D p=>?_
 have P:=p.get0 (m.get0 b2);have y:=H.within.upd p fun _ _ h=>h
 have u:=D.within;have z3:=m.size;have z4:=p.size;have w:∀{h:ad} {c:Array Value} {x i:Nat},h[x]? =some (.cells c ba (0,0))→i<c.size→Wr h ⟨x,0+i,none⟩:=fun a hi=>by rw[aD];exact gI a hi
 have st:∀{h:ad} {c c':Array Value} {x i:Nat} {v:Value} {k:ad→Prop},h[x]? =some (.cells c ba (0,0))→c.setIfInBounds i v=c'→(∀h',h'[x]? =some (.cells c' ba (0,0))→Upd (· =x) h h'→k h')→At (hset h ⟨x,i,none⟩ v) k:=fun a e F=>tO a fun h' A Z=>F h' (e▸A) Z
 refine⟨w (i:=2) P (show 2<6 by decide),st (i:=2) (c':=eO d n z sk false ow) P rfl fun h5 R C=>?_⟩
 refine⟨w (i:=3) R (show 3<6 by decide),st (i:=3) (c':=eO d n z I false ow) R rfl fun h6 Q B=>?_⟩
 refine⟨w (i:=5) Q (show 5<6 by decide),st (i:=5) (c':=eO d n z I false none) Q rfl fun h7 U G=>?_⟩
 refine uN (ag.2 ?_);have f:=C.tr (B.tr G);have z7:=f.size;refine F _ d n z I ⟨U,bits,⟨fun x=>h2.size≤x∧x<O.size,fun x=>O.size≤x∧x<Y.size,y.upd f fun x hx e=>by have e:x=h.size:=e;omega,u.upd f fun x hx e=>by have e:x=h.size:=e;omega,fun x hx=>⟨by omega,by omega,by omega,by omega⟩,fun x hx=>⟨by omega,by omega,by omega⟩⟩,az _⟩ ?_
 exact((t.tr m).tr p).trans f fun x hx=>.inr (eZ hx.symm)
end Go.Proofs
namespace Go.Proofs
open Go.Lift
theorem sH{β:Type}{g:Nat→Option β}{i:Nat}(h:g i=none):upd g i none=g:=by
 funext j;unfold upd;split
 ·rename_i e;rw[e,h]
 ·rfl
theorem dE{h:ad}{b:Nat}{c:Array Value}{t:TypeId}{i:Nat}(a:h[b]? =some (.cells c t (0,0))):aE h ⟨b,0+i,none⟩=c[i]?:=by rw[aD];exact aI a
theorem PO{h:ad}{b:Nat}{c:Array Value}{t:TypeId}{i:Nat}(a:h[b]? =some (.cells c t (0,0))) (hi:i<c.size):Wr h ⟨b,0+i,none⟩:=by rw[aD];exact gI a hi
theorem Ec{h:ad}{b:Nat}{c c':Array Value}{t:TypeId}{i:Nat}{v:Value}{k:ad→Prop}(d:h[b]? =some (.cells c t (0,0))) (e:c.setIfInBounds i v=c')
 (f:∀h',h'[b]? =some (.cells c' t (0,0))→Upd (· =b) h h'→k h'):At (hset h ⟨b,i,none⟩ v) k:=tO d fun h' a g=>f h' (e▸a) g
theorem GD{M:Nat→Prop}{h:ad}{b d n:Nat}{sp sk:SliceV}{s:Slots}{ow:Option Addr}(o:OwnN M h b d n sp sk s ow){i:Nat}(hi:i<32){K:Unit→ad→Prop}
  (X:∀h' w G sp' sk',OwnN M h' b w G sp' sk' ⟨upd s.p i none,upd s.k i none⟩ ow→Upd M h h'→K () h'):HC PG ij [.pointer (some ⟨b,0,none⟩),.int .i64 i] [] K h:=by
 obtain⟨A,B,Y,V,a,m⟩:=o.ex;have bits:=o.bits;refine yY _ i ?_;unfold rF bL cg lz Hi fg;have W:∀k:Nat,k≤100→ac .i64 ((k:Int)+1)=((k+1:Nat):Int):=fun k X=>by rw[j2 (by omega)];omega
 have hc1:=xy i d;have hc2:=xy i n;have Q:∀x,A x→M x∨h.size≤x:=fun x hx=>.inl (a x hx).1
 refine Join.intro (fun _ h'=>∃sp',h'[b]? =some (.cells (eO d n sp' sk false ow) ba (0,0))∧OwnS mn 2 ak A h' sp' (fm (upd s.p i none) 32)∧OwnS q9 1 bv B h' sk (fm s.k 32)∧Upd M h h') (fun R v=>?_) ?_
 ·refine⟨_,rfl,_,dE (i:=0) o.blk,Ar bits.d32 hi ?_⟩
  rw[bits.dp i hi];cases hp:s.p i with
  |none=>exact ag.2 (v _ _ ⟨sp,o.blk,by rw[sH hp];exact Y,V,Upd.refl _ _⟩)
  |some y=>
   refine ay.2 ⟨_,rfl,_,dE (i:=0) o.blk,oq bits.d32 hi ⟨_,rfl,sp,dE (i:=2) o.blk,?_⟩⟩;rw[W _ (by omega)];refine KH Y (Fs hi bits.dp hp) (by have:=Bf (g:=s.p);omega) fun D Z t f=>?_
   rw[←OT hi bits.dp hp]at t;have b2:=f.get o.blk fun H=>(a b H).2.2.1 rfl
   refine⟨_,rfl,PO (i:=2) b2 (show 2<6 by decide),Ec (i:=2) (c':=eO d n D sk false ow) b2 rfl fun U b3 j=>?_⟩
   refine v _ _ ⟨D,b3,t.upd j fun x hx e=>(a x hx).2.2.1 e,(V.upd f fun x hx I=>(a x I).2.1 hx).upd j fun x hx e=>(m x hx).2.1 e,(f.mono Q).tr (j.mono fun x e=>.inl (e▸o.mb))⟩
 rintro _ h1 ⟨q,b1,E,F,C⟩;refine Join.intro (fun _ h'=>∃sk',h'[b]? =some (.cells (eO d n q sk' false ow) ba (0,0))∧OwnS mn 2 ak A h' q (fm (upd s.p i none) 32)∧OwnS q9 1 bv B h' sk' (fm (upd s.k i none) 32)∧Upd M h1 h') (fun R v=>?_) ?_
 ·refine⟨_,rfl,_,dE (i:=1) b1,Ar bits.n32 hi ?_⟩
  rw[bits.nk i hi];cases hp:s.k i with
  |none=>exact ag.2 (v _ _ ⟨sk,b1,E,by rw[sH hp];exact F,Upd.refl _ _⟩)
  |some y=>
   refine ay.2 ⟨_,rfl,_,dE (i:=1) b1,oq bits.n32 hi ⟨_,rfl,sk,dE (i:=3) b1,?_⟩⟩;rw[W _ (by omega)];refine KI F (Fs hi bits.nk hp) (by have:=Bf (g:=s.k);omega) fun D Z t f=>?_
   rw[←OT hi bits.nk hp]at t;have b2:=f.get b1 fun H=>(m b H).2.1 rfl
   refine⟨_,rfl,PO (i:=3) b2 (show 3<6 by decide),Ec (i:=3) (c':=eO d n q D false ow) b2 rfl fun U b3 j=>?_⟩
   refine v _ _ ⟨D,b3,(E.upd f fun x hx I=>(a x hx).2.1 I).upd j fun x hx e=>(a x hx).2.2.1 e,t.upd j fun x hx e=>(m x hx).2.1 e,(f.mono fun x hx=>.inl (m x hx).1).tr (j.mono fun x e=>.inl (e▸o.mb))⟩
 rintro _ Z ⟨u,b2,N,L,f⟩;refine⟨_,rfl,_,dE (i:=0) b2,_,rfl,_,dE (i:=1) b2,?_⟩;refine Cp bits.d32 hi fun w T P=>⟨dE (i:=1) b2,?_⟩
 refine Cp bits.n32 hi fun G J O=>?_
 refine⟨_,rfl,PO (i:=0) b2 (show 0<6 by decide),Ec (i:=0) (c':=eO w n q u false ow) b2 rfl fun U b3 j=>?_⟩
 refine⟨_,rfl,PO (i:=1) b3 (show 1<6 by decide),Ec (i:=1) (c':=eO w G q u false ow) b3 rfl fun h4 b4 S=>?_⟩
 have p:=j.tr S;have z:=(C.tr (f.tr (p.mono (M':=M) fun x e=>.inl (e▸o.mb)))).size
 refine X h4 w G q u ⟨b4,⟨T,J,fun c hc=>?_,fun c hc=>?_⟩,⟨A,B,N.upd p fun x hx e=>(a x hx).2.2.1 e,L.upd p fun x hx e=>(m x hx).2.1 e,fun x hx=>⟨(a x hx).1,(a x hx).2.1,(a x hx).2.2.1,by have:=(a x hx).2.2.2;omega⟩,fun x hx=>⟨(m x hx).1,(m x hx).2.1,by have:=(m x hx).2.2;omega⟩⟩,o.mb⟩ (C.tr (f.tr (p.mono fun x e=>.inl (e▸o.mb))))
 ·rw[P,bits.dp c hc];simp only[upd];split<;>simp[*]
 ·rw[O,bits.nk c hc];simp only[upd];split<;>simp[*]
end Go.Proofs
namespace Go.Proofs
open Go.Lift
theorem OwnS.setAt{α:Type}{f:α→List Value}{c:Nat}{t:TypeId}{M:Nat→Prop}{h:ad}{s:SliceV}{xs:List α}(i:OwnS f c t M h s xs){k:Nat}(p:k<xs.length)(x:α):
  ∃a,s.a=some a∧M a.block∧sq h (some (adr a (k*c))) 0 (f x)∧OwnS f c t M (ia h (adr a (k*c)) 0 (f x)) s (xs.take k++x::xs.drop (k+1))∧Upd (· =a.block) h (ia h (adr a (k*c)) 0 (f x)):=by
 have m:∀x,(f x).length=c∧0<c:=i.ne;have q:=i.len;have g:=i.cap;rcases i.blk with D|⟨b,e,v,u,hc,y⟩
 ·omega
 have o:((xs.take k).flatMap f).length=k*c:=by rw[iq m,aP,bB (by omega)]
 have e1:xs.flatMap f=(xs.take k).flatMap f++(f xs[k]++(xs.drop (k+1)).flatMap f):=by
  rw[←be,←List.drop_eq_getElem_cons p];exact vo xs k
 rw[e1]at hc;have z:=(m xs[k]).1;have C:=(m x).1;have d:(xs.take k++x::xs.drop (k+1)).flatMap f=(xs.take k).flatMap f++(f x++(xs.drop (k+1)).flatMap f):=by rw[List.flatMap_append,be]
 generalize (xs.take k).flatMap f=A at o hc d;generalize (xs.drop (k+1)).flatMap f=B at hc d;generalize f xs[k]=X at z hc;have w:k*c+0+(f x).length≤(A++(X++B)++e).length:=by simp only[ai];omega
 have n:adr ⟨b,0,none⟩ (k*c)=⟨b,k*c,none⟩:=by rw[bJ,aD]
 refine⟨⟨b,0,none⟩,v,u,?_,?_,?_⟩
 ·rw[n]
  refine .inr ⟨_,rfl,fun j E=>?_⟩
  rw[bJ];exact gI hc (by rw[List.size_toArray];omega)
 ·rw[n,g6 (f x) h 0 (k*c) _ hc w]
  refine⟨by simp;omega,m,g,.inr ⟨b,e,v,u,?_,?_⟩⟩
  ·rw[hT hc,d]
   congr 3
   rw[Nat.add_zero,aF A,ct o,←cE,bT o,aF X,bT (by omega)];simp only[aF]
  ·exact y
 ·rw[n,g6 (f x) h 0 (k*c) _ hc w]
  exact Upd.set h _ rfl
theorem OwnN.node{M W:Nat→Prop}{h:ad}{b d n:Nat}{sp sk:SliceV}{s:Slots}{ow:Option Addr}(o:OwnN M h b d n sp sk s ow)(a:∀x,M x→¬W x):NodeAt W h b s:=by
 obtain⟨A,B,c,e,f,g⟩:=o.ex;exact⟨⟨d,n,sp,sk,ow,o.blk,o.bits,c.sl fun x hx _=>a _ (f x hx).1,e.sl fun x hx _=>a _ (g x hx).1,c.cap,e.cap⟩,a _ o.mb⟩
theorem C4{W:Nat→Prop}{h:ad}{b:Nat}{s:Slots}(nd:NodeAt W h b s){i:Nat}(hi:i<32){K:Bool→ad→Prop}(c:K true h):HC PG ik [.pointer (some ⟨b,0,none⟩),.int .i64 i] [.c .bool] K h:=by
 obtain⟨d,n,sp,sk,ow,a,_⟩:=nd.ex;refine yZ _ i ?_;unfold rG cX;refine ay.2 ⟨_,rfl,_,dE (i:=4) a,ay.2 ?_⟩;refine aG (fun _=>?_) fun h=>absurd (Int.natCast_nonneg i) h
 rw[decide_eq_true (by omega)];exact c
theorem Lj{β:Type}{g:Nat→Option β}{i:Nat}{x y:Option β}:upd (upd g i x) i y=upd g i y:=by
 funext j;unfold upd;split<;>rfl
theorem fV{β:Type}{g:Nat→Option β}{i:Nat}{x:Option β}:upd g i x i=x:=by simp[upd]
theorem qg{W:Nat→Prop}{h:ad}{b:Nat}{s:Slots}(nd:NodeAt W h b s)(hW:∀x,W x→x<h.size){i:Nat}(hi:i<32)(hx:∀y,s.p i=some y→s.k i=none)(p:Pr){K:Option Addr→ad→Prop}
  (hk:∀h' b',NodeAt W h' b' ⟨upd s.p i (some p),upd s.k i none⟩→Upd No h h'→K (some ⟨b',0,none⟩) h'):
  HC PG ee [.pointer (some ⟨b,0,none⟩),.pointer none,.int .i64 i,.agg #[.string p.1,.string p.2]] [.c .ptr] K h:=by
 refine wt _ none i p ?_;unfold pS dU av bL eI cg hO ny lz mE fg BG;have k1:=Upd.hnew No h [.string p.1,.string p.2] ak;have b1:=bh h [.string p.1,.string p.2] ak;refine aU ?_;simp only[cG h];generalize hnew h [.string p.1,.string p.2] ak=h1 at k1 b1;have z1:=bp b1;have nd1:=nd.upd k1 fun _ h=>h.elim
 refine C4 nd1 hi (ag.2 ?_);refine JY nd1 fun h2 d n sp sk o H=>?_
 have bits:=o.bits;obtain⟨A,B,hA,hB,q,G⟩:=o.ex;have F:=k1.tr H;have u:=H.get0 b1;have P:∀x,h1.size≤x→¬W x:=fun x hx T=>by have:=hW x T;omega
 refine⟨_,rfl,_,dE (i:=0) o.blk,Ar bits.d32 hi ?_⟩;rw[bits.dp i hi];cases hp:s.p i with
 |some y=>
  refine ay.2 ⟨_,rfl,sp,dE (i:=2) o.blk,_,rfl,_,dE (i:=0) o.blk,p.1,by rw[bJ,aI u];rfl,p.2,by rw[bJ,aI u];rfl,?_⟩
  refine oq bits.d32 hi ⟨⟨by rw[bJ,aI u];rfl,by rw[bJ,aI u];rfl⟩,dE (i:=2) o.blk,?_⟩
  have hlt:=Fs hi bits.dp hp;obtain⟨a,ha,L,T,U,m⟩:=OwnS.setAt hA hlt p;have hlen:=hA.len;refine⟨by omega,a,ha,?_⟩;rw[aB];refine⟨T,aU ?_⟩;rw[←OO hi bits.dp hp]at U;have ob:=m.get o.blk fun e=>(q _ L).2.2.1 e.symm
  have z3:=m.size;have E:OwnN (fun x=>h1.size≤x) _ h1.size d n sp sk ⟨upd s.p i (some p),upd s.k i none⟩ none:=⟨ob,⟨bits.d32,bits.n32,fun c hc=>by
    rw[bits.dp c hc];simp only[upd];split
    ·rename_i e;rw[e,hp];rfl
    ·rfl,fun c hc=>by rw[bits.nk c hc,sH (hx y hp)]⟩,
   ⟨A,B,U,by rw[sH (hx y hp)];exact hB.upd m fun x hx e=>(q _ L).2.1 (e▸hx),fun x hx=>⟨(q x hx).1,(q x hx).2.1,(q x hx).2.2.1,by have:=(q x hx).2.2.2;omega⟩,fun x hx=>⟨(G x hx).1,(G x hx).2.1,by have:=(G x hx).2.2;omega⟩⟩,o.mb⟩
  refine hk _ _ (E.node P) (F.trans m fun x hx=>.inr ?_)
  have:=(q _ L).1;have hx:x=a.block:=hx;omega
 |none=>
  refine ag.2 ⟨_,rfl,GD o hi fun v d3 n3 z I E m=>?_⟩
  have f:=E.bits;obtain⟨A3,B3,hA3,hB3,j,k⟩:=E.ex;have z2:=H.size;have z3:=m.size;have D:=m.get u (show ¬h1.size≤h.size by omega)
  have Z:Upd No h v:=F.trans m fun x hx=>.inr (bR (Nat.le_of_lt z1) hx)
  refine⟨_,rfl,z,dE (i:=2) E.blk,_,rfl,_,dE (i:=0) E.blk,p.1,by rw[bJ,aI D];rfl,p.2,by rw[bJ,aI D];rfl,?_⟩
  have V:=Upd.hnew No v [.string p.1,.string p.2] ak;have b4:=bh v [.string p.1,.string p.2] ak;have z4:=fe v [.string p.1,.string p.2] ak;have N:=E.upd V fun _ h=>h.elim
  have Y:HC PG cz [.slice z.a z.len z.cap,.int .i64 (tp i d3),.slice (some (aR v)) 1 1] [.c .slice] (fun(J:SliceV) Q=>
       ∃a34:Addr,some (⟨h1.size,0,none⟩:Addr)=some a34∧
       (Wr Q (adr (adr a34 0) 2)∧
        At (hset Q (adr (adr a34 0) 2) (.slice J.a J.len J.cap)) (fun X=>
         ∃a36:Addr,some (⟨h1.size,0,none⟩:Addr)=some a36∧
         ∃v37:Int,aE X (adr (adr a36 0) 0)=some (.int .u32 v37)∧
         HC PG ef [.int .u32 v37,.int .i64 i] [.c (.int .u32)] (fun(e38:Int) R=>
          ∃a40:Addr,some (⟨h1.size,0,none⟩:Addr)=some a40∧
          (Wr R (adr (adr a40 0) 0)∧
           At (hset R (adr (adr a40 0) 0) (.int .u32 e38)) (fun h41=>
            K (some ⟨h1.size,0,none⟩) h41))) X))) (hnew v [.string p.1,.string p.2] ak):=by
   generalize hnew v [.string p.1,.string p.2] ak=h4 at V b4 z4 N;rw[cG v];have hA4:=(hA3.upd V fun _ _ h=>h).more (M':=fun x=>A3 x∨h4.size≤x) fun x hx=>.inl hx
   have hpn:(⟨upd s.p i none,upd s.k i none⟩:Slots).p i=none:=fV;refine Ko hA4 (QY hi f.dp) (by have:=Bf (g:=(⟨upd s.p i none,upd s.k i none⟩:Slots).p);omega) (x:=p) b4 (fun e=>e.elim (fun e=>by have:=(j _ e).2.2.2;omega) fun e=>by omega) (fun x hx=>.inr hx) fun s5 h5 O C=>?_
   rw[←OQ hi f.dp hpn p]at O;have hbl:h1.size<v.size:=bp E.blk;have b5:=C.get N.blk fun e=>e.elim (fun e=>(j _ e).2.2.1 rfl) fun e=>by omega
   refine⟨_,rfl,PO (i:=2) b5 (show 2<6 by decide),Ec (i:=2) (c':=eO d3 n3 s5 I false none) b5 rfl fun h6 b6 hu6=>?_⟩
   refine⟨_,rfl,_,dE (i:=0) b6,Li f.d32 hi fun w T hwt=>?_⟩
   refine⟨_,rfl,PO (i:=0) b6 (show 0<6 by decide),Ec (i:=0) (c':=eO w n3 s5 I false none) b6 rfl fun h7 b7 hu7=>?_⟩
   have t:=hu6.tr hu7;have z5:=C.size;have z7:=t.size;have S:=O.within;have e1:(⟨upd (⟨upd s.p i none,upd s.k i none⟩:Slots).p i (some p),upd s.k i none⟩:Slots)=⟨upd s.p i (some p),upd s.k i none⟩:=by rw[Lj]
   have o7:OwnN (fun x=>h1.size≤x) h7 h1.size w n3 s5 I ⟨upd s.p i (some p),upd s.k i none⟩ none:=by
    rw[←e1];refine⟨b7,⟨T,f.n32,fun c hc=>?_,f.nk⟩,⟨fun x=>(A3 x∨h4.size≤x)∧x<h5.size,B3,S.upd t fun x hx e=>?_,((hB3.upd V fun _ _ h=>h).upd C fun x hx e=>?_).upd t fun x hx e=>(k x hx).2.1 e,fun x hx=>⟨?_,?_,?_,by omega⟩,fun x hx=>⟨(k x hx).1,(k x hx).2.1,by have:=(k x hx).2.2;omega⟩⟩,o.mb⟩
    ·rw[hwt,f.dp c hc];simp only[upd];split<;>simp[*]
    ·have e:x=h1.size:=e
     rcases hx.1 with h|h
     ·exact(j x h).2.2.1 e
     ·omega
    ·rcases e with e|e
     ·exact(j x e).2.1 hx
     ·have:=(k x hx).2.2;omega
    ·rcases hx.1 with h|h
     ·exact(j x h).1
     ·omega
    ·rcases hx.1 with h|h
     ·exact(j x h).2.1
     ·exact fun hb=>by have:=(k x hb).2.2;omega
    ·rcases hx.1 with h|h
     ·exact(j x h).2.2.1
     ·omega
   refine hk _ _ (o7.node P) (((Z.tr V).trans C fun x hx=>.inr ?_).trans t fun x hx=>.inr ?_)
   ·rcases hx with h|h
    ·have:=(j x h).1;omega
    ·omega
   ·have hx:x=h1.size:=hx
    omega
  refine⟨oq f.d32 hi ⟨⟨by rw[bJ,aI D];rfl,by rw[bJ,aI D];rfl⟩,dE (i:=2) E.blk,aU ⟨dE (i:=2) N.blk,Y⟩⟩,aU ⟨dE (i:=0) N.blk,dE (i:=2) N.blk,oq f.d32 hi ⟨dE (i:=2) N.blk,Y⟩⟩⟩
end Go.Proofs
namespace Go.Proofs
open Go.Lift
theorem Pe{W:Nat→Prop}{h:ad}{b:Nat}{s:Slots}(nd:NodeAt W h b s)(j:∀x,W x→x<h.size){i:Nat}(hi:i<32){K:Option Addr→ad→Prop}
  (e:∀h' b',NodeAt W h' b' ⟨upd s.p i none,upd s.k i none⟩→Upd No h h'→K (some ⟨b',0,none⟩) h'):
  HC PG jV [.pointer (some ⟨b,0,none⟩),.pointer none,.int .i64 i] [.c .ptr] K h:=by
 refine zd _ none i ?_;unfold rK hO mE;refine C4 nd hi (ag.2 ?_);refine JY nd fun u d n sp sk o a=>⟨_,rfl,GD o hi fun p t q g m k c=>?_⟩
 exact e _ _ (k.node fun x hx f=>by have:=j x f;omega) (a.trans c fun x hx=>.inr hx)
theorem vN{W:Nat→Prop}{h:ad}{b:Nat}{s:Slots}(nd:NodeAt W h b s)(hW:∀x,W x→x<h.size){i:Nat}(hi:i<32)(hx:∀y,s.k i=some y→s.p i=none)(j:Addr){K:Option Addr→ad→Prop}
  (hk:∀h' b',NodeAt W h' b' ⟨upd s.p i none,upd s.k i (some (some j))⟩→Upd No h h'→K (some ⟨b',0,none⟩) h'):
  HC PG fK [.pointer (some ⟨b,0,none⟩),.pointer none,.int .i64 i,.pointer (some j)] [.c .ptr] K h:=by
 refine xL _ none i (some j) ?_;unfold qO dU bL cg hO lz mE FO fg;refine ag.2 ?_;refine C4 nd hi (ag.2 ?_);refine JY nd fun h2 d n sp sk o G=>?_
 have bits:=o.bits;obtain⟨A,B,hA,hB,t,u⟩:=o.ex;have N:∀x,h.size≤x→¬W x:=fun x hx C=>by have:=hW x C;omega
 refine⟨_,rfl,_,dE (i:=1) o.blk,Ar bits.n32 hi ?_⟩;rw[bits.nk i hi];cases hp:s.k i with
 |some y=>
  refine ay.2 ⟨_,rfl,sk,dE (i:=3) o.blk,_,rfl,_,dE (i:=1) o.blk,?_⟩;refine oq bits.n32 hi ⟨dE (i:=3) o.blk,?_⟩;have hlt:=Fs hi bits.nk hp;obtain⟨a,ha,I,C,R,p⟩:=OwnS.setAt hB hlt (some j);have hlen:=hB.len;refine⟨by omega,a,ha,?_⟩;rw[aB];have hw1:Wr h2 (adr a (tp i n*1)):=by
   rcases C with C|⟨b',Y,C⟩
   ·cases C
   ·cases Y;exact C 0 (by simp)
  refine⟨hw1,aU ?_⟩;rw[←OO hi bits.nk hp]at R;have ob:=p.get o.blk fun e=>(u _ I).2.1 e.symm
  have z3:=p.size;have E:OwnN (fun x=>h.size≤x) _ h.size d n sp sk ⟨upd s.p i none,upd s.k i (some (some j))⟩ none:=⟨ob,⟨bits.d32,bits.n32,fun c hc=>by rw[bits.dp c hc,sH (hx y hp)],fun c hc=>by
    rw[bits.nk c hc];simp only[upd];split
    ·rename_i e;rw[e,hp];rfl
    ·rfl⟩,
   ⟨A,B,by rw[sH (hx y hp)];exact hA.upd p fun x hx e=>(t _ hx).2.1 (e▸I),R,fun x hx=>⟨(t x hx).1,(t x hx).2.1,(t x hx).2.2.1,by have:=(t x hx).2.2.2;omega⟩,fun x hx=>⟨(u x hx).1,(u x hx).2.1,by have:=(u x hx).2.2;omega⟩⟩,o.mb⟩
  refine hk _ _ (E.node N) (G.trans p fun x hx=>.inr ?_)
  have:=(u _ I).1;have hx:x=a.block:=hx;omega
 |none=>
  refine ag.2 ⟨_,rfl,GD o hi fun v d3 n3 F D E p=>?_⟩
  have f:=E.bits;obtain⟨A3,B3,hA3,hB3,k,m⟩:=E.ex;have z2:=G.size;have z3:=p.size;have V:Upd No h v:=G.trans p fun x hx=>.inr hx
  refine⟨_,rfl,D,dE (i:=3) E.blk,_,rfl,_,dE (i:=1) E.blk,?_⟩;have S:=Upd.hnew No v [.pointer (some j)] bv;have b4:=bh v [.pointer (some j)] bv;have z4:=fe v [.pointer (some j)] bv;have J:=E.upd S fun _ h=>h.elim
  have U:HC PG ci [.slice D.a D.len D.cap,.int .i64 (tp i n3),.slice (some (aR v)) 1 1] [.c .slice] (fun(H:SliceV) O=>
       ∃a34:Addr,some (⟨h.size,0,none⟩:Addr)=some a34∧
       (Wr O (adr (adr a34 0) 3)∧
        At (hset O (adr (adr a34 0) 3) (.slice H.a H.len H.cap)) (fun T=>
         ∃a36:Addr,some (⟨h.size,0,none⟩:Addr)=some a36∧
         ∃v37:Int,aE T (adr (adr a36 0) 1)=some (.int .u32 v37)∧
         HC PG ef [.int .u32 v37,.int .i64 i] [.c (.int .u32)] (fun(e38:Int) P=>
          ∃a40:Addr,some (⟨h.size,0,none⟩:Addr)=some a40∧
          (Wr P (adr (adr a40 0) 1)∧
           At (hset P (adr (adr a40 0) 1) (.int .u32 e38)) (fun X=>
            K (some ⟨h.size,0,none⟩) X))) T))) (hnew v [.pointer (some j)] bv):=by
   generalize hnew v [.pointer (some j)] bv=h4 at S b4 z4 J;rw[cG v];have hB4:=(hB3.upd S fun _ _ h=>h).more (M':=fun x=>B3 x∨h4.size≤x) fun x hx=>.inl hx
   have hpn:(⟨upd s.p i none,upd s.k i none⟩:Slots).k i=none:=fV;refine Kp hB4 (QY hi f.nk) (by have:=Bf (g:=(⟨upd s.p i none,upd s.k i none⟩:Slots).k);omega) (x:=some j) b4 (fun e=>e.elim (fun e=>by have:=(m _ e).2.2;omega) fun e=>by omega) (fun x hx=>.inr hx) fun s5 h5 L z=>?_
   rw[←OQ hi f.nk hpn (some j)]at L;have hbl:h.size<v.size:=bp E.blk;have b5:=z.get J.blk fun e=>e.elim (fun e=>(m _ e).2.1 rfl) fun e=>by omega
   refine⟨_,rfl,PO (i:=3) b5 (show 3<6 by decide),Ec (i:=3) (c':=eO d3 n3 F s5 false none) b5 rfl fun h6 b6 Z=>?_⟩
   refine⟨_,rfl,_,dE (i:=1) b6,Li f.n32 hi fun w C hwt=>?_⟩
   refine⟨_,rfl,PO (i:=1) b6 (show 1<6 by decide),Ec (i:=1) (c':=eO d3 w F s5 false none) b6 rfl fun h7 b7 hu7=>?_⟩
   have q:=Z.tr hu7;have z5:=z.size;have z7:=q.size;have Q:=L.within;have e1:(⟨upd s.p i none,upd (⟨upd s.p i none,upd s.k i none⟩:Slots).k i (some (some j))⟩:Slots)=⟨upd s.p i none,upd s.k i (some (some j))⟩:=by rw[Lj]
   have o7:OwnN (fun x=>h.size≤x) h7 h.size d3 w F s5 ⟨upd s.p i none,upd s.k i (some (some j))⟩ none:=by
    rw[←e1];refine⟨b7,⟨f.d32,C,f.dp,fun c hc=>?_⟩,⟨A3,fun x=>(B3 x∨h4.size≤x)∧x<h5.size,((hA3.upd S fun _ _ h=>h).upd z fun x hx e=>?_).upd q fun x hx e=>(k x hx).2.2.1 e,Q.upd q fun x hx e=>?_,fun x hx=>⟨(k x hx).1,?_,(k x hx).2.2.1,by have:=(k x hx).2.2.2;omega⟩,fun x hx=>⟨?_,?_,by omega⟩⟩,o.mb⟩
    ·rw[hwt,f.nk c hc];simp only[upd];split<;>simp[*]
    ·rcases e with e|e
     ·exact(k x hx).2.1 e
     ·have:=(k x hx).2.2.2;omega
    ·have e:x=h.size:=e
     rcases hx.1 with h|h
     ·exact(m x h).2.1 e
     ·omega
    ·rintro⟨h|h,_⟩
     ·exact(k x hx).2.1 h
     ·have:=(k x hx).2.2.2;omega
    ·rcases hx.1 with h|h
     ·exact(m x h).1
     ·omega
    ·rcases hx.1 with h|h
     ·exact(m x h).2.1
     ·omega
   refine hk _ _ (o7.node N) (((V.tr S).trans z fun x hx=>.inr ?_).trans q fun x hx=>.inr ?_)
   ·rcases hx with h|h
    ·exact(m x h).1
    ·omega
   ·have hx:x=h.size:=hx
    omega
  refine⟨oq f.n32 hi ⟨dE (i:=3) E.blk,aU ⟨dE (i:=3) J.blk,U⟩⟩,aU ⟨dE (i:=1) J.blk,dE (i:=3) J.blk,oq f.n32 hi ⟨dE (i:=3) J.blk,U⟩⟩⟩
end Go.Proofs
namespace Go.Proofs
open Go.Lift
theorem QA{h:ad}{b d n:Nat}{sp sk:SliceV}{a:Bool}{ow:Option Addr}(c:h[b]? =some (.cells (eO d n sp sk a ow) ba (0,0))) {K:Int→ad→Prop} (e:K (d:Int) h):HC PG nT [.pointer (some ⟨b,0,none⟩)] [.c (.int .u32)] K h:=by
 refine AQ _ ?_;unfold te fg;exact ag.2 ⟨_,rfl,_,dE (i:=0) c,e⟩
theorem HZ{h:ad}{b d n:Nat}{sp sk:SliceV}{a:Bool}{ow:Option Addr}(c:h[b]? =some (.cells (eO d n sp sk a ow) ba (0,0))) {K:Int→ad→Prop} (e:K (n:Int) h):HC PG jU [.pointer (some ⟨b,0,none⟩)] [.c (.int .u32)] K h:=by
 refine zc _ ?_;unfold rJ fg;exact ag.2 ⟨_,rfl,_,dE (i:=1) c,e⟩
theorem jd{h:ad}{b d n:Nat}{sp sk:SliceV}{a:Bool}{ow:Option Addr}(c:h[b]? =some (.cells (eO d n sp sk a ow) ba (0,0))) {K:Bool→ad→Prop} (e:K a h):HC PG dK [.pointer (some ⟨b,0,none⟩)] [.c .bool] K h:=by
 refine vz _ ?_;unfold pc cX;exact ay.2 ⟨_,rfl,_,dE (i:=4) c,e⟩
def OK(o:Option Pr):Pr:=o.getD (⟨#[]⟩,⟨#[]⟩)
theorem CP{h:ad}{b:Nat}{q p:Pr}(a:h[b]? =some (.cells #[.string q.1,.string q.2] ak (0,0))) {k:ad→Prop}
  (c:∀h',h'[b]? =some (.cells #[.string p.1,.string p.2] ak (0,0))→Upd (· =b) h h'→k h'):sq h (some ⟨b,0,none⟩) 0 [.string p.1,.string p.2]∧At (ia h ⟨b,0,none⟩ 0 [.string p.1,.string p.2]) k:=by
 have e:=g6 [.string p.1,.string p.2] h 0 0 [.string q.1,.string q.2] a (by simp);refine⟨.inr ⟨_,rfl,fun j d=>by rw[bJ];exact gI a (by simp at d⊢;omega)⟩,aU ?_⟩
 rw[e];refine c _ ?_ (Upd.set h _ rfl);rw[hT a];rfl
theorem CU{W:Nat→Prop}{h:ad}{b:Nat}{s:Slots}(nd:NodeAt W h b s){i:Nat}(hi:i<32){K:Pr×Bool→ad→Prop}(k:∀h',Upd No h h'→K (OK (s.p i),(s.p i).isSome) h'):
  HC PG iR [.pointer (some ⟨b,0,none⟩),.int .i64 i] [.agg [.str,.str],.c .bool] K h:=by
 refine AO _ i ?_;unfold tc dU av cC bL eH eI jl lz fg;obtain⟨d,n,sp,sk,ow,t,bits,f,w,q,A⟩:=nd.ex;have k1:=Upd.hnew No h [.string (⟨#[]⟩:ByteArray),.string (⟨#[]⟩:ByteArray)] ak;have b1:=bh h [.string (⟨#[]⟩:ByteArray),.string (⟨#[]⟩:ByteArray)] ak;refine aU ?_;simp only[cG h];generalize hnew h [.string (⟨#[]⟩:ByteArray),.string (⟨#[]⟩:ByteArray)] ak=h1 at k1 b1
 have c:=k1.get0 t;have j:h1[h.size]? =some (.cells #[.string Lf.1,.string Lf.2] ak (0,0)):=b1;refine QA c (Ar bits.d32 hi ?_);rw[bits.dp i hi];cases hp:s.p i with
 |none=>
  rw[hp]at k;refine ay.2 (CP (p:=Lf) j fun z b2 e=>⟨_,by rw[bJ,aI b2];rfl,_,by rw[bJ,aI b2];rfl,k _ (k1.trans e fun x hx=>.inr (eZ hx.symm))⟩)
 |some y=>
  rw[hp]at k;refine ag.2 ⟨_,rfl,sp,dE (i:=2) c,_,rfl,_,dE (i:=0) c,oq bits.d32 hi ⟨dE (i:=2) c,?_⟩⟩;have u:=Fs hi bits.dp hp;have g:=f.upd k1 fun _ h=>h.elim
  obtain⟨a,v,_,o⟩:=g.at (OU hi bits.dp hp);have m:=f.len;refine⟨by omega,a,v,y.1,o 0 _ rfl,y.2,o 1 _ rfl,?_⟩;refine CP (p:=y) j fun z b2 e=>⟨_,by rw[bJ,aI b2];rfl,_,by rw[bJ,aI b2];rfl,k _ (k1.trans e fun x hx=>.inr (eZ hx.symm))⟩
theorem Cb{W:Nat→Prop}{h:ad}{b:Nat}{s:Slots}(nd:NodeAt W h b s){i:Nat}(hi:i<32){K:Option Addr×Bool→ad→Prop}(e:K ((s.k i).getD none,(s.k i).isSome) h):
  HC PG jw [.pointer (some ⟨b,0,none⟩),.int .i64 i] [.c .ptr,.c .bool] K h:=by
 refine BZ _ i ?_;unfold uq bA dU bL lz fg;obtain⟨d,n,sp,sk,ow,f,bits,j,c,k,q⟩:=nd.ex;refine HZ f (Ar bits.n32 hi ?_);rw[bits.nk i hi];cases hp:s.k i with
 |none=>rw[hp]at e;exact ay.2 e
 |some y=>
  rw[hp]at e;refine ag.2 ⟨_,rfl,sk,dE (i:=3) f,_,rfl,_,dE (i:=1) f,oq bits.n32 hi ⟨dE (i:=3) f,?_⟩⟩;have m:=Fs hi bits.nk hp;obtain⟨a,o,_,p⟩:=c.at (OU hi bits.nk hp);have g:=c.len;exact⟨by omega,a,o,y,p 0 _ rfl,e⟩
theorem HT{W:Nat→Prop}{h:ad}{b d n:Nat}{sp sk:SliceV}{a:Bool}{ow:Option Addr}{l:List Pr}(e:h[b]? =some (.cells (eO d n sp sk a ow) ba (0,0))) (f:Sl mn 2 W h sp l) (g:l.length≤1000000000) {K:SliceV→ad→Prop}
  (c:∀s' h',OwnS mn 2 ak (fun x=>h.size≤x) h' s' l→Upd No h h'→K s' h'):HC PG jT [.pointer (some ⟨b,0,none⟩)] [.c .slice] K h:=by
 refine y9 _ ?_;unfold rH bL;exact ag.2 ⟨_,rfl,sp,dE (i:=2) e,vV f (by omega) c⟩
structure BuckAt(W:Nat→Prop)(h:ad)(b:Nat)(l:List Pr):Prop where
 ex:∃sp sk ow,h[b]? =some (.cells (eO 0 0 sp sk true ow) ba (0,0))∧Sl mn 2 W h sp l∧Sl q9 1 W h sk []∧sp.len≤sp.cap∧sk.len≤sk.cap
 nw:¬W b
theorem BuckAt.upd{W M:Nat→Prop}{h h':ad}{b:Nat}{l:List Pr}(n:BuckAt W h b l)(k:Upd M h h')(hm:∀b,M b→W b∨h.size≤b):BuckAt W h' b l:=by
 obtain⟨sp,sk,ow,a,c,g,f,d⟩:=n.ex;exact⟨⟨sp,sk,ow,k.get a (fun e=>(hm _ e).elim n.nw fun h=>by have:=bp a;omega),c.upd k hm,g.upd k hm,f,d⟩,n.nw⟩
theorem OH{W:Nat→Prop}{h:ad}{b:Nat}{l:List Pr}(u:BuckAt W h b l)(o:dM l)(p:l.length≤1000000000)(k:ByteArray){K:ByteArray×Bool→ad→Prop}
  (i:∀h' v,Upd No h h'→(bX l k=true→(k,v)∈l)→(bX l k=false→v=⟨#[]⟩)→K (v,bX l k) h'):HC PG nV [.pointer (some ⟨b,0,none⟩),.string k] [.c .str,.c .bool] K h:=by
 refine K5 _ k ?_;unfold DY dU cC D4;obtain⟨sp,sk,ow,q,m,z,w,x⟩:=u.ex;refine HT q m p fun t A j g=>?_
 have d:Sl mn 2 No A t l:=j.sl fun _ _ _ h=>h
 refine Gy d o p k fun B c=>?_
 cases ht:bX l k with
 |false=>rw[ht]at i;exact ay.2 (i _ _ (g.tr c) (fun h=>by cases h) fun _=>rfl)
 |true=>
  rw[ht]at i;obtain⟨f,e⟩:=Gc o ht;obtain⟨a,s,_,y⟩:=(d.upd c fun _ h=>h.elim).at (aJ f)
  have n:=d.len;refine ag.2 ⟨by simp only;omega,a,s,_,y 1 _ rfl,i _ _ (g.tr c) (fun _=>?_) fun h=>by cases h⟩
  have:(k,l[pos l k].2)=l[pos l k]:=Prod.ext e.symm rfl;rw[this];exact List.getElem_mem f
theorem QW{W:Nat→Prop}{h:ad}{b:Nat}{l:List Pr}(c:BuckAt W h b l)(d:dM l)(e:l.length≤1000000000)(k:ByteArray){K:ByteArray×Bool→ad→Prop}
 (a:∀h' v,Upd No h h'→(bX l k=true→(k,v)∈l)→K (v,bX l k) h'):HC PG nV [.pointer (some ⟨b,0,none⟩),.string k] [.c .str,.c .bool] K h:=OH c d e k fun h' v f g _=>a h' v f g
end Go.Proofs
namespace Go.Proofs
open Go.Lift
set_option maxRecDepth 4000 in
theorem Lv{W:Nat→Prop}{h:ad}{b:Nat}{l:List Pr}(nd:BuckAt W h b l)(hn:l.length≤1000000000){K:Option Addr→ad→Prop}
  (B:∀h' sp sk,h'[h.size]? =some (.cells (eO 0 0 sp sk true none) ba (0,0))→OwnS mn 2 ak (fun x=>h.size<x∧x<h'.size) h' sp l→OwnS q9 1 bv (fun x=>h.size<x∧x<h'.size) h' sk []→Upd No h h'→K (some ⟨h.size,0,none⟩) h'):
  HC PG fj [.pointer (some ⟨b,0,none⟩),.pointer none] [.c .ptr] K h:=by
 obtain⟨sp,sk,ow,a,A,G,O,Q⟩:=nd.ex;refine uh _ none ?_;unfold px cX bL nv cg hO gi fg Nv Q6;refine E2 (ag.2 ?_);have c:∀{h:ad} {b:Nat} {c:Array Value} {i:Nat},h[b]? =some (.cells c ba (0,0))→aE h ⟨b,0+i,none⟩=c[i]?:=fun a=>by rw[aD];exact aI a
 refine⟨_,rfl,_,c (i:=0) a,_,c (i:=1) a,sp,c (i:=2) a,sk,c (i:=3) a,_,c (i:=4) a,_,c (i:=5) a,?_⟩;have k1:=Upd.hnew No h [.int .u32 0,.int .u32 0,.slice none 0 0,.slice none 0 0,.bool false,.pointer none] ba;have b1:=bh h [.int .u32 0,.int .u32 0,.slice none 0 0,.slice none 0 0,.bool false,.pointer none] ba;refine aU ?_;simp only[cG h];generalize hnew h [.int .u32 0,.int .u32 0,.slice none 0 0,.slice none 0 0,.bool false,.pointer none] ba=h1 at k1 b1
 have H:ia h1 ⟨h.size,0,none⟩ 0 [.int .u32 ((0:Nat):Int),.int .u32 ((0:Nat):Int),.slice sp.a sp.len sp.cap,.slice sk.a sk.len sk.cap,.bool true,.pointer ow]=_:=g6 _ h1 0 0 _ b1 (by simp);refine⟨.inr ⟨_,rfl,fun j R=>by rw[bJ];exact gI b1 (by simp at R⊢;omega)⟩,aU ?_⟩
 rw[H];have b2:=hT (o:=.cells (eO 0 0 sp sk true ow) ba (0,0)) b1;have n:Upd No h _:=k1.trans (M':=(· =h.size)) (Upd.set h1 (.cells (eO 0 0 sp sk true ow) ba (0,0)) rfl) fun x hx=>.inr (eZ hx.symm)
 have F:h.size<(h1.setIfInBounds h.size (.cells (eO 0 0 sp sk true ow) ba (0,0))).size:=bp b2;have N:h.size≠b:=fun e=>by have:=bp a;omega
 have e2:(Obj.cells (List.take (0+0) [Value.int .u32 0,.int .u32 0,.slice none 0 0,.slice none 0 0,.bool false,.pointer none]++ [Value.int .u32 ((0:Nat):Int),.int .u32 ((0:Nat):Int),.slice sp.a sp.len sp.cap,.slice sk.a sk.len sk.cap,.bool true,.pointer ow]++List.drop (0+0+ [Value.int .u32 ((0:Nat):Int),.int .u32 ((0:Nat):Int),.slice sp.a sp.len sp.cap,.slice sk.a sk.len sk.cap,.bool true,.pointer ow].length) [Value.int .u32 0,.int .u32 0,.slice none 0 0,.slice none 0 0,.bool false,.pointer none]).toArray ba (0,0))=.cells (eO 0 0 sp sk true ow) ba (0,0):=rfl
 rw[e2];generalize h1.setIfInBounds h.size (.cells (eO 0 0 sp sk true ow) ba (0,0))=h2 at b2 n F;have m:=n.get0 a;refine⟨_,rfl,sp,c (i:=2) m,_,rfl,sk,c (i:=3) m,?_⟩;refine vV (A.upd n fun _ h=>h.elim) (by omega) fun s U D f=>?_
 refine⟨c (i:=3) (f.get0 m),?_⟩;refine FA ((G.upd n fun _ h=>h.elim).upd f fun _ h=>h.elim) (by simp) fun E h4 z g=>?_
 have I:=g.get0 (f.get0 b2);have q:=D.within.upd g fun _ _ h=>h
 have p:=z.within;have V:=f.size;have X:=g.size;have w:∀{h:ad} {c:Array Value} {x i:Nat},h[x]? =some (.cells c ba (0,0))→i<c.size→Wr h ⟨x,0+i,none⟩:=fun a hi=>by rw[aD];exact gI a hi
 have st:∀{h:ad} {c c':Array Value} {x i:Nat} {v:Value} {k:ad→Prop},h[x]? =some (.cells c ba (0,0))→c.setIfInBounds i v=c'→(∀h',h'[x]? =some (.cells c' ba (0,0))→Upd (· =x) h h'→k h')→At (hset h ⟨x,i,none⟩ v) k:=fun a e B=>tO a fun h' t S=>B h' (e▸t) S
 refine⟨w (i:=2) I (show 2<6 by decide),st (i:=2) (c':=eO 0 0 s sk true ow) I rfl fun Z L y=>?_⟩
 refine⟨w (i:=3) L (show 3<6 by decide),st (i:=3) (c':=eO 0 0 s E true ow) L rfl fun T J u=>?_⟩
 refine⟨w (i:=5) J (show 5<6 by decide),st (i:=5) (c':=eO 0 0 s E true none) J rfl fun h7 P C=>?_⟩
 refine uN (ag.2 ?_);have d:=y.tr (u.tr C);have Y:=d.size;refine B _ s E P ((q.upd d fun x hx e=>?_).more fun x hx=>?_) ((p.upd d fun x hx e=>?_).more fun x hx=>?_) ?_
 ·have e:x=h.size:=e;omega
 ·omega
 ·have e:x=h.size:=e;omega
 ·omega
 ·exact((n.tr f).tr g).trans d fun x hx=>.inr (eZ hx.symm)
theorem GP{W:Nat→Prop}{h:ad}{b:Nat}{l:List Pr}(D:BuckAt W h b l)(o:∀x,W x→x<h.size)(E:dM l)(u:l.length≤1000000000)(p:Pr){K:Option Addr→ad→Prop}
  (C:∀h' b',BuckAt W h' b' (Gs l p)→Upd No h h'→K (some ⟨b',0,none⟩) h'):
  HC PG g8 [.pointer (some ⟨b,0,none⟩),.pointer none,.agg #[.string p.1,.string p.2]] [.c .ptr] K h:=by
 refine BW _ none p ?_;unfold un av bL cg hO kD ny;have k1:=Upd.hnew No h [.string p.1,.string p.2] ak;have b1:=bh h [.string p.1,.string p.2] ak;refine aU ?_;simp only[cG h];generalize hnew h [.string p.1,.string p.2] ak=h1 at k1 b1;have L:=bp b1;have f:=D.upd k1 fun _ h=>h.elim
 obtain⟨sp,sk,ow,w,z,G,A,B⟩:=f.ex;refine jd w (ag.2 ?_);refine Lv f u fun N F q b2 s v a=>?_
 have g:=a.get0 b1;refine⟨_,rfl,F,dE (i:=2) b2,p.1,by rw[bJ,aI g];rfl,p.2,by rw[bJ,aI g];rfl,?_⟩
 refine JX (s.sl fun _ _ _ h=>h) s.cap E u p fun t I k d=>?_
 have b3:=d.get0 b2;refine⟨_,rfl,PO (i:=2) b3 (show 2<6 by decide),Ec (i:=2) (c':=eO 0 0 t q true none) b3 rfl fun H y c=>?_⟩
 have J:=bp b2;have n:=k.upd c fun x hx e=>by have e:x=h1.size:=e;omega
 have m:=(v.upd d fun _ _ h=>h).upd c fun x hx e=>by have e:x=h1.size:=e;omega
 refine C H h1.size ⟨⟨t,q,none,y,n.sl fun x hx _ j=>?_,m.sl fun x hx _ j=>?_,k.cap,v.cap⟩,fun j=>?_⟩ (((k1.tr a).tr d).trans c fun x hx=>.inr ?_)
 ·have:=o x j;have:=a.size;omega
 ·have:=o x j;omega
 ·have:=o _ j;omega
 ·have hx:x=h1.size:=hx
  omega
theorem M4{W:Nat→Prop}{h:ad}(a:∀x,W x→x<h.size){K:Option Addr→ad→Prop}(b:∀h' b',BuckAt W h' b' []→Upd No h h'→K (some ⟨b',0,none⟩) h'):HC PG sf [] [.c .ptr] K h:=by
 refine Ey ?_;unfold wS;exact b _ _ ⟨⟨⟨none,0,0⟩,⟨none,0,0⟩,none,bh h _ _,Sl.nil mM,Sl.nil qk,az _,az _⟩,fun hx=>jJ _ (a _ hx)⟩ (Upd.hnew No h _ _)
theorem pU{W:Nat→Prop}{h:ad}(a:∀x,W x→x<h.size){K:Option Addr→ad→Prop}(b:∀h' b',NodeAt W h' b' ⟨fun _=>none,fun _=>none⟩→Upd No h h'→K (some ⟨b',0,none⟩) h'):HC PG mY [] [.c .ptr] K h:=by
 refine G0 ?_;unfold zC Nv;have e1:fm (fun _=>(none:Option Pr)) 32= []:=by simp[fm]
 have e2:fm (fun _=>(none:Option (Option Addr))) 32= []:=by simp[fm]
 refine b _ _ ⟨⟨0,0,⟨none,0,0⟩,⟨none,0,0⟩,none,bh h _ _,⟨by decide,by decide,fun c _=>by simp,fun c _=>by simp⟩,?_,?_,az _,az _⟩,fun hx=>jJ _ (a _ hx)⟩ (Upd.hnew No h _ _)
 ·show Sl mn 2 W _ _ (fm (fun _=>none) 32)
  rw[e1];exact Sl.nil mM
 ·show Sl q9 1 W _ _ (fm (fun _=>none) 32)
  rw[e2];exact Sl.nil qk
end Go.Proofs
namespace Go.Proofs
open Go.Lift
def iG(p:Pr):List Pr→List Pr
 | []=> [p]
 |q::l=>if kl q.1 p.1 then q::iG p l else if q.1=p.1 then p::l else p::q::l
theorem kK(p q:Pr)(l:List Pr):iG p (q::l)=if kl q.1 p.1 then q::iG p l else if q.1=p.1 then p::l else p::q::l:=rfl
theorem Ci(p:Pr):∀{l:List Pr},dM l→Gs l p=iG p l
 | [],_=>by simp[Gs,iG,pos,bX]
 |q::l,d=>by
  have d:=bE.1 d;unfold iG;have a:pos (q::l) p.1=if kl q.1 p.1 then pos l p.1+1 else 0:=by
   unfold pos;rw[List.takeWhile_cons];by_cases h:kl q.1 p.1
   ·rw[if_pos (by simpa using h),if_pos h];rfl
   ·rw[if_neg (by simpa using h),if_neg h];rfl
  have c:bX (q::l) p.1=(decide (q.1=p.1)||bX l p.1):=by unfold bX;rw[List.any_cons]
  by_cases h:kl q.1 p.1
  ·have f:q.1≠p.1:=fun e=>by rw[e]at h;exact dV _ h
   rw[if_pos h,←Ci p d.2];unfold Gs;rw[c,a,if_pos h,decide_eq_false f,Bool.false_or];by_cases b:bX l p.1=true
   ·rw[if_pos b,if_pos b];rfl
   ·rw[if_neg b,if_neg b];rfl
  ·rw[if_neg h]
   unfold Gs;rw[c,a,if_neg h];by_cases e:q.1=p.1
   ·rw[if_pos e,decide_eq_true e,Bool.true_or,if_pos rfl];rfl
   ·have i:=C0 h e
    have b:bX l p.1=false:=by
     unfold bX;rw[List.any_eq_false];intro r g e2;have e2:=of_decide_eq_true e2;have:=d.1 r g;rw[e2]at this;exact dV _ (oJ i this)
    rw[if_neg e,decide_eq_false e,b];rfl
theorem yo{p q:Pr}:∀{l:List Pr},q∈iG p l→q=p∨q∈l
 | [],h=>by simp[iG]at h;exact .inl h
 |r::l,h=>by
  unfold iG at h;split at h
  ·rcases au.1 h with h|h
   ·exact .inr (h▸aW ..)
   ·exact(yo h).imp id fun h=>bj _ h
  ·split at h
   ·rcases au.1 h with h|h
    ·exact .inl h
    ·exact .inr (bj _ h)
   ·rcases au.1 h with h|h
    ·exact .inl h
    ·exact .inr h
theorem EU(p:Pr):∀{l:List Pr},dM l→dM (iG p l)
 | [],_=>List.pairwise_singleton ..
 |q::l,a=>by
  have c:=a;have a:=bE.1 a;unfold iG;split
  ·rename_i h
   refine bE.2 ⟨fun r hm=>?_,EU p a.2⟩
   rcases yo hm with rfl|hm
   ·exact h
   ·exact a.1 r hm
  ·rename_i h
   split
   ·rename_i e
    exact bE.2 ⟨fun r hm=>e▸a.1 r hm,a.2⟩
   ·rename_i e
    have b:=C0 h e;refine bE.2 ⟨fun r hm=>?_,c⟩
    rcases au.1 hm with rfl|hm
    ·exact b
    ·exact oJ b (a.1 r hm)
theorem Dd(p:Pr)(g:ByteArray→Bool):∀{l:List Pr},dM l→(iG p l).filter (fun q=>g q.1)=if g p.1 then iG p (l.filter fun q=>g q.1)else l.filter fun q=>g q.1
 | [],_=>by
  unfold iG;rw[cS,List.filter_nil]
 |q::l,c=>by
  have k:=c;have c:=bE.1 c;have i:=Dd p g c.2;rw[kK];by_cases h:kl q.1 p.1
  ·rw[if_pos h,cS,cS,i]
   by_cases f:g q.1=true
   ·rw[if_pos f,if_pos f]
    split
    ·rw[kK,if_pos h]
    ·rfl
   ·rw[if_neg f,if_neg f]
  ·rw[if_neg h]
   by_cases e:q.1=p.1
   ·rw[if_pos e,cS,cS,e]
    by_cases a:g p.1=true
    ·rw[if_pos a,if_pos a,if_pos a,kK,if_neg h,if_pos e]
    ·rw[if_neg a,if_neg a,if_neg a]
   ·rw[if_neg e]
    have d:=C0 h e;rw[cS];by_cases a:g p.1=true
    ·rw[if_pos a,if_pos a]
     have:∀r∈(q::l).filter (fun q=>g q.1),kl p.1 r.1:=fun r hm=>by
      rcases au.1 (List.mem_filter.1 hm).1 with rfl|hm
      ·exact d
      ·exact oJ d (c.1 r hm)
     cases hf:(q::l).filter (fun q=>g q.1)with
     |nil=>rfl
     |cons r rs=>
      have b:=this r (by rw[hf];exact aW ..);rw[kK,if_neg fun j=>dV _ (oJ b j),if_neg fun e=>by rw[e]at b;exact dV _ b]
    ·rw[if_neg a,if_neg a]
theorem Cg{p:Pr}:∀{l:List Pr},dM l→p∈l→iG p l=l
 |q::l,a,hm=>by
  have a:=bE.1 a;unfold iG;rcases au.1 hm with rfl|hm
  ·rw[if_neg (dV _),if_pos rfl]
  ·rw[if_pos (a.1 p hm),Cg a.2 hm]
def ck(x:Hs)(lev:Nat)(k:ByteArray):Nat:=((ib x k).toNat>>>(5*lev))%32
theorem Dw(x:Hs)(lev:Nat)(k:ByteArray):ck x lev k<32:=tV _ (by omega)
def part(x:Hs)(lev c:Nat)(l:List Pr):List Pr:=l.filter fun p=>decide (ck x lev p.1=c)
def TrieAt(W:Nat→Prop)(x:Hs)(h:ad):Nat→Nat→List Pr→Prop
 |0,b,l=>BuckAt W h b l
 |m+1,b,l=>∃s,NodeAt W h b s∧∀c,c<32→
  ((part x (12-m) c l= []∧s.p c=none∧s.k c=none)∨(∃p,part x (12-m) c l= [p]∧s.p c=some p∧s.k c=none)∨
   (2≤(part x (12-m) c l).length∧s.p c=none∧∃kb,s.k c=some (some ⟨kb,0,none⟩)∧TrieAt W x h m kb (part x (12-m) c l)))
theorem TrieAt.upd0{W:Nat→Prop}{x:Hs}{h h':ad}(k:Upd No h h'):∀{m b:Nat} {l:List Pr},TrieAt W x h m b l→TrieAt W x h' m b l
 |0,_,_,t=>BuckAt.upd t k fun _ h=>h.elim
 |_+1,_,_,⟨s,nd,hc⟩=>⟨s,nd.upd k fun _ h=>h.elim,fun c a=>(hc c a).imp id fun o=>o.imp id fun⟨e,i,g,d,f⟩=>⟨e,i,g,d,TrieAt.upd0 k f⟩⟩
theorem NodeAt.less{W W':Nat→Prop}{h:ad}{b:Nat}{s:Slots}(n:NodeAt W h b s)(hm:∀b,W' b→W b∨h.size≤b):NodeAt W' h b s:=by
 obtain⟨d,m,sp,sk,ow,a,i,c,g,f,e⟩:=n.ex;exact⟨⟨d,m,sp,sk,ow,a,i,c.less hm,g.less hm,f,e⟩,fun hx=>(hm _ hx).elim n.nw fun h=>by have:=bp a;omega⟩
theorem BuckAt.less{W W':Nat→Prop}{h:ad}{b:Nat}{l:List Pr}(n:BuckAt W h b l)(hm:∀b,W' b→W b∨h.size≤b):BuckAt W' h b l:=by
 obtain⟨sp,sk,ow,a,c,f,e,d⟩:=n.ex;exact⟨⟨sp,sk,ow,a,c.less hm,f.less hm,e,d⟩,fun hx=>(hm _ hx).elim n.nw fun h=>by have:=bp a;omega⟩
theorem TrieAt.less{W W':Nat→Prop}{x:Hs}{h:ad}(hm:∀b,W' b→W b∨h.size≤b):∀{m b:Nat} {l:List Pr},TrieAt W x h m b l→TrieAt W' x h m b l
 |0,_,_,t=>BuckAt.less t hm
 |_+1,_,_,⟨s,nd,hc⟩=>⟨s,nd.less hm,fun c a=>(hc c a).imp id fun o=>o.imp id fun⟨e,i,g,d,f⟩=>⟨e,i,g,d,TrieAt.less hm f⟩⟩
theorem TrieAt.updM{W M:Nat→Prop}{x:Hs}{h h':ad}(k:Upd M h h')(hm:∀b,M b→W b∨h.size≤b):∀{m b:Nat} {l:List Pr},TrieAt W x h m b l→TrieAt W x h' m b l
 |0,_,_,t=>BuckAt.upd t k hm
 |_+1,_,_,⟨s,nd,hc⟩=>⟨s,nd.upd k hm,fun c a=>(hc c a).imp id fun o=>o.imp id fun⟨e,i,g,d,f⟩=>⟨e,i,g,d,TrieAt.updM k hm f⟩⟩
end Go.Proofs
