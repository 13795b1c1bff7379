/- A part of the proof that the named laws of this program answer true, whatever the input. -/
import Derived.Test.YtopdngagmfanlaaGreatDoorPart0
open BitVec renaming ofInt→au,ofInt_natCast→mU,getLsbD_ofNat→mV
open Go.IntKind renaming wrap→ac,bits→ai
open Int renaming fdiv→gy,toNat_natCast→ak
open List renaming length_append→aj,replicate→bF,replicate_succ→iW,flatMap_cons→bK,length_cons→ay,flatten_cons→j8,flatten_nil→qK,getElem?_eq_getElem→ah,length→lj,take_of_length_le→bG,length_drop→aS,length_take→be,range→eN,range_add→ut,mem_range→js,mem_cons_self→aP,mem_cons_of_mem→aK,filterMap_append→qm,take_left'→cR,drop_left'→cD,drop_drop→cT,append_assoc→aM,pairwise_cons→cf,mem_cons→ar,filter_cons→dG
open Nat renaming le_refl→av,zero_le→aV,le_trans→aU,shiftRight_eq_div_pow→nG,lt_of_le_of_lt→fT,min_eq_left→bU,shiftRight_le→pY,mod_eq_of_lt→jm,mod_lt→ur,testBit_lt_two_pow→pX,lt_of_lt_of_le→aQ,pow_le_pow_right→mO,zero_add→aR,le_of_eq→gv,lt_irrefl→kf
open UInt8 renaming ofNat→cq
namespace Go.Proofs
open Go.Lift
theorem OwnS.zero{α:Type}{f:α→List Value}{a:Nat}{t:TypeId}{M:Nat→Prop}{h:ad}{s:SliceV}{xs:List α}(d:OwnS f a t M h s xs):OwnS f a t M h ⟨aY s.a 0 s.cap a,0-0,s.cap-0⟩ []:=by
 have i:∀x,(f x).length=a∧0<a:=d.ne;have e:=d.len;have g:=d.cap;refine⟨rfl,i,by simp only;omega,?_⟩
 rcases d.blk with n|⟨b,c,j,m,hc,k⟩
 ·exact .inl (by simp only;omega)
 ·refine .inr ⟨b,xs.flatMap f++c,by rw[j,sub_zero],m,hc,?_⟩
  rw[aj,j4 i,k,←Nat.add_mul];simp only;congr 1;omega
def Rz:Pr:=(⟨#[]⟩,⟨#[]⟩)
theorem Rx(n:Nat):dw n [.string (⟨#[]⟩:ByteArray),.string (⟨#[]⟩:ByteArray)]=(bF n Rz).flatMap iZ:=by
 unfold dw;induction n with
 |zero=>rfl
 |succ n ih=>rw[iW,iW,bK,←ih];rfl
theorem XS{n:Nat}(d:n*32≤140737488355328){h:ad}{K:SliceV→ad→Prop}(a:∀s' h',OwnS iZ 2 ax (fun b=>h.size≤b) h' s' []→Upd No h h'→K s' h'):
  HC PG fM [.slice none 0 0,.int .i64 n] [.c .slice] K h:=by
 refine ou ⟨none,0,0⟩ n ?_;unfold je ic;have e:ac .i64 ((n:Int)-ac .i64 (((0:Nat):Int)-((0:Nat):Int)))=(n:Int):=by rw[kO (x:=((0:Nat):Int)-((0:Nat):Int)) (by omega),kO (by omega)];omega
 refine Join.plain (aF (fun h=>by omega) fun _=>?_)
 simp only[Bd];rw[e];refine aF (fun k=>?_) fun j=>a _ _ (OwnS.nil fR) (Upd.refl _ _)
 refine⟨by omega,⟨by omega,by omega,by omega,by omega⟩,?_⟩
 refine AppP.own (f:=iZ) (M:=fun b=>h.size≤b) (xs:= []) (ys:=bF n Rz) (OwnS.nil fR) (by simp) (Rx _) (by rw[Rx];exact Ap _) rfl (by omega) (by simpa using d) (av _) fun s' h' c g=>?_
 exact⟨by omega,a _ _ (OwnS.zero c) (g.mono fun b i=>.inr i)⟩
abbrev aaU(s:SliceV):List Value:= [.slice s.a s.len s.cap]
def ParS(h:ad):List SliceV→List (List Pr)→Prop
 | [],[]=>True
 |v::vs,l::ls=>Sl iZ 2 No h v l∧ParS h vs ls
 |_,_=>False
theorem ParS.upd{h h':ad}(k:Upd No h h'):∀{vs:List SliceV} {ls:List (List Pr)},ParS h vs ls→ParS h' vs ls
 | [],[],_=>trivial
 |_::_,_::_,q=>⟨q.1.upd k fun _ h=>h.elim,ParS.upd k q.2⟩
 | [],_::_,q=>q.elim
 |_::_,[],q=>q.elim
theorem ParS.len{h:ad}:∀{vs:List SliceV} {ls:List (List Pr)},ParS h vs ls→vs.length=ls.length
 | [],[],_=>rfl
 |_::_,_::_,q=>by rw[ay,ay,ParS.len q.2]
 | [],_::_,q=>q.elim
 |_::_,[],q=>q.elim
theorem ParS.at{h:ad}:∀{vs:List SliceV} {ls:List (List Pr)},ParS h vs ls→∀{i:Nat} (h1:i<vs.length) (h2:i<ls.length),Sl iZ 2 No h vs[i] ls[i]
 |_::_,_::_,q,0,_,_=>q.1
 |_::_,_::_,q,i+1,h1,h2=>ParS.at q.2 (by simpa using h1) (by simpa using h2)
theorem KL(ls:List (List Pr)){i:Nat}(hi:i<ls.length):(ls.take (i+1)).flatten=(ls.take i).flatten++ls[i]:=by
 rw[List.take_succ_eq_append_getElem hi,List.flatten_append,j8,qK,List.append_nil]
theorem Sg(ls:List (List Pr))(i:Nat):(ls.take i).flatten.length≤ls.flatten.length:=by
 have:ls.flatten=(ls.take i).flatten++(ls.drop i).flatten:=by rw[←List.flatten_append,List.take_append_drop]
 rw[this,aj];omega
theorem KT{h:ad}{s:SliceV}{vs:List SliceV}{ls:List (List Pr)}(B:Sl aaU 1 No h s vs)(z:ParS h vs ls)(O:ls.flatten.length*32≤140737488355328)(V:vs.length≤1000)
  {K:SliceV→ad→Prop}(N:∀s' h',OwnS iZ 2 ax (fun b=>h.size≤b) h' s' ls.flatten→Upd No h h'→K s' h'):HC PG dN [.slice s.a s.len s.cap] [.c .slice] K h:=by
 refine ny s ?_;unfold iH bi cU ic;have D:=B.len;have d:=z.len;refine LoopP.ghost (fun(i:Nat) (t:Int×Int) h'=>t.2=(i:Int)∧i≤vs.length∧t.1=((ls.take i).flatten.length:Int)∧h'=h) (fun i=>vs.length-i) 0 ⟨rfl,aV _,by simp,rfl⟩ ?_
 rintro I i ⟨Q,S⟩ h' ⟨e1,hi,e2,rfl⟩ E;simp only at e1 e2;subst e1 e2;refine aF (fun c=>?_) fun v=>?_
 ·have c:i<vs.length:=by have:(i:Int)<(s.len:Int):=c;omega
  obtain⟨a,y,_,f⟩:=B.at (ah c);have L:=(z.at c (d▸c)).len;have e:=congrArg lj (KL ls (d▸c));rw[aj]at e;have x:=Sg ls (i+1);refine Join.plain ⟨by simp only;omega,a,y,_,f 0 _ rfl,?_⟩;simp only;have G:ac .i64 (((ls.take i).flatten.length:Int)+((vs[i]).len:Int))=((ls.take (i+1)).flatten.length:Int):=by rw[kO (by omega)];omega
  rw[G];refine aF (fun h=>by omega) fun _=>?_
  rw[cM c (by omega)];exact E (i+1) _ _ ⟨rfl,c,rfl,rfl⟩ (by omega)
 ·have J:i=vs.length:=by have:¬(i:Int)<(s.len:Int):=v;omega
  rw[bG (by omega)];refine XS O fun s0 R q w=>?_
  refine LoopP.ghost (fun(i:Nat) (t:SliceV×Int) p=>t.2=(i:Int)∧i≤vs.length∧OwnS iZ 2 ax (fun b=>h'.size≤b) p t.1 (ls.take i).flatten∧Upd No h' p) (fun i=>vs.length-i) 0 ⟨rfl,aV _,by simpa using q,w⟩ ?_
  rintro W j ⟨T,X⟩ p ⟨e1,Y,o,n⟩ u;simp only at e1 o;subst e1;refine aF (fun c=>?_) fun m=>?_
  ·have c:j<vs.length:=by have:(j:Int)<(s.len:Int):=c;omega
   obtain⟨a,y,_,f⟩:=(B.upd n fun _ h=>h.elim).at (ah c)
   have g:=((z.upd n).at c (d▸c));have e:=KL ls (d▸c);have k:=congrArg lj e;rw[aj]at k;have x:=Sg ls (j+1);refine Join.plain ⟨by simp only;omega,a,y,_,f 0 _ rfl,_,g.srow,?_⟩;refine AppP.own (ys:=ls[j]) o g.len rfl (Ap _) rfl (by omega) (by omega) n.size fun U P A C=>?_
   simp only;rw[cM c (by omega)];exact u (j+1) _ _ ⟨rfl,c,e▸A,n.trans C fun b H=>.inr H⟩ (by omega)
  ·have F:j=vs.length:=by have:¬(j:Int)<(s.len:Int):=m;omega
   rw[bG (by omega)]at o;exact N _ _ o n
def LP(l:List Pr)(p:Pr):List Pr:=l.take (pos l p.1)++p::l.drop (if cG l p.1 then pos l p.1+1 else pos l p.1)
def TN(l:List Pr)(k:ByteArray):List Pr:=if cG l k then l.take (pos l k)++l.drop (pos l k+1)else l
theorem Ly{l:List Pr}(g:fe l){k:ByteArray}(c:cG l k=true):∃h:pos l k<l.length,l[pos l k].1=k:=by
 unfold cG at c;obtain⟨p,d,e⟩:=List.any_eq_true.1 c;have e:=of_decide_eq_true e;obtain⟨q,b,rfl⟩:=List.mem_iff_getElem.1 d;have:pos l k=q:=Vo (by omega) (fun j f a=>by rw[←e];exact List.pairwise_iff_getElem.1 g j q f b a) fun h=>by rw[←e];exact fw _
 subst this;exact⟨b,e⟩
theorem Lh{h:ad}{s:SliceV}{l:List Pr}(b:Sl iZ 2 No h s l){i j m:Nat}(a:i≤j)(d:j≤l.length)(e:j≤m)(c:Nat):Sl iZ 2 No h ⟨aY s.a i m 2,j-i,c⟩ ((l.drop i).take (j-i)):=Sl.sub b a d e
theorem Qj{h:ad}{s:SliceV}{l:List Pr}(y:Sl iZ 2 No h s l)(hc:s.len≤s.cap)(n:fe l)(P:l.length≤1000000000)(p:Pr)
  {K:SliceV→ad→Prop}(O:∀s' h',OwnS iZ 2 ax (fun b=>h.size≤b) h' s' (LP l p)→Upd No h h'→K s' h'):HC PG BO [.slice s.a s.len s.cap,.agg #[.string p.1,.string p.2]] [.c .slice] K h:=by
 refine Rf s p ?_;unfold IC ag eu FX qg;have c:=y.len;have k1:=Upd.hnew No h [.string p.1,.string p.2] ax;have b1:=bI h [.string p.1,.string p.2] ax;refine bj ?_;simp only[df h];generalize hnew h [.string p.1,.string p.2] ax=h1 at k1 b1;refine⟨p.1,by rw[ci,bc b1];rfl,L0 (y.upd k1 fun _ h=>h.elim) n P p.1 fun E f=>?_⟩
 have B:=Vp l p.1;have a:=k1.tr f;refine⟨by simp only;omega,?_⟩;let q:=if cG l p.1 then pos l p.1+1 else pos l p.1
 have F:q≤l.length:=by
  show(if cG l p.1 then pos l p.1+1 else pos l p.1)≤l.length
  split
  ·rename_i ht;obtain⟨h,_⟩:=Ly n ht;omega
  ·exact B
 refine Join.intro (fun t h'=>h'=E∧t=⟨aY s.a q s.cap 2,s.len-q,s.cap-q⟩) (fun R A=>?_) ?_
 ·refine CondP.intro (fun e=>?_) fun e=>A _ _ ⟨rfl,?_⟩
  ·have e:cG l p.1=true:=e
   obtain⟨H,_⟩:=Ly n e;have G:ac .i64 ((pos l p.1:Int)+1)=((pos l p.1+1:Nat):Int):=by rw[kO (by omega)];omega
   simp only;rw[G];refine⟨by omega,A _ _ ⟨rfl,?_⟩⟩;have:q=pos l p.1+1:=by show(if cG l p.1 then _ else _)=_;rw[if_pos e]
   rw[this];rfl
  ·have e:cG l p.1=false:=e
   have:q=pos l p.1:=by show(if cG l p.1 then _ else _)=_;rw[if_neg (by rw[e];decide)]
   rw[this];rfl
 ·rintro t h' ⟨rfl,rfl⟩
  have b2:=f.get0 b1;refine⟨by simp only;omega,p.1,by rw[ci,bc b2];rfl,p.2,by rw[ci,bc b2];rfl,?_⟩
  have u:=Upd.hnew No h' [.string p.1,.string p.2] ax;have b3:=bI h' [.string p.1,.string p.2] ax;refine bj ?_;simp only[df h'];generalize hnew h' [.string p.1,.string p.2] ax=h3 at u b3;refine bj ?_;have d:=(y.upd a fun _ h=>h.elim).upd u fun _ h=>h.elim
  have k:=Upd.hnew No h3 [.slice (aY s.a 0 s.cap 2) ((pos l p.1:Int).toNat-0) (s.cap-0),.slice (some ⟨h'.size,0,none⟩) 1 1,.slice (aY s.a q s.cap 2) (s.len-q) (s.cap-q)] eG;have I:=bI h3 [.slice (aY s.a 0 s.cap 2) ((pos l p.1:Int).toNat-0) (s.cap-0),.slice (some ⟨h'.size,0,none⟩) 1 1,.slice (aY s.a q s.cap 2) (s.len-q) (s.cap-q)] eG;have C:=Lh d (i:=0) (j:=pos l p.1) (m:=s.cap) (aV _) B (by omega) (s.cap-0)
  have N:Sl iZ 2 No h3 ⟨some ⟨h'.size,0,none⟩,1,1⟩ [p]:=⟨rfl,fR,fun _=>⟨_,rfl,fun h=>h.elim,py b3 fun i v w=>by simpa using w⟩⟩
  have z:=Lh d (i:=q) (j:=l.length) (m:=s.cap) F (av _) (by omega) (s.cap-q);rw[←c]at z;rw[List.drop_zero]at C;rw[bG (by rw[aS];omega)]at z;have L:LP l p= [l.take (pos l p.1-0),[p],l.drop q].flatten:=by simp[LP,q]
  refine KT (s:=⟨some (aH h3),3,3⟩) (vs:= [⟨aY s.a 0 s.cap 2,(pos l p.1:Int).toNat-0,s.cap-0⟩,⟨some ⟨h'.size,0,none⟩,1,1⟩,⟨aY s.a q s.cap 2,s.len-q,s.cap-q⟩]) (ls:= [l.take (pos l p.1-0),[p],l.drop q])
   ⟨rfl,fun x=>⟨rfl,Nat.one_pos⟩,fun _=>⟨_,rfl,fun h=>h.elim,py I fun i v w=>by simpa[aaU]using w⟩⟩ ⟨C.upd k fun _ h=>h.elim,N.upd k fun _ h=>h.elim,z.upd k fun _ h=>h.elim,trivial⟩ ?_ (by simp) fun Q S g o=>?_
  ·simp only[j8,qK,aj,be,aS,List.length_singleton,List.length_nil];omega
  ·rw[←L]at g
   have D:=((a.tr u).tr k);exact O _ _ (g.more fun b J=>aU D.size J) (D.tr o)
end Go.Proofs
namespace Go.Proofs
open Go.Lift
def xj(n d:Nat):Nat:=(eN n).countP (d.testBit ·)
theorem GC(m n d:Nat):xj (m+n) d=xj m d+xj n (d>>>m):=by
 unfold xj;rw[ut,List.countP_append,List.countP_map];congr 1
 refine List.countP_congr fun i _=>?_
 simp[Nat.testBit_shiftRight]
theorem Sm(d:Nat)(i:Nat):∀n,i≤n→xj n (d&&&(2^i-1))=xj i d:=by
 intro n a;obtain⟨m,rfl⟩:=Nat.exists_eq_add_of_le a;rw[GC];have e1:xj i (d&&&(2^i-1))=xj i d:=by
  unfold xj;refine List.countP_congr fun j b=>?_
  have:=js.1 b;simp[this]
 have e2:xj m ((d&&&(2^i-1))>>>i)=0:=by
  unfold xj;rw[List.countP_eq_zero];intro j _;simp[Nat.testBit_shiftRight];intro h;omega
 omega
theorem Zf(d:Nat):xj 8 (d&&&255)=xj 8 d:=Sm d 8 8 (av _)
theorem BU(n d:Nat):xj n d≤n:=by
 have:=List.countP_le_length (p:=(d.testBit ·)) (l:=eN n)
 simpa[xj]using this
theorem tI(d n:Nat):gy (d:Int) (2^n)=((d>>>n:Nat):Int):=by
 rw[Int.fdiv_eq_ediv_of_nonneg _ (by exact Int.le_of_lt (Int.pow_pos (by decide))),nG];simp
theorem WG(a b:Nat):(au (ai .u32) (a:Int)&&&au (ai .u32) (b:Int)).toNat=(a%4294967296)&&&(b%4294967296):=by
 simp[ai];rfl
theorem Cp{n:Nat}(h:n<4294967296):ac .u32 (n:Int)=(n:Int):=Go.IntWalk.u32_in _ (by omega)
theorem G6{i:Nat}(hi:i<32){h:ad}{K:Bool→ad→Prop}(a:K true h):HC PG oq [.int .i64 i] [.c .bool] K h:=by
 refine Jy i ?_;unfold Bm;refine aF (fun _=>?_) fun h=>absurd (Int.natCast_nonneg i) h
 rw[decide_eq_true (by omega)];exact a
theorem Mj{a b:Nat}(h:b<4294967296):a&&&b<4294967296:=fT Nat.and_le_right h
theorem Eu{d i:Nat}(hd:d<4294967296)(hi:i<32){h:ad}{K:Bool→ad→Prop}(b:K (d.testBit i) h):HC PG ga [.int .u32 d,.int .i64 i] [.c .bool] K h:=by
 refine ES d i ?_;unfold wZ;refine G6 hi (aA.2 ⟨by omega,?_⟩);have e:min (i:Int).toNat (ai .u32)=i:=by rw[ak];exact bU (by show i≤32;omega)
 rw[e,tI];have e2:=WG (d>>>i) 1;have a:d>>>i<4294967296:=fT (pY d i) hd;rw[jm a,show(1:Nat)%4294967296=1 from rfl]at e2
 simp only[Bd];rw[show((1:Nat):Int)=(1:Int)from rfl]at e2
 rw[e2,Cp (Mj (by omega))];have c:(((d>>>i&&&1:Nat):Int)==(1:Int))=d.testBit i:=by
  rw[Bool.eq_iff_iff,beq_iff_eq,Nat.testBit,Nat.and_comm];simp only[bne_iff_ne,ne_eq,Nat.one_and_eq_mod_two];have:(d>>>i)%2<2:=ur _ (by omega);omega
 rw[c];exact b
theorem T1{d i:Nat}(hd:d<4294967296)(hi:i<32):∃w:Nat,ac .u32 (au (ai .u32) (d:Int)|||au (ai .u32) (ac .u32 (1*2^(min (i:Int).toNat (ai .u32))))).toNat=(w:Int)∧w<4294967296∧∀j,w.testBit j=(d.testBit j||decide (j=i)):=by
 have e:min (i:Int).toNat (ai .u32)=i:=by rw[ak];exact bU (by show i≤32;omega)
 have c:2^i<4294967296:=Nat.pow_lt_pow_right (by omega) (show i<32 from hi)
 have e2:(1*2^i:Int)=((2^i:Nat):Int):=by simp
 rw[e,e2,Cp c];refine⟨_,Cp (BitVec.isLt _),BitVec.isLt _,fun j=>?_⟩
 rw[BitVec.testBit_toNat,BitVec.getLsbD_or,mU,mU,mV,mV,Nat.testBit_two_pow];by_cases a:j<32
 ·have:decide (j<ai .u32)=true:=decide_eq_true a
  rw[this];simp[eq_comm]
 ·have b:decide (j<ai .u32)=false:=decide_eq_false a
  have f:d.testBit j=false:=pX (aQ hd (mO (n:=2) (by omega) (show 32≤j by omega)))
  rw[b,f];simp;omega
theorem RC{d i:Nat}(hd:d<4294967296)(hi:i<32){h:ad}{K:Int→ad→Prop}(b:∀w:Nat,w<4294967296→(∀j,w.testBit j=(d.testBit j||decide (j=i)))→K (w:Int) h):HC PG fI [.int .u32 d,.int .i64 i] [.c (.int .u32)] K h:=by
 refine DC d i ?_;unfold vy;refine G6 hi (af.2 ⟨by omega,?_⟩);obtain⟨w,e,a,c⟩:=T1 hd hi;simp only[Bd];rw[e];exact b w a c
theorem Mg{d i:Nat}(hd:d<4294967296)(hi:i<32):∃w:Nat,ac .u32 (au (ai .u32) (d:Int)&&& ~~~au (ai .u32) (ac .u32 (1*2^(min (i:Int).toNat (ai .u32))))).toNat=(w:Int)∧w<4294967296∧∀j,w.testBit j=(d.testBit j&&decide (j≠i)):=by
 have e:min (i:Int).toNat (ai .u32)=i:=by rw[ak];exact bU (by show i≤32;omega)
 have c:2^i<4294967296:=Nat.pow_lt_pow_right (by omega) (show i<32 from hi)
 have e2:(1*2^i:Int)=((2^i:Nat):Int):=by simp
 rw[e,e2,Cp c];refine⟨_,Cp (BitVec.isLt _),BitVec.isLt _,fun j=>?_⟩
 rw[BitVec.testBit_toNat,BitVec.getLsbD_and,BitVec.getLsbD_not,mU,mU,mV,mV,Nat.testBit_two_pow];by_cases a:j<32
 ·have:decide (j<ai .u32)=true:=decide_eq_true a
  rw[this];simp[eq_comm]
 ·have b:decide (j<ai .u32)=false:=decide_eq_false a
  have f:d.testBit j=false:=pX (aQ hd (mO (n:=2) (by omega) (show 32≤j by omega)))
  rw[b,f];simp
theorem GG{d i:Nat}(hd:d<4294967296)(hi:i<32){h:ad}{K:Int→ad→Prop}(b:∀w:Nat,w<4294967296→(∀j,w.testBit j=(d.testBit j&&decide (j≠i)))→K (w:Int) h):HC PG j1 [.int .u32 d,.int .i64 i] [.c (.int .u32)] K h:=by
 refine Ac d i ?_;unfold rM;refine G6 hi (af.2 ⟨by omega,?_⟩);obtain⟨w,e,a,c⟩:=Mg hd hi;simp only[Bd];rw[e];exact b w a c
abbrev ZI:ByteArray:=⟨#[0,1,1,2,1,2,2,3,1,2,2,3,2,3,3,4,1,2,2,3,2,3,3,4,2,3,3,4,3,4,4,5,1,2,2,3,2,3,3,4,2,3,3,4,3,4,4,5,2,3,3,4,3,4,4,5,3,4,4,5,4,5,5,6,1,2,2,3,2,3,3,4,2,3,3,4,3,4,4,5,2,3,3,4,3,4,4,5,3,4,4,5,4,5,5,6,2,3,3,4,3,4,4,5,3,4,4,5,4,5,5,6,3,4,4,5,4,5,5,6,4,5,5,6,5,6,6,7,1,2,2,3,2,3,3,4,2,3,3,4,3,4,4,5,2,3,3,4,3,4,4,5,3,4,4,5,4,5,5,6,2,3,3,4,3,4,4,5,3,4,4,5,4,5,5,6,3,4,4,5,4,5,5,6,4,5,5,6,5,6,6,7,2,3,3,4,3,4,4,5,3,4,4,5,4,5,5,6,3,4,4,5,4,5,5,6,4,5,5,6,5,6,6,7,3,4,4,5,4,5,5,6,4,5,5,6,5,6,6,7,4,5,5,6,5,6,6,7,5,6,6,7,6,7,7,8]⟩
theorem Xd:(eN 256).all (fun b=>decide (ZI[b]? =some (cq (xj 8 b))))=true:=by decide+kernel
theorem Lc{b:Nat}(h:b<256):ZI[b]? =some (cq (xj 8 b)):=of_decide_eq_true (List.all_eq_true.1 Xd b (js.2 h))
theorem Ma(b:Nat):(cq (xj 8 b)).toNat=xj 8 b:=by
 have:=BU 8 b;simp;omega
theorem abE(d:Nat):xj 32 d=xj 8 (d>>>24)+xj 8 ((d>>>16)&&&255)+xj 8 ((d>>>8)&&&255)+xj 8 (d&&&255):=by
 rw[Zf,Zf,Zf,show(32:Nat)=8+(8+(8+8))from rfl,GC,GC,GC]
 simp only[←Nat.shiftRight_add,Nat.reduceAdd];omega
set_option maxRecDepth 100000 in
theorem XD{d:Nat}(hd:d<4294967296){h:ad}{K:Int→ad→Prop}(j:K (xj 32 d:Int) h):HC PG kG [.int .u32 d] [.c (.int .i64)] K h:=by
 refine wN d ?_;unfold pm;have f:gy (d:Int) (2^(min (24:Int).toNat (ai .u32)))=((d>>>24:Nat):Int):=tI d 24;have e:gy (d:Int) (2^(min (16:Int).toNat (ai .u32)))=((d>>>16:Nat):Int):=tI d 16;have k:gy (d:Int) (2^(min (8:Int).toNat (ai .u32)))=((d>>>8:Nat):Int):=tI d 8;have b:∀x:Nat,x<4294967296→ac .u32 (au (ai .u32) (x:Int)&&&au (ai .u32) 255).toNat=((x&&&255:Nat):Int):=fun x hx=>by
  have:=WG x 255;rw[jm hx]at this;rw[show((255:Nat):Int)=(255:Int)from rfl]at this
  rw[this,Cp (Mj (by omega))]
 have g:d>>>24<256:=by rw[nG];omega
 have i:∀x:Nat,x&&&255<256:=fun x=>fT Nat.and_le_right (by omega)
 have a:d>>>16<4294967296:=fT (pY d 16) hd;have m:d>>>8<4294967296:=fT (pY d 8) hd;simp only[Bd];rw[f,e,k,b _ a,b _ m,b _ hd];refine⟨by decide,_,by omega,Lc (b:=d>>>24) g,by decide,_,by omega,Lc (i _),by decide,_,by omega,Lc (i _),_,by omega,Lc (i _),?_⟩
 rw[Ma,Ma,Ma,Ma];simp only[ak];have s:=BU 8 (d>>>24);have q:=BU 8 (d>>>16&&&255);have o:=BU 8 (d>>>8&&&255);have q4:=BU 8 (d&&&255);rw[abE]at j;have c:∀n:Nat,n≤255→ac .u8 (n:Int)=(n:Int):=fun n p=>Go.IntWalk.u8_in _ (by omega)
 rw[←Int.natCast_add,c _ (by omega),←Int.natCast_add,c _ (by omega),←Int.natCast_add,c _ (by omega),kO (by omega)];exact j
theorem qQ{d i:Nat}(hd:d<4294967296)(hi:i<32){h:ad}{K:Int→ad→Prop}(a:K (xj i d:Int) h):HC PG dt [.int .u32 d,.int .i64 i] [.c (.int .i64)] K h:=by
 refine DD d i ?_;unfold vz;refine aF (fun g=>?_) fun g=>?_
 ·have:i=0:=by omega
  subst this;exact a
 ·refine aF (fun h=>by omega) fun _=>⟨by omega,?_⟩
  have e:min (i:Int).toNat (ai .u32)=i:=by rw[ak];exact bU (by show i≤32;omega)
  have f:2^i<4294967296:=Nat.pow_lt_pow_right (by omega) (show i<32 from hi)
  have b:0<2^i:=Nat.pow_pos (by omega);have e2:(1*2^i:Int)=((2^i:Nat):Int):=by simp
  have c:(((2^i:Nat):Int)-1)=((2^i-1:Nat):Int):=by omega
  simp only[Bd];rw[e,e2,Cp f,c,Cp (show 2^i-1<4294967296 by omega),WG,jm hd,jm (show 2^i-1<4294967296 by omega),Cp (Mj (by omega))]
  refine Cd _ ?_;unfold uo;refine XD (Mj (by omega)) ?_;rw[Sm d i 32 (by omega)];exact a
end Go.Proofs
namespace Go.Proofs
open Go.Lift
def fm{β:Type}(g:Nat→Option β)(n:Nat):List β:=(eN n).filterMap g
def upd{β:Type}(g:Nat→Option β)(i:Nat)(x:Option β)(j:Nat):Option β:=if j=i then x else g j
theorem aai{β:Type}{f g:Nat→Option β}:∀l:List Nat,(∀j∈l,f j=g j)→l.filterMap f=l.filterMap g
 | [],_=>rfl
 |j::l,h=>by
  rw[List.filterMap_cons,List.filterMap_cons,h j (aP ..),aai l fun k a=>h k (aK _ a)]
section
variable {β:Type} {g:Nat→Option β} {d:Nat}
theorem HL(hd:∀c,c<32→d.testBit c=(g c).isSome){i:Nat}(hi:i≤32):(fm g i).length=xj i d:=by
 unfold fm xj;rw[List.length_filterMap_eq_countP];exact List.countP_congr fun j a=>by rw[hd j (by have:=js.1 a;omega)]
theorem rm{i n:Nat}(hi:i<n):fm g n=fm g i++((g i).toList++(eN (n-(i+1))).filterMap fun j=>g (i+1+j)):=by
 unfold fm;have e:n=i+(1+(n-(i+1))):=by omega
 rw[e,ut,qm,ut];have e2:i+(1+(n-(i+1)))-(i+1)=n-(i+1):=by omega
 rw[e2];congr 1
 rw[List.map_append,qm,List.map_map];congr 1
 rw[List.filterMap_map];refine aai _ fun j _=>?_
 show g (i+(1+j))=_
 rw[Nat.add_assoc]
theorem BK{i:Nat}{x:Option β}:fm (upd g i x) i=fm g i:=by
 unfold fm;refine aai _ fun j a=>?_
 have:=js.1 a;unfold upd;rw[if_neg (by omega)]
theorem ze{i m:Nat}{x:Option β}:((eN m).filterMap fun j=>upd g i x (i+1+j))=(eN m).filterMap fun j=>g (i+1+j):=by
 refine aai _ fun j _=>?_
 unfold upd;rw[if_neg (by omega)]
theorem VU{i:Nat}(hi:i<32)(hd:∀c,c<32→d.testBit c=(g c).isSome)(b:g i=none)(x:β):fm (upd g i (some x)) 32=(fm g 32).take (xj i d)++x::(fm g 32).drop (xj i d):=by
 have a:=HL hd (i:=i) (by omega);rw[rm (g:=upd g i (some x)) hi,rm (g:=g) hi,BK,ze,b,cR a,cD a];simp[upd]
theorem VT{i:Nat}(hi:i<32)(hd:∀c,c<32→d.testBit c=(g c).isSome){y:β}(b:g i=some y)(x:β):fm (upd g i (some x)) 32=(fm g 32).take (xj i d)++x::(fm g 32).drop (xj i d+1):=by
 have a:=HL hd (i:=i) (by omega);rw[rm (g:=upd g i (some x)) hi,rm (g:=g) hi,BK,ze,b,cR a,←cT,cD a];simp[upd]
theorem VV{i:Nat}(hi:i<32)(hd:∀c,c<32→d.testBit c=(g c).isSome){y:β}(b:g i=some y):fm (upd g i none) 32=(fm g 32).take (xj i d)++(fm g 32).drop (xj i d+1):=by
 have a:=HL hd (i:=i) (by omega);rw[rm (g:=upd g i none) hi,rm (g:=g) hi,BK,ze,b,cR a,←cT,cD a];simp[upd]
theorem VW{i:Nat}(hi:i<32)(hd:∀c,c<32→d.testBit c=(g c).isSome){y:β}(a:g i=some y):(fm g 32)[xj i d]? =some y:=by
 have b:=HL hd (i:=i) (by omega);rw[rm (g:=g) hi,a,List.getElem?_append_right (by omega),b,Nat.sub_self];rfl
theorem KJ{i:Nat}(hi:i<32)(hd:∀c,c<32→d.testBit c=(g c).isSome){y:β}(a:g i=some y):xj i d<(fm g 32).length:=(List.getElem?_eq_some_iff.1 (VW hi hd a)).1
theorem Ys{i:Nat}(hi:i<32)(hd:∀c,c<32→d.testBit c=(g c).isSome):xj i d≤(fm g 32).length:=by
 have a:=HL hd (i:=i) (by omega);rw[rm (g:=g) hi,aj];omega
theorem Fh:(fm g 32).length≤32:=by
 have:=List.length_filterMap_le g (eN 32);simpa[fm]using this
end
end Go.Proofs
namespace Go.Proofs
open Go.Lift
abbrev sv(s:SliceV):Value:=.slice s.a s.len s.cap
structure Slots where
 p:Nat→Option Pr
 k:Nat→Option (Option Addr)
def ge(d n:Nat)(sp sk:SliceV)(a:Bool)(ow:Option Addr):Array Value:= #[.int .u32 (d:Int),.int .u32 (n:Int),sv sp,sv sk,.bool a,.pointer ow]
structure BitsOf(d n:Nat)(s:Slots):Prop where
 d32:d<4294967296
 n32:n<4294967296
 dp:∀c,c<32→d.testBit c=(s.p c).isSome
 nk:∀c,c<32→n.testBit c=(s.k c).isSome
structure NodeAt(W:Nat→Prop)(h:ad)(b:Nat)(s:Slots):Prop where
 ex:∃d n sp sk ow,h[b]? =some (.cells (ge d n sp sk false ow) bH (0,0))∧BitsOf d n s∧Sl iZ 2 W h sp (fm s.p 32)∧Sl uB 1 W h sk (fm s.k 32)∧sp.len≤sp.cap∧sk.len≤sk.cap
 nw:¬W b
theorem NodeAt.upd{W M:Nat→Prop}{h h':ad}{b:Nat}{s:Slots}(n:NodeAt W h b s)(k:Upd M h h')(hm:∀b,M b→W b∨h.size≤b):NodeAt W h' b s:=by
 obtain⟨d,m,sp,sk,ow,a,c,f,g,i,e⟩:=n.ex;exact⟨⟨d,m,sp,sk,ow,k.get a (fun j=>(hm _ j).elim n.nw fun h=>by have:=bB a;omega),c,f.upd k hm,g.upd k hm,i,e⟩,n.nw⟩
structure OwnN(M:Nat→Prop)(h:ad)(b d n:Nat)(sp sk:SliceV)(s:Slots)(ow:Option Addr):Prop where
 blk:h[b]? =some (.cells (ge d n sp sk false ow) bH (0,0))
 bits:BitsOf d n s
 ex:∃A B:Nat→Prop,OwnS iZ 2 ax A h sp (fm s.p 32)∧OwnS uB 1 bS B h sk (fm s.k 32)∧(∀x,A x→M x∧¬B x∧x≠b∧x<h.size)∧(∀x,B x→M x∧x≠b∧x<h.size)
 mb:M b
theorem yY{h:ad}{K:Bool→ad→Prop}(a:K false h):HC PG gV [.pointer none] [.c .bool] K h:=by
 refine BZ none ?_;unfold tZ cI;exact af.2 a
theorem Kh{b:Nat}{h:ad}{K:Bool→ad→Prop}(a:K false h):HC PG pK [.pointer (some ⟨b,0,none⟩),.pointer none] [.c .bool] K h:=by
 refine Ds _ none ?_;unfold vl iQ;exact aA.2 (yY (af.2 a))
theorem OwnN.upd{M M':Nat→Prop}{h h':ad}{b d n:Nat}{sp sk:SliceV}{s:Slots}{ow:Option Addr}(o:OwnN M h b d n sp sk s ow)(k:Upd M' h h')(hm:∀x,M' x→¬M x):OwnN M h' b d n sp sk s ow:=by
 obtain⟨A,B,g,f,a,c⟩:=o.ex;have z:=k.size;exact⟨k.get o.blk fun i=>hm _ i o.mb,o.bits,⟨A,B,g.upd k fun x hx e=>hm _ e (a x hx).1,f.upd k fun x hx e=>hm _ e (c x hx).1,fun x hx=>⟨(a x hx).1,(a x hx).2.1,(a x hx).2.2.1,by have:=(a x hx).2.2.2;omega⟩,fun x hx=>⟨(c x hx).1,(c x hx).2.1,by have:=(c x hx).2.2;omega⟩⟩,o.mb⟩
set_option maxRecDepth 4000 in
theorem Qk{W:Nat→Prop}{h:ad}{b:Nat}{s:Slots}(nd:NodeAt W h b s){K:Option Addr→ad→Prop}
  (I:∀h' d n sp sk,OwnN (fun x=>h.size≤x) h' h.size d n sp sk s none→Upd No h h'→K (some ⟨h.size,0,none⟩) h'):
  HC PG gG [.pointer (some ⟨b,0,none⟩),.pointer none] [.c .ptr] K h:=by
 obtain⟨d,n,sp,sk,ow,f,bits,A,G,V,S⟩:=nd.ex;refine yn _ none ?_;unfold sd nv cI bM bW jf iQ gE Ur YC;refine Kh (af.2 ?_);have c:∀{h:ad} {b:Nat} {c:Array Value} {i:Nat},h[b]? =some (.cells c bH (0,0))→aD h ⟨b,0+i,none⟩=c[i]?:=fun f=>by rw[aR];exact bc f
 refine⟨_,rfl,_,c (i:=0) f,_,c (i:=1) f,sp,c (i:=2) f,sk,c (i:=3) f,_,c (i:=4) f,_,c (i:=5) f,?_⟩;have k1:=Upd.hnew No h [.int .u32 0,.int .u32 0,.slice none 0 0,.slice none 0 0,.bool false,.pointer none] bH;have b1:=bI h [.int .u32 0,.int .u32 0,.slice none 0 0,.slice none 0 0,.bool false,.pointer none] bH;refine bj ?_;simp only[df h];generalize hnew h [.int .u32 0,.int .u32 0,.slice none 0 0,.slice none 0 0,.bool false,.pointer none] bH=h1 at k1 b1
 have N:ir h1 ⟨h.size,0,none⟩ 0 [.int .u32 (d:Int),.int .u32 (n:Int),.slice sp.a sp.len sp.cap,.slice sk.a sk.len sk.cap,.bool false,.pointer ow]=_:=jI _ h1 0 0 _ b1 (by simp);refine⟨.inr ⟨_,rfl,fun j Y=>by rw[ci];exact i5 b1 (by simp at Y⊢;omega)⟩,bj ?_⟩
 rw[N];have b2:=jx (o:=.cells (ge d n sp sk false ow) bH (0,0)) b1;have t:Upd No h _:=k1.trans (M':=(· =h.size)) (Upd.set h1 (.cells (ge d n sp sk false ow) bH (0,0)) rfl) fun x hx=>.inr (gv hx.symm)
 have H:h.size<(h1.setIfInBounds h.size (.cells (ge d n sp sk false ow) bH (0,0))).size:=bB b2;have U:h.size≠b:=fun e=>by have:=bB f;omega
 have e2:(Obj.cells (List.take (0+0) [Value.int .u32 0,.int .u32 0,.slice none 0 0,.slice none 0 0,.bool false,.pointer none]++ [Value.int .u32 (d:Int),.int .u32 (n:Int),.slice sp.a sp.len sp.cap,.slice sk.a sk.len sk.cap,.bool false,.pointer ow]++List.drop (0+0+ [Value.int .u32 (d:Int),.int .u32 (n:Int),.slice sp.a sp.len sp.cap,.slice sk.a sk.len sk.cap,.bool false,.pointer ow].length) [Value.int .u32 0,.int .u32 0,.slice none 0 0,.slice none 0 0,.bool false,.pointer none]).toArray bH (0,0))=.cells (ge d n sp sk false ow) bH (0,0):=rfl
 rw[e2];generalize h1.setIfInBounds h.size (.cells (ge d n sp sk false ow) bH (0,0))=h2 at b2 t H;have q:=t.get0 f;refine⟨_,rfl,sp,c (i:=2) q,_,rfl,sk,c (i:=3) q,?_⟩;refine Ay (A.upd t fun _ h=>h.elim) (by have:=Fh (g:=s.p);omega) fun z R L m=>?_
 refine⟨c (i:=3) (m.get0 q),?_⟩;refine KV ((G.upd t fun _ h=>h.elim).upd m fun _ h=>h.elim) (by have:=Fh (g:=s.k);omega) fun F X E p=>?_
 have Q:=p.get0 (m.get0 b2);have y:=L.within.upd p fun _ _ h=>h
 have u:=E.within;have z3:=m.size;have z4:=p.size;have w:∀{h:ad} {c:Array Value} {x i:Nat},h[x]? =some (.cells c bH (0,0))→i<c.size→Wr h ⟨x,0+i,none⟩:=fun f hi=>by rw[aR];exact i5 f hi
 have st:∀{h:ad} {c c':Array Value} {x i:Nat} {v:Value} {k:ad→Prop},h[x]? =some (.cells c bH (0,0))→c.setIfInBounds i v=c'→(∀h',h'[x]? =some (.cells c' bH (0,0))→Upd (· =x) h h'→k h')→At (hset h ⟨x,i,none⟩ v) k:=fun f e I=>vS f fun h' D Z=>I h' (e▸D) Z
 refine⟨w (i:=2) Q (show 2<6 by decide),st (i:=2) (c':=ge d n z sk false ow) Q rfl fun h5 P C=>?_⟩
 refine⟨w (i:=3) P (show 3<6 by decide),st (i:=3) (c':=ge d n z F false ow) P rfl fun h6 O J=>?_⟩
 refine⟨w (i:=5) O (show 5<6 by decide),st (i:=5) (c':=ge d n z F false none) O rfl fun h7 T B=>?_⟩
 refine yY (af.2 ?_);have a:=C.tr (J.tr B);have z7:=a.size;refine I _ d n z F ⟨T,bits,⟨fun x=>h2.size≤x∧x<R.size,fun x=>R.size≤x∧x<X.size,y.upd a fun x hx e=>by have e:x=h.size:=e;omega,u.upd a fun x hx e=>by have e:x=h.size:=e;omega,fun x hx=>⟨by omega,by omega,by omega,by omega⟩,fun x hx=>⟨by omega,by omega,by omega⟩⟩,av _⟩ ?_
 exact((t.tr m).tr p).trans a fun x hx=>.inr (gv hx.symm)
end Go.Proofs
namespace Go.Proofs
open Go.Lift
theorem wt{β:Type}{g:Nat→Option β}{i:Nat}(h:g i=none):upd g i none=g:=by
 funext j;unfold upd;split
 ·rename_i e;rw[e,h]
 ·rfl
theorem eR{h:ad}{b:Nat}{c:Array Value}{t:TypeId}{i:Nat}(a:h[b]? =some (.cells c t (0,0))):aD h ⟨b,0+i,none⟩=c[i]?:=by rw[aR];exact bc a
theorem WZ{h:ad}{b:Nat}{c:Array Value}{t:TypeId}{i:Nat}(a:h[b]? =some (.cells c t (0,0))) (hi:i<c.size):Wr h ⟨b,0+i,none⟩:=by rw[aR];exact i5 a hi
theorem IY{h:ad}{b:Nat}{c c':Array Value}{t:TypeId}{i:Nat}{v:Value}{k:ad→Prop}(g:h[b]? =some (.cells c t (0,0))) (e:c.setIfInBounds i v=c')
 (d:∀h',h'[b]? =some (.cells c' t (0,0))→Upd (· =b) h h'→k h'):At (hset h ⟨b,i,none⟩ v) k:=vS g fun h' a f=>d h' (e▸a) f
theorem L5{M:Nat→Prop}{h:ad}{b d n:Nat}{sp sk:SliceV}{s:Slots}{ow:Option Addr}(o:OwnN M h b d n sp sk s ow){i:Nat}(hi:i<32){K:Unit→ad→Prop}
  (X:∀h' d' F sp' sk',OwnN M h' b d' F sp' sk' ⟨upd s.p i none,upd s.k i none⟩ ow→Upd M h h'→K () h'):HC PG jY [.pointer (some ⟨b,0,none⟩),.int .i64 i] [] K h:=by
 obtain⟨A,B,Y,W,a,m⟩:=o.ex;have bits:=o.bits;refine Dp _ i ?_;unfold vh bM bW nY MV gE;have U:∀k:Nat,k≤100→ac .i64 ((k:Int)+1)=((k+1:Nat):Int):=fun k X=>by rw[kO (by omega)];omega
 have hc1:=BU i d;have hc2:=BU i n;have P:∀x,A x→M x∨h.size≤x:=fun x hx=>.inl (a x hx).1
 refine Join.intro (fun _ h'=>∃sp',h'[b]? =some (.cells (ge d n sp' sk false ow) bH (0,0))∧OwnS iZ 2 ax A h' sp' (fm (upd s.p i none) 32)∧OwnS uB 1 bS B h' sk (fm s.k 32)∧Upd M h h') (fun R v=>?_) ?_
 ·refine⟨_,rfl,_,eR (i:=0) o.blk,Eu bits.d32 hi ?_⟩
  rw[bits.dp i hi];cases hp:s.p i with
  |none=>exact af.2 (v _ _ ⟨sp,o.blk,by rw[wt hp];exact Y,W,Upd.refl _ _⟩)
  |some y=>
   refine aA.2 ⟨_,rfl,_,eR (i:=0) o.blk,qQ bits.d32 hi ⟨_,rfl,sp,eR (i:=2) o.blk,?_⟩⟩;rw[U _ (by omega)];refine QS Y (KJ hi bits.dp hp) (by have:=Fh (g:=s.p);omega) fun w T t f=>?_
   rw[←VV hi bits.dp hp]at t;have b2:=f.get o.blk fun O=>(a b O).2.2.1 rfl
   refine⟨_,rfl,WZ (i:=2) b2 (show 2<6 by decide),IY (i:=2) (c':=ge d n w sk false ow) b2 rfl fun V b3 j=>?_⟩
   refine v _ _ ⟨w,b3,t.upd j fun x hx e=>(a x hx).2.2.1 e,(W.upd f fun x hx S=>(a x S).2.1 hx).upd j fun x hx e=>(m x hx).2.1 e,(f.mono P).tr (j.mono fun x e=>.inl (e▸o.mb))⟩
 rintro _ Z ⟨q,b1,E,D,C⟩;refine Join.intro (fun _ h'=>∃sk',h'[b]? =some (.cells (ge d n q sk' false ow) bH (0,0))∧OwnS iZ 2 ax A h' q (fm (upd s.p i none) 32)∧OwnS uB 1 bS B h' sk' (fm (upd s.k i none) 32)∧Upd M Z h') (fun R v=>?_) ?_
 ·refine⟨_,rfl,_,eR (i:=1) b1,Eu bits.n32 hi ?_⟩
  rw[bits.nk i hi];cases hp:s.k i with
  |none=>exact af.2 (v _ _ ⟨sk,b1,E,by rw[wt hp];exact D,Upd.refl _ _⟩)
  |some y=>
   refine aA.2 ⟨_,rfl,_,eR (i:=1) b1,qQ bits.n32 hi ⟨_,rfl,sk,eR (i:=3) b1,?_⟩⟩;rw[U _ (by omega)];refine QT D (KJ hi bits.nk hp) (by have:=Fh (g:=s.k);omega) fun w T t f=>?_
   rw[←VV hi bits.nk hp]at t;have b2:=f.get b1 fun O=>(m b O).2.1 rfl
   refine⟨_,rfl,WZ (i:=3) b2 (show 3<6 by decide),IY (i:=3) (c':=ge d n q w false ow) b2 rfl fun V b3 j=>?_⟩
   refine v _ _ ⟨w,b3,(E.upd f fun x hx S=>(a x hx).2.1 S).upd j fun x hx e=>(a x hx).2.2.1 e,t.upd j fun x hx e=>(m x hx).2.1 e,(f.mono fun x hx=>.inl (m x hx).1).tr (j.mono fun x e=>.inl (e▸o.mb))⟩
 rintro _ T ⟨u,b2,J,H,f⟩;refine⟨_,rfl,_,eR (i:=0) b2,_,rfl,_,eR (i:=1) b2,?_⟩;refine GG bits.d32 hi fun d' N Q=>⟨eR (i:=1) b2,?_⟩
 refine GG bits.n32 hi fun F I L=>?_
 refine⟨_,rfl,WZ (i:=0) b2 (show 0<6 by decide),IY (i:=0) (c':=ge d' n q u false ow) b2 rfl fun V b3 j=>?_⟩
 refine⟨_,rfl,WZ (i:=1) b3 (show 1<6 by decide),IY (i:=1) (c':=ge d' F q u false ow) b3 rfl fun h4 b4 G=>?_⟩
 have p:=j.tr G;have z:=(C.tr (f.tr (p.mono (M':=M) fun x e=>.inl (e▸o.mb)))).size
 refine X h4 d' F q u ⟨b4,⟨N,I,fun c hc=>?_,fun c hc=>?_⟩,⟨A,B,J.upd p fun x hx e=>(a x hx).2.2.1 e,H.upd p fun x hx e=>(m x hx).2.1 e,fun x hx=>⟨(a x hx).1,(a x hx).2.1,(a x hx).2.2.1,by have:=(a x hx).2.2.2;omega⟩,fun x hx=>⟨(m x hx).1,(m x hx).2.1,by have:=(m x hx).2.2;omega⟩⟩,o.mb⟩ (C.tr (f.tr (p.mono fun x e=>.inl (e▸o.mb))))
 ·rw[Q,bits.dp c hc];simp only[upd];split<;>simp[*]
 ·rw[L,bits.nk c hc];simp only[upd];split<;>simp[*]
end Go.Proofs
namespace Go.Proofs
open Go.Lift
theorem OwnS.setAt{α:Type}{f:α→List Value}{c:Nat}{t:TypeId}{M:Nat→Prop}{h:ad}{s:SliceV}{xs:List α}(i:OwnS f c t M h s xs){k:Nat}(n:k<xs.length)(x:α):
  ∃a,s.a=some a∧M a.block∧tc h (some (adr a (k*c))) 0 (f x)∧OwnS f c t M (ir h (adr a (k*c)) 0 (f x)) s (xs.take k++x::xs.drop (k+1))∧Upd (· =a.block) h (ir h (adr a (k*c)) 0 (f x)):=by
 have m:∀x,(f x).length=c∧0<c:=i.ne;have q:=i.len;have g:=i.cap;rcases i.blk with C|⟨b,e,u,w,hc,y⟩
 ·omega
 have o:((xs.take k).flatMap f).length=k*c:=by rw[j4 m,be,bU (by omega)]
 have e1:xs.flatMap f=(xs.take k).flatMap f++(f xs[k]++(xs.drop (k+1)).flatMap f):=by
  rw[←bK,←List.drop_eq_getElem_cons n];exact zN xs k
 rw[e1]at hc;have z:=(m xs[k]).1;have E:=(m x).1;have d:(xs.take k++x::xs.drop (k+1)).flatMap f=(xs.take k).flatMap f++(f x++(xs.drop (k+1)).flatMap f):=by rw[List.flatMap_append,bK]
 generalize (xs.take k).flatMap f=A at o hc d;generalize (xs.drop (k+1)).flatMap f=B at hc d;generalize f xs[k]=X at z hc;have v:k*c+0+(f x).length≤(A++(X++B)++e).length:=by simp only[aj];omega
 have p:adr ⟨b,0,none⟩ (k*c)=⟨b,k*c,none⟩:=by rw[ci,aR]
 refine⟨⟨b,0,none⟩,u,w,?_,?_,?_⟩
 ·rw[p]
  refine .inr ⟨_,rfl,fun j D=>?_⟩
  rw[ci];exact i5 hc (by rw[List.size_toArray];omega)
 ·rw[p,jI (f x) h 0 (k*c) _ hc v]
  refine⟨by simp;omega,m,g,.inr ⟨b,e,u,w,?_,?_⟩⟩
  ·rw[jx hc,d]
   congr 3
   rw[Nat.add_zero,aM A,cR o,←cT,cD o,aM X,cD (by omega)];simp only[aM]
  ·exact y
 ·rw[p,jI (f x) h 0 (k*c) _ hc v]
  exact Upd.set h _ rfl
theorem OwnN.node{M W:Nat→Prop}{h:ad}{b d n:Nat}{sp sk:SliceV}{s:Slots}{ow:Option Addr}(o:OwnN M h b d n sp sk s ow)(a:∀x,M x→¬W x):NodeAt W h b s:=by
 obtain⟨A,B,e,c,f,g⟩:=o.ex;exact⟨⟨d,n,sp,sk,ow,o.blk,o.bits,e.sl fun x hx _=>a _ (f x hx).1,c.sl fun x hx _=>a _ (g x hx).1,e.cap,c.cap⟩,a _ o.mb⟩
theorem HA{W:Nat→Prop}{h:ad}{b:Nat}{s:Slots}(nd:NodeAt W h b s){i:Nat}(hi:i<32){K:Bool→ad→Prop}(a:K true h):HC PG jZ [.pointer (some ⟨b,0,none⟩),.int .i64 i] [.c .bool] K h:=by
 obtain⟨d,n,sp,sk,ow,c,_⟩:=nd.ex;refine Dq _ i ?_;unfold vi cI;refine aA.2 ⟨_,rfl,_,eR (i:=4) c,aA.2 ?_⟩;refine aF (fun _=>?_) fun h=>absurd (Int.natCast_nonneg i) h
 rw[decide_eq_true (by omega)];exact a
theorem RG{β:Type}{g:Nat→Option β}{i:Nat}{x y:Option β}:upd (upd g i x) i y=upd g i y:=by
 funext j;unfold upd;split<;>rfl
theorem ij{β:Type}{g:Nat→Option β}{i:Nat}{x:Option β}:upd g i x i=x:=by simp[upd]
theorem tq{W:Nat→Prop}{h:ad}{b:Nat}{s:Slots}(nd:NodeAt W h b s)(hW:∀x,W x→x<h.size){i:Nat}(hi:i<32)(hx:∀y,s.p i=some y→s.k i=none)(p:Pr){K:Option Addr→ad→Prop}
  (hk:∀h' b',NodeAt W h' b' ⟨upd s.p i (some p),upd s.k i none⟩→Upd No h h'→K (some ⟨b',0,none⟩) h'):
  HC PG fH [.pointer (some ⟨b,0,none⟩),.pointer none,.int .i64 i,.agg #[.string p.1,.string p.2]] [.c .ptr] K h:=by
 refine AO _ none i p ?_;unfold sK cU ag bM eu bW jf qg nY pu gE FU;have k1:=Upd.hnew No h [.string p.1,.string p.2] ax;have b1:=bI h [.string p.1,.string p.2] ax;refine bj ?_;simp only[df h];generalize hnew h [.string p.1,.string p.2] ax=h1 at k1 b1;have z1:=bB b1;have V:=nd.upd k1 fun _ h=>h.elim
 refine HA V hi (af.2 ?_);refine Qk V fun h2 d n sp sk o L=>?_
 have bits:=o.bits;obtain⟨A,B,hA,hB,q,H⟩:=o.ex;have F:=k1.tr L;have u:=L.get0 b1;have Q:∀x,h1.size≤x→¬W x:=fun x hx U=>by have:=hW x U;omega
 refine⟨_,rfl,_,eR (i:=0) o.blk,Eu bits.d32 hi ?_⟩;rw[bits.dp i hi];cases hp:s.p i with
 |some y=>
  refine aA.2 ⟨_,rfl,sp,eR (i:=2) o.blk,_,rfl,_,eR (i:=0) o.blk,p.1,by rw[ci,bc u];rfl,p.2,by rw[ci,bc u];rfl,?_⟩
  refine qQ bits.d32 hi ⟨⟨by rw[ci,bc u];rfl,by rw[ci,bc u];rfl⟩,eR (i:=2) o.blk,?_⟩
  have hlt:=KJ hi bits.dp hp;obtain⟨a,ha,J,U,Z,m⟩:=OwnS.setAt hA hlt p;have hlen:=hA.len;refine⟨by omega,a,ha,?_⟩;rw[ak];refine⟨U,bj ?_⟩;rw[←VT hi bits.dp hp]at Z;have ob:=m.get o.blk fun e=>(q _ J).2.2.1 e.symm
  have z3:=m.size;have E:OwnN (fun x=>h1.size≤x) _ h1.size d n sp sk ⟨upd s.p i (some p),upd s.k i none⟩ none:=⟨ob,⟨bits.d32,bits.n32,fun c hc=>by
    rw[bits.dp c hc];simp only[upd];split
    ·rename_i e;rw[e,hp];rfl
    ·rfl,fun c hc=>by rw[bits.nk c hc,wt (hx y hp)]⟩,
   ⟨A,B,Z,by rw[wt (hx y hp)];exact hB.upd m fun x hx e=>(q _ J).2.1 (e▸hx),fun x hx=>⟨(q x hx).1,(q x hx).2.1,(q x hx).2.2.1,by have:=(q x hx).2.2.2;omega⟩,fun x hx=>⟨(H x hx).1,(H x hx).2.1,by have:=(H x hx).2.2;omega⟩⟩,o.mb⟩
  refine hk _ _ (E.node Q) (F.trans m fun x hx=>.inr ?_)
  have:=(q _ J).1;have hx:x=a.block:=hx;omega
 |none=>
  refine af.2 ⟨_,rfl,L5 o hi fun D d3 n3 C I E m=>?_⟩
  have f:=E.bits;obtain⟨A3,B3,hA3,hB3,j,k⟩:=E.ex;have z2:=L.size;have z3:=m.size;have z:=m.get u (show ¬h1.size≤h.size by omega)
  have P:Upd No h D:=F.trans m fun x hx=>.inr (aU (Nat.le_of_lt z1) hx)
  refine⟨_,rfl,C,eR (i:=2) E.blk,_,rfl,_,eR (i:=0) E.blk,p.1,by rw[ci,bc z];rfl,p.2,by rw[ci,bc z];rfl,?_⟩
  have R:=Upd.hnew No D [.string p.1,.string p.2] ax;have b4:=bI D [.string p.1,.string p.2] ax;have z4:=eT D [.string p.1,.string p.2] ax;have N:=E.upd R fun _ h=>h.elim
  have S:HC PG cW [.slice C.a C.len C.cap,.int .i64 (xj i d3),.slice (some (aH D)) 1 1] [.c .slice] (fun(G:SliceV) T=>
       ∃a34:Addr,some (⟨h1.size,0,none⟩:Addr)=some a34∧
       (Wr T (adr (adr a34 0) 2)∧
        At (hset T (adr (adr a34 0) 2) (.slice G.a G.len G.cap)) (fun Y=>
         ∃a36:Addr,some (⟨h1.size,0,none⟩:Addr)=some a36∧
         ∃v37:Int,aD Y (adr (adr a36 0) 0)=some (.int .u32 v37)∧
         HC PG fI [.int .u32 v37,.int .i64 i] [.c (.int .u32)] (fun(e38:Int) O=>
          ∃a40:Addr,some (⟨h1.size,0,none⟩:Addr)=some a40∧
          (Wr O (adr (adr a40 0) 0)∧
           At (hset O (adr (adr a40 0) 0) (.int .u32 e38)) (fun h41=>
            K (some ⟨h1.size,0,none⟩) h41))) Y))) (hnew D [.string p.1,.string p.2] ax):=by
   generalize hnew D [.string p.1,.string p.2] ax=h4 at R b4 z4 N;rw[df D];have hA4:=(hA3.upd R fun _ _ h=>h).more (M':=fun x=>A3 x∨h4.size≤x) fun x hx=>.inl hx
   have hpn:(⟨upd s.p i none,upd s.k i none⟩:Slots).p i=none:=ij;refine QA hA4 (Ys hi f.dp) (by have:=Fh (g:=(⟨upd s.p i none,upd s.k i none⟩:Slots).p);omega) (x:=p) b4 (fun e=>e.elim (fun e=>by have:=(j _ e).2.2.2;omega) fun e=>by omega) (fun x hx=>.inr hx) fun s5 h5 X v=>?_
   rw[←VU hi f.dp hpn p]at X;have hbl:h1.size<D.size:=bB E.blk;have b5:=v.get N.blk fun e=>e.elim (fun e=>(j _ e).2.2.1 rfl) fun e=>by omega
   refine⟨_,rfl,WZ (i:=2) b5 (show 2<6 by decide),IY (i:=2) (c':=ge d3 n3 s5 I false none) b5 rfl fun h6 b6 hu6=>?_⟩
   refine⟨_,rfl,_,eR (i:=0) b6,RC f.d32 hi fun w U hwt=>?_⟩
   refine⟨_,rfl,WZ (i:=0) b6 (show 0<6 by decide),IY (i:=0) (c':=ge w n3 s5 I false none) b6 rfl fun h7 b7 hu7=>?_⟩
   have t:=hu6.tr hu7;have z5:=v.size;have z7:=t.size;have ho5':=X.within;have e1:(⟨upd (⟨upd s.p i none,upd s.k i none⟩:Slots).p i (some p),upd s.k i none⟩:Slots)=⟨upd s.p i (some p),upd s.k i none⟩:=by rw[RG]
   have o7:OwnN (fun x=>h1.size≤x) h7 h1.size w n3 s5 I ⟨upd s.p i (some p),upd s.k i none⟩ none:=by
    rw[←e1];refine⟨b7,⟨U,f.n32,fun c hc=>?_,f.nk⟩,⟨fun x=>(A3 x∨h4.size≤x)∧x<h5.size,B3,ho5'.upd t fun x hx e=>?_,((hB3.upd R fun _ _ h=>h).upd v fun x hx e=>?_).upd t fun x hx e=>(k x hx).2.1 e,fun x hx=>⟨?_,?_,?_,by omega⟩,fun x hx=>⟨(k x hx).1,(k x hx).2.1,by have:=(k x hx).2.2;omega⟩⟩,o.mb⟩
    ·rw[hwt,f.dp c hc];simp only[upd];split<;>simp[*]
    ·have e:x=h1.size:=e
     rcases hx.1 with h|h
     ·exact(j x h).2.2.1 e
     ·omega
    ·rcases e with e|e
     ·exact(j x e).2.1 hx
     ·have:=(k x hx).2.2;omega
    ·rcases hx.1 with h|h
     ·exact(j x h).1
     ·omega
    ·rcases hx.1 with h|h
     ·exact(j x h).2.1
     ·exact fun hb=>by have:=(k x hb).2.2;omega
    ·rcases hx.1 with h|h
     ·exact(j x h).2.2.1
     ·omega
   refine hk _ _ (o7.node Q) (((P.tr R).trans v fun x hx=>.inr ?_).trans t fun x hx=>.inr ?_)
   ·rcases hx with h|h
    ·have:=(j x h).1;omega
    ·omega
   ·have hx:x=h1.size:=hx
    omega
  refine⟨qQ f.d32 hi ⟨⟨by rw[ci,bc z];rfl,by rw[ci,bc z];rfl⟩,eR (i:=2) E.blk,bj ⟨eR (i:=2) N.blk,S⟩⟩,bj ⟨eR (i:=0) N.blk,eR (i:=2) N.blk,qQ f.d32 hi ⟨eR (i:=2) N.blk,S⟩⟩⟩
end Go.Proofs
namespace Go.Proofs
open Go.Lift
theorem Wi{W:Nat→Prop}{h:ad}{b:Nat}{s:Slots}(nd:NodeAt W h b s)(g:∀x,W x→x<h.size){i:Nat}(hi:i<32){K:Option Addr→ad→Prop}
  (e:∀h' b',NodeAt W h' b' ⟨upd s.p i none,upd s.k i none⟩→Upd No h h'→K (some ⟨b',0,none⟩) h'):
  HC PG md [.pointer (some ⟨b,0,none⟩),.pointer none,.int .i64 i] [.c .ptr] K h:=by
 refine Du _ none i ?_;unfold vn jf pu;refine HA nd hi (af.2 ?_);refine Qk nd fun p d n sp sk o c=>⟨_,rfl,L5 o hi fun u q t k m f a=>?_⟩
 exact e _ _ (f.node fun x hx j=>by have:=g x j;omega) (c.trans a fun x hx=>.inr hx)
theorem Al{W:Nat→Prop}{h:ad}{b:Nat}{s:Slots}(nd:NodeAt W h b s)(hW:∀x,W x→x<h.size){i:Nat}(hi:i<32)(hx:∀y,s.k i=some y→s.p i=none)(j:Addr){K:Option Addr→ad→Prop}
  (hk:∀h' b',NodeAt W h' b' ⟨upd s.p i none,upd s.k i (some (some j))⟩→Upd No h h'→K (some ⟨b',0,none⟩) h'):
  HC PG hE [.pointer (some ⟨b,0,none⟩),.pointer none,.int .i64 i,.pointer (some j)] [.c .ptr] K h:=by
 refine B7 _ none i (some j) ?_;unfold uh cU bM bW jf nY pu La gE;refine af.2 ?_;refine HA nd hi (af.2 ?_);refine Qk nd fun h2 d n sp sk o G=>?_
 have bits:=o.bits;obtain⟨A,B,hA,hB,u,t⟩:=o.ex;have O:∀x,h.size≤x→¬W x:=fun x hx C=>by have:=hW x C;omega
 refine⟨_,rfl,_,eR (i:=1) o.blk,Eu bits.n32 hi ?_⟩;rw[bits.nk i hi];cases hp:s.k i with
 |some y=>
  refine aA.2 ⟨_,rfl,sk,eR (i:=3) o.blk,_,rfl,_,eR (i:=1) o.blk,?_⟩;refine qQ bits.n32 hi ⟨eR (i:=3) o.blk,?_⟩;have hlt:=KJ hi bits.nk hp;obtain⟨a,ha,I,C,U,p⟩:=OwnS.setAt hB hlt (some j);have hlen:=hB.len;refine⟨by omega,a,ha,?_⟩;rw[ak];have X:Wr h2 (adr a (xj i n*1)):=by
   rcases C with C|⟨b',hb',C⟩
   ·cases C
   ·cases hb';exact C 0 (by simp)
  refine⟨X,bj ?_⟩;rw[←VT hi bits.nk hp]at U;have ob:=p.get o.blk fun e=>(t _ I).2.1 e.symm
  have z3:=p.size;have E:OwnN (fun x=>h.size≤x) _ h.size d n sp sk ⟨upd s.p i none,upd s.k i (some (some j))⟩ none:=⟨ob,⟨bits.d32,bits.n32,fun c hc=>by rw[bits.dp c hc,wt (hx y hp)],fun c hc=>by
    rw[bits.nk c hc];simp only[upd];split
    ·rename_i e;rw[e,hp];rfl
    ·rfl⟩,
   ⟨A,B,by rw[wt (hx y hp)];exact hA.upd p fun x hx e=>(u _ hx).2.1 (e▸I),U,fun x hx=>⟨(u x hx).1,(u x hx).2.1,(u x hx).2.2.1,by have:=(u x hx).2.2.2;omega⟩,fun x hx=>⟨(t x hx).1,(t x hx).2.1,by have:=(t x hx).2.2;omega⟩⟩,o.mb⟩
  refine hk _ _ (E.node O) (G.trans p fun x hx=>.inr ?_)
  have:=(t _ I).1;have hx:x=a.block:=hx;omega
 |none=>
  refine af.2 ⟨_,rfl,L5 o hi fun D d3 n3 H z E p=>?_⟩
  have f:=E.bits;obtain⟨A3,B3,hA3,hB3,k,m⟩:=E.ex;have z2:=G.size;have z3:=p.size;have N:Upd No h D:=G.trans p fun x hx=>.inr hx
  refine⟨_,rfl,z,eR (i:=3) E.blk,_,rfl,_,eR (i:=1) E.blk,?_⟩;have P:=Upd.hnew No D [.pointer (some j)] bS;have b4:=bI D [.pointer (some j)] bS;have z4:=eT D [.pointer (some j)] bS;have J:=E.upd P fun _ h=>h.elim
  have Q:HC PG cK [.slice z.a z.len z.cap,.int .i64 (xj i n3),.slice (some (aH D)) 1 1] [.c .slice] (fun(F:SliceV) R=>
       ∃a34:Addr,some (⟨h.size,0,none⟩:Addr)=some a34∧
       (Wr R (adr (adr a34 0) 3)∧
        At (hset R (adr (adr a34 0) 3) (.slice F.a F.len F.cap)) (fun T=>
         ∃a36:Addr,some (⟨h.size,0,none⟩:Addr)=some a36∧
         ∃v37:Int,aD T (adr (adr a36 0) 1)=some (.int .u32 v37)∧
         HC PG fI [.int .u32 v37,.int .i64 i] [.c (.int .u32)] (fun(Y:Int) L=>
          ∃a40:Addr,some (⟨h.size,0,none⟩:Addr)=some a40∧
          (Wr L (adr (adr a40 0) 1)∧
           At (hset L (adr (adr a40 0) 1) (.int .u32 Y)) (fun h41=>
            K (some ⟨h.size,0,none⟩) h41))) T))) (hnew D [.pointer (some j)] bS):=by
   generalize hnew D [.pointer (some j)] bS=h4 at P b4 z4 J;rw[df D];have Z:=(hB3.upd P fun _ _ h=>h).more (M':=fun x=>B3 x∨h4.size≤x) fun x hx=>.inl hx
   have hpn:(⟨upd s.p i none,upd s.k i none⟩:Slots).k i=none:=ij;refine QB Z (Ys hi f.nk) (by have:=Fh (g:=(⟨upd s.p i none,upd s.k i none⟩:Slots).k);omega) (x:=some j) b4 (fun e=>e.elim (fun e=>by have:=(m _ e).2.2;omega) fun e=>by omega) (fun x hx=>.inr hx) fun s5 h5 S v=>?_
   rw[←VU hi f.nk hpn (some j)]at S;have hbl:h.size<D.size:=bB E.blk;have b5:=v.get J.blk fun e=>e.elim (fun e=>(m _ e).2.1 rfl) fun e=>by omega
   refine⟨_,rfl,WZ (i:=3) b5 (show 3<6 by decide),IY (i:=3) (c':=ge d3 n3 H s5 false none) b5 rfl fun h6 b6 hu6=>?_⟩
   refine⟨_,rfl,_,eR (i:=1) b6,RC f.n32 hi fun w C hwt=>?_⟩
   refine⟨_,rfl,WZ (i:=1) b6 (show 1<6 by decide),IY (i:=1) (c':=ge d3 w H s5 false none) b6 rfl fun h7 b7 hu7=>?_⟩
   have q:=hu6.tr hu7;have z5:=v.size;have z7:=q.size;have V:=S.within;have e1:(⟨upd s.p i none,upd (⟨upd s.p i none,upd s.k i none⟩:Slots).k i (some (some j))⟩:Slots)=⟨upd s.p i none,upd s.k i (some (some j))⟩:=by rw[RG]
   have o7:OwnN (fun x=>h.size≤x) h7 h.size d3 w H s5 ⟨upd s.p i none,upd s.k i (some (some j))⟩ none:=by
    rw[←e1];refine⟨b7,⟨f.d32,C,f.dp,fun c hc=>?_⟩,⟨A3,fun x=>(B3 x∨h4.size≤x)∧x<h5.size,((hA3.upd P fun _ _ h=>h).upd v fun x hx e=>?_).upd q fun x hx e=>(k x hx).2.2.1 e,V.upd q fun x hx e=>?_,fun x hx=>⟨(k x hx).1,?_,(k x hx).2.2.1,by have:=(k x hx).2.2.2;omega⟩,fun x hx=>⟨?_,?_,by omega⟩⟩,o.mb⟩
    ·rw[hwt,f.nk c hc];simp only[upd];split<;>simp[*]
    ·rcases e with e|e
     ·exact(k x hx).2.1 e
     ·have:=(k x hx).2.2.2;omega
    ·have e:x=h.size:=e
     rcases hx.1 with h|h
     ·exact(m x h).2.1 e
     ·omega
    ·rintro⟨h|h,_⟩
     ·exact(k x hx).2.1 h
     ·have:=(k x hx).2.2.2;omega
    ·rcases hx.1 with h|h
     ·exact(m x h).1
     ·omega
    ·rcases hx.1 with h|h
     ·exact(m x h).2.1
     ·omega
   refine hk _ _ (o7.node O) (((N.tr P).trans v fun x hx=>.inr ?_).trans q fun x hx=>.inr ?_)
   ·rcases hx with h|h
    ·exact(m x h).1
    ·omega
   ·have hx:x=h.size:=hx
    omega
  refine⟨qQ f.n32 hi ⟨eR (i:=3) E.blk,bj ⟨eR (i:=3) J.blk,Q⟩⟩,bj ⟨eR (i:=1) J.blk,eR (i:=3) J.blk,qQ f.n32 hi ⟨eR (i:=3) J.blk,Q⟩⟩⟩
end Go.Proofs
namespace Go.Proofs
open Go.Lift
theorem X2{h:ad}{b d n:Nat}{sp sk:SliceV}{c:Bool}{ow:Option Addr}(e:h[b]? =some (.cells (ge d n sp sk c ow) bH (0,0))) {K:Int→ad→Prop} (a:K (d:Int) h):HC PG qA [.pointer (some ⟨b,0,none⟩)] [.c (.int .u32)] K h:=by
 refine ER _ ?_;unfold wY gE;exact af.2 ⟨_,rfl,_,eR (i:=0) e,a⟩
theorem NT{h:ad}{b d n:Nat}{sp sk:SliceV}{c:Bool}{ow:Option Addr}(e:h[b]? =some (.cells (ge d n sp sk c ow) bH (0,0))) {K:Int→ad→Prop} (a:K (n:Int) h):HC PG mc [.pointer (some ⟨b,0,none⟩)] [.c (.int .u32)] K h:=by
 refine Dt _ ?_;unfold vm gE;exact af.2 ⟨_,rfl,_,eR (i:=1) e,a⟩
theorem kX{h:ad}{b d n:Nat}{sp sk:SliceV}{a:Bool}{ow:Option Addr}(e:h[b]? =some (.cells (ge d n sp sk a ow) bH (0,0))) {K:Bool→ad→Prop} (c:K a h):HC PG eZ [.pointer (some ⟨b,0,none⟩)] [.c .bool] K h:=by
 refine zW _ ?_;unfold rJ cI;exact aA.2 ⟨_,rfl,_,eR (i:=4) e,c⟩
def VN(o:Option Pr):Pr:=o.getD (⟨#[]⟩,⟨#[]⟩)
theorem Hf{h:ad}{b:Nat}{q p:Pr}(a:h[b]? =some (.cells #[.string q.1,.string q.2] ax (0,0))) {k:ad→Prop}
  (c:∀h',h'[b]? =some (.cells #[.string p.1,.string p.2] ax (0,0))→Upd (· =b) h h'→k h'):tc h (some ⟨b,0,none⟩) 0 [.string p.1,.string p.2]∧At (ir h ⟨b,0,none⟩ 0 [.string p.1,.string p.2]) k:=by
 have e:=jI [.string p.1,.string p.2] h 0 0 [.string q.1,.string q.2] a (by simp);refine⟨.inr ⟨_,rfl,fun j d=>by rw[ci];exact i5 a (by simp at d⊢;omega)⟩,bj ?_⟩
 rw[e];refine c _ ?_ (Upd.set h _ rfl);rw[jx a];rfl
theorem Hm{W:Nat→Prop}{h:ad}{b:Nat}{s:Slots}(nd:NodeAt W h b s){i:Nat}(hi:i<32){K:Pr×Bool→ad→Prop}(k:∀h',Upd No h h'→K (VN (s.p i),(s.p i).isSome) h'):
  HC PG kF [.pointer (some ⟨b,0,none⟩),.int .i64 i] [.agg [.str,.str],.c .bool] K h:=by
 refine EO _ i ?_;unfold wW cU ag eX bL ic eu bW nY gE;obtain⟨d,n,sp,sk,ow,A,bits,f,u,z,v⟩:=nd.ex;have k1:=Upd.hnew No h [.string (⟨#[]⟩:ByteArray),.string (⟨#[]⟩:ByteArray)] ax;have b1:=bI h [.string (⟨#[]⟩:ByteArray),.string (⟨#[]⟩:ByteArray)] ax;refine bj ?_;simp only[df h];generalize hnew h [.string (⟨#[]⟩:ByteArray),.string (⟨#[]⟩:ByteArray)] ax=h1 at k1 b1
 have c:=k1.get0 A;have g:h1[h.size]? =some (.cells #[.string Rz.1,.string Rz.2] ax (0,0)):=b1;refine X2 c (Eu bits.d32 hi ?_);rw[bits.dp i hi];cases hp:s.p i with
 |none=>
  rw[hp]at k;refine aA.2 (Hf (p:=Rz) g fun q b2 e=>⟨_,by rw[ci,bc b2];rfl,_,by rw[ci,bc b2];rfl,k _ (k1.trans e fun x hx=>.inr (gv hx.symm))⟩)
 |some y=>
  rw[hp]at k;refine af.2 ⟨_,rfl,sp,eR (i:=2) c,_,rfl,_,eR (i:=0) c,qQ bits.d32 hi ⟨eR (i:=2) c,?_⟩⟩;have w:=KJ hi bits.dp hp;have j:=f.upd k1 fun _ h=>h.elim
  obtain⟨a,t,_,m⟩:=j.at (VW hi bits.dp hp);have o:=f.len;refine⟨by omega,a,t,y.1,m 0 _ rfl,y.2,m 1 _ rfl,?_⟩;refine Hf (p:=y) g fun q b2 e=>⟨_,by rw[ci,bc b2];rfl,_,by rw[ci,bc b2];rfl,k _ (k1.trans e fun x hx=>.inr (gv hx.symm))⟩
theorem Gs{W:Nat→Prop}{h:ad}{b:Nat}{s:Slots}(nd:NodeAt W h b s){i:Nat}(hi:i<32){K:Option Addr×Bool→ad→Prop}(e:K ((s.k i).getD none,(s.k i).isSome) h):
  HC PG lD [.pointer (some ⟨b,0,none⟩),.int .i64 i] [.c .ptr,.c .bool] K h:=by
 refine Ge _ i ?_;unfold yA bi cU bW nY gE;obtain⟨d,n,sp,sk,ow,f,bits,m,c,q,o⟩:=nd.ex;refine NT f (Eu bits.n32 hi ?_);rw[bits.nk i hi];cases hp:s.k i with
 |none=>rw[hp]at e;exact aA.2 e
 |some y=>
  rw[hp]at e;refine af.2 ⟨_,rfl,sk,eR (i:=3) f,_,rfl,_,eR (i:=1) f,qQ bits.n32 hi ⟨eR (i:=3) f,?_⟩⟩;have p:=KJ hi bits.nk hp;obtain⟨a,k,_,j⟩:=c.at (VW hi bits.nk hp);have g:=c.len;exact⟨by omega,a,k,y,j 0 _ rfl,e⟩
theorem NN{W:Nat→Prop}{h:ad}{b d n:Nat}{sp sk:SliceV}{e:Bool}{ow:Option Addr}{l:List Pr}(f:h[b]? =some (.cells (ge d n sp sk e ow) bH (0,0))) (c:Sl iZ 2 W h sp l) (g:l.length≤1000000000) {K:SliceV→ad→Prop}
  (a:∀s' h',OwnS iZ 2 ax (fun x=>h.size≤x) h' s' l→Upd No h h'→K s' h'):HC PG ma [.pointer (some ⟨b,0,none⟩)] [.c .slice] K h:=by
 refine Dr _ ?_;unfold vj bW;exact af.2 ⟨_,rfl,sp,eR (i:=2) f,Ay c (by omega) a⟩
structure BuckAt(W:Nat→Prop)(h:ad)(b:Nat)(l:List Pr):Prop where
 ex:∃sp sk ow,h[b]? =some (.cells (ge 0 0 sp sk true ow) bH (0,0))∧Sl iZ 2 W h sp l∧Sl uB 1 W h sk []∧sp.len≤sp.cap∧sk.len≤sk.cap
 nw:¬W b
theorem BuckAt.upd{W M:Nat→Prop}{h h':ad}{b:Nat}{l:List Pr}(n:BuckAt W h b l)(k:Upd M h h')(hm:∀b,M b→W b∨h.size≤b):BuckAt W h' b l:=by
 obtain⟨sp,sk,ow,a,d,e,f,c⟩:=n.ex;exact⟨⟨sp,sk,ow,k.get a (fun g=>(hm _ g).elim n.nw fun h=>by have:=bB a;omega),d.upd k hm,e.upd k hm,f,c⟩,n.nw⟩
theorem VK{W:Nat→Prop}{h:ad}{b:Nat}{l:List Pr}(s:BuckAt W h b l)(o:fe l)(p:l.length≤1000000000)(k:ByteArray){K:ByteArray×Bool→ad→Prop}
  (i:∀h' v,Upd No h h'→(cG l k=true→(k,v)∈l)→(cG l k=false→v=⟨#[]⟩)→K (v,cG l k) h'):HC PG qB [.pointer (some ⟨b,0,none⟩),.string k] [.c .str,.c .bool] K h:=by
 refine Rm _ k ?_;unfold IL cU bL FX;obtain⟨sp,sk,ow,x,j,A,w,t⟩:=s.ex;refine NN x j p fun u q m g=>?_
 have c:Sl iZ 2 No q u l:=m.sl fun _ _ _ h=>h
 refine L0 c o p k fun B d=>?_
 cases ht:cG l k with
 |false=>rw[ht]at i;exact aA.2 (i _ _ (g.tr d) (fun h=>by cases h) fun _=>rfl)
 |true=>
  rw[ht]at i;obtain⟨f,e⟩:=Ly o ht;obtain⟨a,z,_,y⟩:=(c.upd d fun _ h=>h.elim).at (ah f)
  have n:=c.len;refine af.2 ⟨by simp only;omega,a,z,_,y 1 _ rfl,i _ _ (g.tr d) (fun _=>?_) fun h=>by cases h⟩
  have:(k,l[pos l k].2)=l[pos l k]:=Prod.ext e.symm rfl;rw[this];exact List.getElem_mem f
theorem Yp{W:Nat→Prop}{h:ad}{b:Nat}{l:List Pr}(g:BuckAt W h b l)(f:fe l)(e:l.length≤1000000000)(k:ByteArray){K:ByteArray×Bool→ad→Prop}
 (a:∀h' v,Upd No h h'→(cG l k=true→(k,v)∈l)→K (v,cG l k) h'):HC PG qB [.pointer (some ⟨b,0,none⟩),.string k] [.c .str,.c .bool] K h:=VK g f e k fun h' v d c _=>a h' v d c
end Go.Proofs
namespace Go.Proofs
open Go.Lift
set_option maxRecDepth 4000 in
theorem RW{W:Nat→Prop}{h:ad}{b:Nat}{l:List Pr}(nd:BuckAt W h b l)(hn:l.length≤1000000000){K:Option Addr→ad→Prop}
  (E:∀h' sp sk,h'[h.size]? =some (.cells (ge 0 0 sp sk true none) bH (0,0))→OwnS iZ 2 ax (fun x=>h.size<x∧x<h'.size) h' sp l→OwnS uB 1 bS (fun x=>h.size<x∧x<h'.size) h' sk []→Upd No h h'→K (some ⟨h.size,0,none⟩) h'):
  HC PG gG [.pointer (some ⟨b,0,none⟩),.pointer none] [.c .ptr] K h:=by
 obtain⟨sp,sk,ow,d,t,D,Q,N⟩:=nd.ex;refine yn _ none ?_;unfold sd nv cI bM bW jf iQ gE Ur YC;refine Kh (af.2 ?_);have c:∀{h:ad} {b:Nat} {c:Array Value} {i:Nat},h[b]? =some (.cells c bH (0,0))→aD h ⟨b,0+i,none⟩=c[i]?:=fun d=>by rw[aR];exact bc d
 refine⟨_,rfl,_,c (i:=0) d,_,c (i:=1) d,sp,c (i:=2) d,sk,c (i:=3) d,_,c (i:=4) d,_,c (i:=5) d,?_⟩;have k1:=Upd.hnew No h [.int .u32 0,.int .u32 0,.slice none 0 0,.slice none 0 0,.bool false,.pointer none] bH;have b1:=bI h [.int .u32 0,.int .u32 0,.slice none 0 0,.slice none 0 0,.bool false,.pointer none] bH;refine bj ?_;simp only[df h];generalize hnew h [.int .u32 0,.int .u32 0,.slice none 0 0,.slice none 0 0,.bool false,.pointer none] bH=h1 at k1 b1
 have H:ir h1 ⟨h.size,0,none⟩ 0 [.int .u32 ((0:Nat):Int),.int .u32 ((0:Nat):Int),.slice sp.a sp.len sp.cap,.slice sk.a sk.len sk.cap,.bool true,.pointer ow]=_:=jI _ h1 0 0 _ b1 (by simp);refine⟨.inr ⟨_,rfl,fun j R=>by rw[ci];exact i5 b1 (by simp at R⊢;omega)⟩,bj ?_⟩
 rw[H];have b2:=jx (o:=.cells (ge 0 0 sp sk true ow) bH (0,0)) b1;have n:Upd No h _:=k1.trans (M':=(· =h.size)) (Upd.set h1 (.cells (ge 0 0 sp sk true ow) bH (0,0)) rfl) fun x hx=>.inr (gv hx.symm)
 have C:h.size<(h1.setIfInBounds h.size (.cells (ge 0 0 sp sk true ow) bH (0,0))).size:=bB b2;have P:h.size≠b:=fun e=>by have:=bB d;omega
 have e2:(Obj.cells (List.take (0+0) [Value.int .u32 0,.int .u32 0,.slice none 0 0,.slice none 0 0,.bool false,.pointer none]++ [Value.int .u32 ((0:Nat):Int),.int .u32 ((0:Nat):Int),.slice sp.a sp.len sp.cap,.slice sk.a sk.len sk.cap,.bool true,.pointer ow]++List.drop (0+0+ [Value.int .u32 ((0:Nat):Int),.int .u32 ((0:Nat):Int),.slice sp.a sp.len sp.cap,.slice sk.a sk.len sk.cap,.bool true,.pointer ow].length) [Value.int .u32 0,.int .u32 0,.slice none 0 0,.slice none 0 0,.bool false,.pointer none]).toArray bH (0,0))=.cells (ge 0 0 sp sk true ow) bH (0,0):=rfl
 rw[e2];generalize h1.setIfInBounds h.size (.cells (ge 0 0 sp sk true ow) bH (0,0))=h2 at b2 n C;have m:=n.get0 d;refine⟨_,rfl,sp,c (i:=2) m,_,rfl,sk,c (i:=3) m,?_⟩;refine Ay (t.upd n fun _ h=>h.elim) (by omega) fun s X G f=>?_
 refine⟨c (i:=3) (f.get0 m),?_⟩;refine KV ((D.upd n fun _ h=>h.elim).upd f fun _ h=>h.elim) (by simp) fun B h4 A g=>?_
 have L:=g.get0 (f.get0 b2);have q:=G.within.upd g fun _ _ h=>h
 have p:=A.within;have Y:=f.size;have T:=g.size;have w:∀{h:ad} {c:Array Value} {x i:Nat},h[x]? =some (.cells c bH (0,0))→i<c.size→Wr h ⟨x,0+i,none⟩:=fun d hi=>by rw[aR];exact i5 d hi
 have st:∀{h:ad} {c c':Array Value} {x i:Nat} {v:Value} {k:ad→Prop},h[x]? =some (.cells c bH (0,0))→c.setIfInBounds i v=c'→(∀h',h'[x]? =some (.cells c' bH (0,0))→Upd (· =x) h h'→k h')→At (hset h ⟨x,i,none⟩ v) k:=fun d e E=>vS d fun h' z S=>E h' (e▸z) S
 refine⟨w (i:=2) L (show 2<6 by decide),st (i:=2) (c':=ge 0 0 s sk true ow) L rfl fun h5 J y=>?_⟩
 refine⟨w (i:=3) J (show 3<6 by decide),st (i:=3) (c':=ge 0 0 s B true ow) J rfl fun Z I F=>?_⟩
 refine⟨w (i:=5) I (show 5<6 by decide),st (i:=5) (c':=ge 0 0 s B true none) I rfl fun U O u=>?_⟩
 refine yY (af.2 ?_);have a:=y.tr (F.tr u);have V:=a.size;refine E _ s B O ((q.upd a fun x hx e=>?_).more fun x hx=>?_) ((p.upd a fun x hx e=>?_).more fun x hx=>?_) ?_
 ·have e:x=h.size:=e;omega
 ·omega
 ·have e:x=h.size:=e;omega
 ·omega
 ·exact((n.tr f).tr g).trans a fun x hx=>.inr (gv hx.symm)
theorem Mi{W:Nat→Prop}{h:ad}{b:Nat}{l:List Pr}(A:BuckAt W h b l)(o:∀x,W x→x<h.size)(z:fe l)(v:l.length≤1000000000)(p:Pr){K:Option Addr→ad→Prop}
  (G:∀h' b',BuckAt W h' b' (LP l p)→Upd No h h'→K (some ⟨b',0,none⟩) h'):
  HC PG jK [.pointer (some ⟨b,0,none⟩),.pointer none,.agg #[.string p.1,.string p.2]] [.c .ptr] K h:=by
 refine Gc _ none p ?_;unfold yy ag bM bW jf mW qg;have k1:=Upd.hnew No h [.string p.1,.string p.2] ax;have b1:=bI h [.string p.1,.string p.2] ax;refine bj ?_;simp only[df h];generalize hnew h [.string p.1,.string p.2] ax=h1 at k1 b1;have L:=bB b1;have f:=A.upd k1 fun _ h=>h.elim
 obtain⟨sp,sk,ow,D,w,F,E,y⟩:=f.ex;refine kX D (af.2 ?_);refine RW f v fun I B q b2 u t d=>?_
 have k:=d.get0 b1;refine⟨_,rfl,B,eR (i:=2) b2,p.1,by rw[ci,bc k];rfl,p.2,by rw[ci,bc k];rfl,?_⟩
 refine Qj (u.sl fun _ _ _ h=>h) u.cap z v p fun s J j c=>?_
 have b3:=c.get0 b2;refine⟨_,rfl,WZ (i:=2) b3 (show 2<6 by decide),IY (i:=2) (c':=ge 0 0 s q true none) b3 rfl fun H C a=>?_⟩
 have N:=bB b2;have n:=j.upd a fun x hx e=>by have e:x=h1.size:=e;omega
 have m:=(t.upd c fun _ _ h=>h).upd a fun x hx e=>by have e:x=h1.size:=e;omega
 refine G H h1.size ⟨⟨s,q,none,C,n.sl fun x hx _ g=>?_,m.sl fun x hx _ g=>?_,j.cap,t.cap⟩,fun g=>?_⟩ (((k1.tr d).tr c).trans a fun x hx=>.inr ?_)
 ·have:=o x g;have:=d.size;omega
 ·have:=o x g;omega
 ·have:=o _ g;omega
 ·have hx:x=h1.size:=hx
  omega
theorem T0{W:Nat→Prop}{h:ad}(b:∀x,W x→x<h.size){K:Option Addr→ad→Prop}(a:∀h' b',BuckAt W h' b' []→Upd No h h'→K (some ⟨b',0,none⟩) h'):HC PG vO [] [.c .ptr] K h:=by
 refine Jt ?_;unfold Bh;exact a _ _ ⟨⟨⟨none,0,0⟩,⟨none,0,0⟩,none,bI h _ _,Sl.nil fR,Sl.nil tC,av _,av _⟩,fun hx=>kf _ (b _ hx)⟩ (Upd.hnew No h _ _)
theorem sP{W:Nat→Prop}{h:ad}(b:∀x,W x→x<h.size){K:Option Addr→ad→Prop}(a:∀h' b',NodeAt W h' b' ⟨fun _=>none,fun _=>none⟩→Upd No h h'→K (some ⟨b',0,none⟩) h'):HC PG pL [] [.c .ptr] K h:=by
 refine Mw ?_;unfold DN Ur;have e1:fm (fun _=>(none:Option Pr)) 32= []:=by simp[fm]
 have e2:fm (fun _=>(none:Option (Option Addr))) 32= []:=by simp[fm]
 refine a _ _ ⟨⟨0,0,⟨none,0,0⟩,⟨none,0,0⟩,none,bI h _ _,⟨by decide,by decide,fun c _=>by simp,fun c _=>by simp⟩,?_,?_,av _,av _⟩,fun hx=>kf _ (b _ hx)⟩ (Upd.hnew No h _ _)
 ·show Sl iZ 2 W _ _ (fm (fun _=>none) 32)
  rw[e1];exact Sl.nil fR
 ·show Sl uB 1 W _ _ (fm (fun _=>none) 32)
  rw[e2];exact Sl.nil tC
end Go.Proofs
namespace Go.Proofs
open Go.Lift
def km(p:Pr):List Pr→List Pr
 | []=> [p]
 |q::l=>if kl q.1 p.1 then q::km p l else if q.1=p.1 then p::l else p::q::l
theorem na(p q:Pr)(l:List Pr):km p (q::l)=if kl q.1 p.1 then q::km p l else if q.1=p.1 then p::l else p::q::l:=rfl
theorem Gy(p:Pr):∀{l:List Pr},fe l→LP l p=km p l
 | [],_=>by simp[LP,km,pos,cG]
 |q::l,d=>by
  have d:=cf.1 d;unfold km;have a:pos (q::l) p.1=if kl q.1 p.1 then pos l p.1+1 else 0:=by
   unfold pos;rw[List.takeWhile_cons];by_cases h:kl q.1 p.1
   ·rw[if_pos (by simpa using h),if_pos h];rfl
   ·rw[if_neg (by simpa using h),if_neg h];rfl
  have c:cG (q::l) p.1=(decide (q.1=p.1)||cG l p.1):=by unfold cG;rw[List.any_cons]
  by_cases h:kl q.1 p.1
  ·have g:q.1≠p.1:=fun e=>by rw[e]at h;exact fw _ h
   rw[if_pos h,←Gy p d.2];unfold LP;rw[c,a,if_pos h,decide_eq_false g,Bool.false_or];by_cases b:cG l p.1=true
   ·rw[if_pos b,if_pos b];rfl
   ·rw[if_neg b,if_neg b];rfl
  ·rw[if_neg h]
   unfold LP;rw[c,a,if_neg h];by_cases e:q.1=p.1
   ·rw[if_pos e,decide_eq_true e,Bool.true_or,if_pos rfl];rfl
   ·have f:=Hv h e
    have b:cG l p.1=false:=by
     unfold cG;rw[List.any_eq_false];intro r i e2;have e2:=of_decide_eq_true e2;have:=d.1 r i;rw[e2]at this;exact fw _ (rk f this)
    rw[if_neg e,decide_eq_false e,b];rfl
theorem CM{p q:Pr}:∀{l:List Pr},q∈km p l→q=p∨q∈l
 | [],h=>by simp[km]at h;exact .inl h
 |r::l,h=>by
  unfold km at h;split at h
  ·rcases ar.1 h with h|h
   ·exact .inr (h▸aP ..)
   ·exact(CM h).imp id fun h=>aK _ h
  ·split at h
   ·rcases ar.1 h with h|h
    ·exact .inl h
    ·exact .inr (aK _ h)
   ·rcases ar.1 h with h|h
    ·exact .inl h
    ·exact .inr h
theorem JU(p:Pr):∀{l:List Pr},fe l→fe (km p l)
 | [],_=>List.pairwise_singleton ..
 |q::l,a=>by
  have c:=a;have a:=cf.1 a;unfold km;split
  ·rename_i h
   refine cf.2 ⟨fun r hm=>?_,JU p a.2⟩
   rcases CM hm with rfl|hm
   ·exact h
   ·exact a.1 r hm
  ·rename_i h
   split
   ·rename_i e
    exact cf.2 ⟨fun r hm=>e▸a.1 r hm,a.2⟩
   ·rename_i e
    have b:=Hv h e;refine cf.2 ⟨fun r hm=>?_,c⟩
    rcases ar.1 hm with rfl|hm
    ·exact b
    ·exact rk b (a.1 r hm)
theorem HO(p:Pr)(g:ByteArray→Bool):∀{l:List Pr},fe l→(km p l).filter (fun q=>g q.1)=if g p.1 then km p (l.filter fun q=>g q.1)else l.filter fun q=>g q.1
 | [],_=>by
  unfold km;rw[dG,List.filter_nil]
 |q::l,d=>by
  have k:=d;have d:=cf.1 d;have j:=HO p g d.2;rw[na];by_cases h:kl q.1 p.1
  ·rw[if_pos h,dG,dG,j]
   by_cases f:g q.1=true
   ·rw[if_pos f,if_pos f]
    split
    ·rw[na,if_pos h]
    ·rfl
   ·rw[if_neg f,if_neg f]
  ·rw[if_neg h]
   by_cases e:q.1=p.1
   ·rw[if_pos e,dG,dG,e]
    by_cases a:g p.1=true
    ·rw[if_pos a,if_pos a,if_pos a,na,if_neg h,if_pos e]
    ·rw[if_neg a,if_neg a,if_neg a]
   ·rw[if_neg e]
    have c:=Hv h e;rw[dG];by_cases a:g p.1=true
    ·rw[if_pos a,if_pos a]
     have:∀r∈(q::l).filter (fun q=>g q.1),kl p.1 r.1:=fun r hm=>by
      rcases ar.1 (List.mem_filter.1 hm).1 with rfl|hm
      ·exact c
      ·exact rk c (d.1 r hm)
     cases hf:(q::l).filter (fun q=>g q.1)with
     |nil=>rfl
     |cons r rs=>
      have b:=this r (by rw[hf];exact aP ..);rw[na,if_neg fun i=>fw _ (rk b i),if_neg fun e=>by rw[e]at b;exact fw _ b]
    ·rw[if_neg a,if_neg a]
theorem Gx{p:Pr}:∀{l:List Pr},fe l→p∈l→km p l=l
 |q::l,a,hm=>by
  have a:=cf.1 a;unfold km;rcases ar.1 hm with rfl|hm
  ·rw[if_neg (fw _),if_pos rfl]
  ·rw[if_pos (a.1 p hm),Gx a.2 hm]
def ck(x:Hs)(lev:Nat)(k:ByteArray):Nat:=((jU x k).toNat>>>(5*lev))%32
theorem H7(x:Hs)(lev:Nat)(k:ByteArray):ck x lev k<32:=ur _ (by omega)
def part(x:Hs)(lev c:Nat)(l:List Pr):List Pr:=l.filter fun p=>decide (ck x lev p.1=c)
def TrieAt(W:Nat→Prop)(x:Hs)(h:ad):Nat→Nat→List Pr→Prop
 |0,b,l=>BuckAt W h b l
 |m+1,b,l=>∃s,NodeAt W h b s∧∀c,c<32→
  ((part x (12-m) c l= []∧s.p c=none∧s.k c=none)∨(∃p,part x (12-m) c l= [p]∧s.p c=some p∧s.k c=none)∨
   (2≤(part x (12-m) c l).length∧s.p c=none∧∃kb,s.k c=some (some ⟨kb,0,none⟩)∧TrieAt W x h m kb (part x (12-m) c l)))
theorem TrieAt.upd0{W:Nat→Prop}{x:Hs}{h h':ad}(k:Upd No h h'):∀{m b:Nat} {l:List Pr},TrieAt W x h m b l→TrieAt W x h' m b l
 |0,_,_,t=>BuckAt.upd t k fun _ h=>h.elim
 |_+1,_,_,⟨s,nd,hc⟩=>⟨s,nd.upd k fun _ h=>h.elim,fun c a=>(hc c a).imp id fun o=>o.imp id fun⟨e,d,g,f,i⟩=>⟨e,d,g,f,TrieAt.upd0 k i⟩⟩
theorem NodeAt.less{W W':Nat→Prop}{h:ad}{b:Nat}{s:Slots}(n:NodeAt W h b s)(hm:∀b,W' b→W b∨h.size≤b):NodeAt W' h b s:=by
 obtain⟨d,m,sp,sk,ow,a,c,f,g,i,e⟩:=n.ex;exact⟨⟨d,m,sp,sk,ow,a,c,f.less hm,g.less hm,i,e⟩,fun hx=>(hm _ hx).elim n.nw fun h=>by have:=bB a;omega⟩
theorem BuckAt.less{W W':Nat→Prop}{h:ad}{b:Nat}{l:List Pr}(n:BuckAt W h b l)(hm:∀b,W' b→W b∨h.size≤b):BuckAt W' h b l:=by
 obtain⟨sp,sk,ow,a,d,e,f,c⟩:=n.ex;exact⟨⟨sp,sk,ow,a,d.less hm,e.less hm,f,c⟩,fun hx=>(hm _ hx).elim n.nw fun h=>by have:=bB a;omega⟩
theorem TrieAt.less{W W':Nat→Prop}{x:Hs}{h:ad}(hm:∀b,W' b→W b∨h.size≤b):∀{m b:Nat} {l:List Pr},TrieAt W x h m b l→TrieAt W' x h m b l
 |0,_,_,t=>BuckAt.less t hm
 |_+1,_,_,⟨s,nd,hc⟩=>⟨s,nd.less hm,fun c a=>(hc c a).imp id fun o=>o.imp id fun⟨e,d,g,f,i⟩=>⟨e,d,g,f,TrieAt.less hm i⟩⟩
theorem TrieAt.updM{W M:Nat→Prop}{x:Hs}{h h':ad}(k:Upd M h h')(hm:∀b,M b→W b∨h.size≤b):∀{m b:Nat} {l:List Pr},TrieAt W x h m b l→TrieAt W x h' m b l
 |0,_,_,t=>BuckAt.upd t k hm
 |_+1,_,_,⟨s,nd,hc⟩=>⟨s,nd.upd k hm,fun c a=>(hc c a).imp id fun o=>o.imp id fun⟨e,d,g,f,i⟩=>⟨e,d,g,f,TrieAt.updM k hm i⟩⟩
end Go.Proofs
