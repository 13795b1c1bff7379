/- A part of the proof that the named laws of this program answer true, whatever the input. -/
import Derived.Test.YtopdngagmfanlaaGreatDoorPart0
open BitVec renaming ofInt→ao,ofInt_natCast→lX,getLsbD_ofNat→lY
open Go.IntKind renaming wrap→ac,bits→af
open Int renaming fdiv→fK,toNat_natCast→ai
open List renaming length_append→ah,replicate→bO,replicate_succ→gV,flatMap_cons→bD,length_cons→aG,flatten_cons→jn,flatten_nil→p5,getElem?_eq_getElem→ag,length→ia,take_of_length_le→bI,length_drop→aR,length_take→aL,range→ee,range_add→tJ,mem_range→iv,mem_cons_self→aU,mem_cons_of_mem→bj,filterMap_append→pB,take_left'→cK,drop_left'→cp,drop_drop→cU,append_assoc→aH,pairwise_cons→bS,mem_cons→aA,filter_cons→dy
open Nat renaming le_refl→ax,zero_le→be,le_trans→bH,shiftRight_eq_div_pow→mF,lt_of_le_of_lt→gl,min_eq_left→bQ,shiftRight_le→pk,mod_eq_of_lt→ii,mod_lt→pZ,testBit_lt_two_pow→pi,lt_of_lt_of_le→aF,zero_add→aI,le_of_eq→fg,lt_irrefl→jw
open UInt8 renaming ofNat→cG
namespace Go.Proofs
open Go.Lift
theorem OwnS.zero{α:Type}{f:α→List Value}{c:Nat}{t:TypeId}{M:Nat→Prop}{h:ad}{s:SliceV}{xs:List α}(d:OwnS f c t M h s xs):OwnS f c t M h ⟨aN s.a 0 s.cap c,0-0,s.cap-0⟩ []:=by
 have i:∀x,(f x).length=c∧0<c:=d.ne;have e:=d.len;have g:=d.cap;refine⟨rfl,i,by simp only;omega,?_⟩
 rcases d.blk with n|⟨b,a,k,j,hc,m⟩
 ·exact .inl (by simp only;omega)
 ·refine .inr ⟨b,xs.flatMap f++a,by rw[k,sub_zero],j,hc,?_⟩
  rw[ah,jj i,m,←Nat.add_mul];simp only;congr 1;omega
def OO:Pr:=(⟨#[]⟩,⟨#[]⟩)
theorem OM(n:Nat):de n [.string (⟨#[]⟩:ByteArray),.string (⟨#[]⟩:ByteArray)]=(bO n OO).flatMap kK:=by
 unfold de;induction n with
 |zero=>rfl
 |succ n ih=>rw[gV,gV,bD,←ih];rfl
theorem UG{n:Nat}(c:n*32≤140737488355328){h:ad}{K:SliceV→ad→Prop}(a:∀s' h',OwnS kK 2 au (fun b=>h.size≤b) h' s' []→Upd No h h'→K s' h'):
  HC PG fa [.slice none 0 0,.int .i64 n] [.c .slice] K h:=by
 refine ng ⟨none,0,0⟩ n ?_;unfold hT rV;have e:ac .i64 ((n:Int)-ac .i64 (((0:Nat):Int)-((0:Nat):Int)))=(n:Int):=by rw[lz (x:=((0:Nat):Int)-((0:Nat):Int)) (by omega),lz (by omega)];omega
 refine Join.plain (aK (fun h=>by omega) fun _=>?_)
 simp only[Bd];rw[e];refine aK (fun k=>?_) fun j=>a _ _ (OwnS.nil ko) (Upd.refl _ _)
 refine⟨by omega,⟨by omega,by omega,by omega,by omega⟩,?_⟩
 refine AppP.own (f:=kK) (M:=fun b=>h.size≤b) (xs:= []) (ys:=bO n OO) (OwnS.nil ko) (by simp) (OM _) (by rw[OM];exact yD _) rfl (by omega) (by simpa using c) (ax _) fun s' h' i g=>?_
 exact⟨by omega,a _ _ (OwnS.zero i) (g.mono fun b d=>.inr d)⟩
abbrev XL(s:SliceV):List Value:= [.slice s.a s.len s.cap]
def ParS(h:ad):List SliceV→List (List Pr)→Prop
 | [],[]=>True
 |v::vs,l::ls=>Sl kK 2 No h v l∧ParS h vs ls
 |_,_=>False
theorem ParS.upd{h h':ad}(k:Upd No h h'):∀{vs:List SliceV} {ls:List (List Pr)},ParS h vs ls→ParS h' vs ls
 | [],[],_=>trivial
 |_::_,_::_,q=>⟨q.1.upd k fun _ h=>h.elim,ParS.upd k q.2⟩
 | [],_::_,q=>q.elim
 |_::_,[],q=>q.elim
theorem ParS.len{h:ad}:∀{vs:List SliceV} {ls:List (List Pr)},ParS h vs ls→vs.length=ls.length
 | [],[],_=>rfl
 |_::_,_::_,q=>by rw[aG,aG,ParS.len q.2]
 | [],_::_,q=>q.elim
 |_::_,[],q=>q.elim
theorem ParS.at{h:ad}:∀{vs:List SliceV} {ls:List (List Pr)},ParS h vs ls→∀{i:Nat} (h1:i<vs.length) (h2:i<ls.length),Sl kK 2 No h vs[i] ls[i]
 |_::_,_::_,q,0,_,_=>q.1
 |_::_,_::_,q,i+1,h1,h2=>ParS.at q.2 (by simpa using h1) (by simpa using h2)
theorem IW(ls:List (List Pr)){i:Nat}(hi:i<ls.length):(ls.take (i+1)).flatten=(ls.take i).flatten++ls[i]:=by
 rw[List.take_succ_eq_append_getElem hi,List.flatten_append,jn,p5,List.append_nil]
theorem Pk(ls:List (List Pr))(i:Nat):(ls.take i).flatten.length≤ls.flatten.length:=by
 have:ls.flatten=(ls.take i).flatten++(ls.drop i).flatten:=by rw[←List.flatten_append,List.take_append_drop]
 rw[this,ah];omega
theorem I0{h:ad}{s:SliceV}{vs:List SliceV}{ls:List (List Pr)}(B:Sl XL 1 No h s vs)(u:ParS h vs ls)(E:ls.flatten.length*32≤140737488355328)(R:vs.length≤1000)
  {K:SliceV→ad→Prop}(N:∀s' h',OwnS kK 2 au (fun b=>h.size≤b) h' s' ls.flatten→Upd No h h'→K s' h'):HC PG dC [.slice s.a s.len s.cap] [.c .slice] K h:=by
 refine mw s ?_;unfold gI bL dE rV;have D:=B.len;have d:=u.len;refine LoopP.ghost (fun(i:Nat) (t:Int×Int) h'=>t.2=(i:Int)∧i≤vs.length∧t.1=((ls.take i).flatten.length:Int)∧h'=h) (fun i=>vs.length-i) 0 ⟨rfl,be _,by simp,rfl⟩ ?_
 rintro I i ⟨T,P⟩ h' ⟨e1,hi,e2,rfl⟩ L;simp only at e1 e2;subst e1 e2;refine aK (fun c=>?_) fun A=>?_
 ·have c:i<vs.length:=by have:(i:Int)<(s.len:Int):=c;omega
  obtain⟨a,p,_,f⟩:=B.at (ag c);have F:=(u.at c (d▸c)).len;have e:=congrArg ia (IW ls (d▸c));rw[ah]at e;have w:=Pk ls (i+1);refine Join.plain ⟨by simp only;omega,a,p,_,f 0 _ rfl,?_⟩;simp only;have O:ac .i64 (((ls.take i).flatten.length:Int)+((vs[i]).len:Int))=((ls.take (i+1)).flatten.length:Int):=by rw[lz (by omega)];omega
  rw[O];refine aK (fun h=>by omega) fun _=>?_
  rw[dw c (by omega)];exact L (i+1) _ _ ⟨rfl,c,rfl,rfl⟩ (by omega)
 ·have J:i=vs.length:=by have:¬(i:Int)<(s.len:Int):=A;omega
  rw[bI (by omega)];refine UG E fun U W z q=>?_
  refine LoopP.ghost (fun(i:Nat) (t:SliceV×Int) x=>t.2=(i:Int)∧i≤vs.length∧OwnS kK 2 au (fun b=>h'.size≤b) x t.1 (ls.take i).flatten∧Upd No h' x) (fun i=>vs.length-i) 0 ⟨rfl,be _,by simpa using z,q⟩ ?_
  rintro Y j ⟨V,S⟩ x ⟨e1,X,o,k⟩ v;simp only at e1 o;subst e1;refine aK (fun c=>?_) fun g=>?_
  ·have c:j<vs.length:=by have:(j:Int)<(s.len:Int):=c;omega
   obtain⟨a,p,_,f⟩:=(B.upd k fun _ h=>h.elim).at (ag c)
   have m:=((u.upd k).at c (d▸c));have e:=IW ls (d▸c);have n:=congrArg ia e;rw[ah]at n;have w:=Pk ls (j+1);refine Join.plain ⟨by simp only;omega,a,p,_,f 0 _ rfl,_,m.srow,?_⟩;refine AppP.own (ys:=ls[j]) o m.len rfl (yD _) rfl (by omega) (by omega) k.size fun Q Z C y=>?_
   simp only;rw[dw c (by omega)];exact v (j+1) _ _ ⟨rfl,c,e▸C,k.trans y fun b G=>.inr G⟩ (by omega)
  ·have H:j=vs.length:=by have:¬(j:Int)<(s.len:Int):=g;omega
   rw[bI (by omega)]at o;exact N _ _ o k
def JS(l:List Pr)(p:Pr):List Pr:=l.take (pos l p.1)++p::l.drop (if cu l p.1 then pos l p.1+1 else pos l p.1)
def Qu(l:List Pr)(k:ByteArray):List Pr:=if cu l k then l.take (pos l k)++l.drop (pos l k+1)else l
theorem JF{l:List Pr}(g:eH l){k:ByteArray}(b:cu l k=true):∃h:pos l k<l.length,l[pos l k].1=k:=by
 unfold cu at b;obtain⟨p,d,e⟩:=List.any_eq_true.1 b;have e:=of_decide_eq_true e;obtain⟨q,c,rfl⟩:=List.mem_iff_getElem.1 d;have:pos l k=q:=Sf (by omega) (fun j f a=>by rw[←e];exact List.pairwise_iff_getElem.1 g j q f c a) fun h=>by rw[←e];exact eN _
 subst this;exact⟨c,e⟩
theorem Jq{h:ad}{s:SliceV}{l:List Pr}(b:Sl kK 2 No h s l){i j m:Nat}(a:i≤j)(d:j≤l.length)(e:j≤m)(c:Nat):Sl kK 2 No h ⟨aN s.a i m 2,j-i,c⟩ ((l.drop i).take (j-i)):=Sl.sub b a d e
theorem NC{h:ad}{s:SliceV}{l:List Pr}(y:Sl kK 2 No h s l)(hc:s.len≤s.cap)(w:eH l)(E:l.length≤1000000000)(p:Pr)
  {K:SliceV→ad→Prop}(N:∀s' h',OwnS kK 2 au (fun b=>h.size≤b) h' s' (JS l p)→Upd No h h'→K s' h'):HC PG Au [.slice s.a s.len s.cap,.agg #[.string p.1,.string p.2]] [.c .slice] K h:=by
 refine Oy s p ?_;unfold GX aq kf A0 El;have g:=y.len;have k1:=Upd.hnew No h [.string p.1,.string p.2] au;have b1:=bG h [.string p.1,.string p.2] au;refine aY ?_;simp only[cV h];generalize hnew h [.string p.1,.string p.2] au=h1 at k1 b1;refine⟨p.1,by rw[cc,aP b1];rfl,JY (y.upd k1 fun _ h=>h.elim) w E p.1 fun J d=>?_⟩
 have A:=Sg l p.1;have a:=k1.tr d;refine⟨by simp only;omega,?_⟩;let q:=if cu l p.1 then pos l p.1+1 else pos l p.1
 have O:q≤l.length:=by
  show(if cu l p.1 then pos l p.1+1 else pos l p.1)≤l.length
  split
  ·rename_i ht;obtain⟨h,_⟩:=JF w ht;omega
  ·exact A
 refine Join.intro (fun t h'=>h'=J∧t=⟨aN s.a q s.cap 2,s.len-q,s.cap-q⟩) (fun R C=>?_) ?_
 ·refine CondP.intro (fun e=>?_) fun e=>C _ _ ⟨rfl,?_⟩
  ·have e:cu l p.1=true:=e
   obtain⟨F,_⟩:=JF w e;have P:ac .i64 ((pos l p.1:Int)+1)=((pos l p.1+1:Nat):Int):=by rw[lz (by omega)];omega
   simp only;rw[P];refine⟨by omega,C _ _ ⟨rfl,?_⟩⟩;have:q=pos l p.1+1:=by show(if cu l p.1 then _ else _)=_;rw[if_pos e]
   rw[this];rfl
  ·have e:cu l p.1=false:=e
   have:q=pos l p.1:=by show(if cu l p.1 then _ else _)=_;rw[if_neg (by rw[e];decide)]
   rw[this];rfl
 ·rintro t h' ⟨rfl,rfl⟩
  have b2:=d.get0 b1;refine⟨by simp only;omega,p.1,by rw[cc,aP b2];rfl,p.2,by rw[cc,aP b2];rfl,?_⟩
  have z:=Upd.hnew No h' [.string p.1,.string p.2] au;have b3:=bG h' [.string p.1,.string p.2] au;refine aY ?_;simp only[cV h'];generalize hnew h' [.string p.1,.string p.2] au=h3 at z b3;refine aY ?_;have c:=(y.upd a fun _ h=>h.elim).upd z fun _ h=>h.elim
  have k:=Upd.hnew No h3 [.slice (aN s.a 0 s.cap 2) ((pos l p.1:Int).toNat-0) (s.cap-0),.slice (some ⟨h'.size,0,none⟩) 1 1,.slice (aN s.a q s.cap 2) (s.len-q) (s.cap-q)] dY;have L:=bG h3 [.slice (aN s.a 0 s.cap 2) ((pos l p.1:Int).toNat-0) (s.cap-0),.slice (some ⟨h'.size,0,none⟩) 1 1,.slice (aN s.a q s.cap 2) (s.len-q) (s.cap-q)] dY;have D:=Jq c (i:=0) (j:=pos l p.1) (m:=s.cap) (be _) A (by omega) (s.cap-0)
  have I:Sl kK 2 No h3 ⟨some ⟨h'.size,0,none⟩,1,1⟩ [p]:=⟨rfl,ko,fun _=>⟨_,rfl,fun h=>h.elim,qc b3 fun i v n=>by simpa using n⟩⟩
  have u:=Jq c (i:=q) (j:=l.length) (m:=s.cap) O (ax _) (by omega) (s.cap-q);rw[←g]at u;rw[List.drop_zero]at D;rw[bI (by rw[aR];omega)]at u;have H:JS l p= [l.take (pos l p.1-0),[p],l.drop q].flatten:=by simp[JS,q]
  refine I0 (s:=⟨some (aJ h3),3,3⟩) (vs:= [⟨aN s.a 0 s.cap 2,(pos l p.1:Int).toNat-0,s.cap-0⟩,⟨some ⟨h'.size,0,none⟩,1,1⟩,⟨aN s.a q s.cap 2,s.len-q,s.cap-q⟩]) (ls:= [l.take (pos l p.1-0),[p],l.drop q])
   ⟨rfl,fun x=>⟨rfl,Nat.one_pos⟩,fun _=>⟨_,rfl,fun h=>h.elim,qc L fun i v n=>by simpa[XL]using n⟩⟩ ⟨D.upd k fun _ h=>h.elim,I.upd k fun _ h=>h.elim,u.upd k fun _ h=>h.elim,trivial⟩ ?_ (by simp) fun S Q f o=>?_
  ·simp only[jn,p5,ah,aL,aR,List.length_singleton,List.length_nil];omega
  ·rw[←H]at f
   have B:=((a.tr z).tr k);exact N _ _ (f.more fun b G=>bH B.size G) (B.tr o)
end Go.Proofs
namespace Go.Proofs
open Go.Lift
def vS(n d:Nat):Nat:=(ee n).countP (d.testBit ·)
theorem E5(m n d:Nat):vS (m+n) d=vS m d+vS n (d>>>m):=by
 unfold vS;rw[tJ,List.countP_append,List.countP_map];congr 1
 refine List.countP_congr fun i _=>?_
 simp[Nat.testBit_shiftRight]
theorem Pn(d:Nat)(i:Nat):∀n,i≤n→vS n (d&&&(2^i-1))=vS i d:=by
 intro n a;obtain⟨m,rfl⟩:=Nat.exists_eq_add_of_le a;rw[E5];have e1:vS i (d&&&(2^i-1))=vS i d:=by
  unfold vS;refine List.countP_congr fun j b=>?_
  have:=iv.1 b;simp[this]
 have e2:vS m ((d&&&(2^i-1))>>>i)=0:=by
  unfold vS;rw[List.countP_eq_zero];intro j _;simp[Nat.testBit_shiftRight];intro h;omega
 omega
theorem V6(d:Nat):vS 8 (d&&&255)=vS 8 d:=Pn d 8 8 (ax _)
theorem AA(n d:Nat):vS n d≤n:=by
 have:=List.countP_le_length (p:=(d.testBit ·)) (l:=ee n)
 simpa[vS]using this
theorem sL(d n:Nat):fK (d:Int) (2^n)=((d>>>n:Nat):Int):=by
 rw[Int.fdiv_eq_ediv_of_nonneg _ (by exact Int.le_of_lt (Int.pow_pos (by decide))),mF];simp
theorem TA(a b:Nat):(ao (af .u32) (a:Int)&&&ao (af .u32) (b:Int)).toNat=(a%4294967296)&&&(b%4294967296):=by
 simp[af];rfl
theorem A4{n:Nat}(h:n<4294967296):ac .u32 (n:Int)=(n:Int):=Go.IntWalk.u32_in _ (by omega)
theorem FH{i:Nat}(hi:i<32){h:ad}{K:Bool→ad→Prop}(a:K true h):HC PG na [.int .i64 i] [.c .bool] K h:=by
 refine HU i ?_;unfold zU;refine aK (fun _=>?_) fun h=>absurd (Int.natCast_nonneg i) h
 rw[decide_eq_true (by omega)];exact a
theorem Ko{a b:Nat}(h:b<4294967296):a&&&b<4294967296:=gl Nat.and_le_right h
theorem C3{d i:Nat}(hd:d<4294967296)(hi:i<32){h:ad}{K:Bool→ad→Prop}(b:K (d.testBit i) h):HC PG fo [.int .u32 d,.int .i64 i] [.c .bool] K h:=by
 refine Du d i ?_;unfold vO;refine FH hi (aB.2 ⟨by omega,?_⟩);have e:min (i:Int).toNat (af .u32)=i:=by rw[ai];exact bQ (by show i≤32;omega)
 rw[e,sL];have e2:=TA (d>>>i) 1;have a:d>>>i<4294967296:=gl (pk d i) hd;rw[ii a,show(1:Nat)%4294967296=1 from rfl]at e2
 simp only[Bd];rw[show((1:Nat):Int)=(1:Int)from rfl]at e2
 rw[e2,A4 (Ko (by omega))];have c:(((d>>>i&&&1:Nat):Int)==(1:Int))=d.testBit i:=by
  rw[Bool.eq_iff_iff,beq_iff_eq,Nat.testBit,Nat.and_comm];simp only[bne_iff_ne,ne_eq,Nat.one_and_eq_mod_two];have:(d>>>i)%2<2:=pZ _ (by omega);omega
 rw[c];exact b
theorem QH{d i:Nat}(hd:d<4294967296)(hi:i<32):∃w:Nat,ac .u32 (ao (af .u32) (d:Int)|||ao (af .u32) (ac .u32 (1*2^(min (i:Int).toNat (af .u32))))).toNat=(w:Int)∧w<4294967296∧∀j,w.testBit j=(d.testBit j||decide (j=i)):=by
 have e:min (i:Int).toNat (af .u32)=i:=by rw[ai];exact bQ (by show i≤32;omega)
 have f:2^i<4294967296:=Nat.pow_lt_pow_right (by omega) (show i<32 from hi)
 have e2:(1*2^i:Int)=((2^i:Nat):Int):=by simp
 rw[e,e2,A4 f];refine⟨_,A4 (BitVec.isLt _),BitVec.isLt _,fun j=>?_⟩
 rw[BitVec.testBit_toNat,BitVec.getLsbD_or,lX,lX,lY,lY,Nat.testBit_two_pow];by_cases a:j<32
 ·have:decide (j<af .u32)=true:=decide_eq_true a
  rw[this];simp[eq_comm]
 ·have b:decide (j<af .u32)=false:=decide_eq_false a
  have c:d.testBit j=false:=pi (aF hd (Nat.pow_le_pow_right (n:=2) (by omega) (show 32≤j by omega)))
  rw[b,c];simp;omega
theorem OU{d i:Nat}(hd:d<4294967296)(hi:i<32){h:ad}{K:Int→ad→Prop}(b:∀w:Nat,w<4294967296→(∀j,w.testBit j=(d.testBit j||decide (j=i)))→K (w:Int) h):HC PG eX [.int .u32 d,.int .i64 i] [.c (.int .u32)] K h:=by
 refine Ce d i ?_;unfold uE;refine FH hi (aj.2 ⟨by omega,?_⟩);obtain⟨w,e,a,c⟩:=QH hd hi;simp only[Bd];rw[e];exact b w a c
theorem Kk{d i:Nat}(hd:d<4294967296)(hi:i<32):∃w:Nat,ac .u32 (ao (af .u32) (d:Int)&&& ~~~ao (af .u32) (ac .u32 (1*2^(min (i:Int).toNat (af .u32))))).toNat=(w:Int)∧w<4294967296∧∀j,w.testBit j=(d.testBit j&&decide (j≠i)):=by
 have e:min (i:Int).toNat (af .u32)=i:=by rw[ai];exact bQ (by show i≤32;omega)
 have f:2^i<4294967296:=Nat.pow_lt_pow_right (by omega) (show i<32 from hi)
 have e2:(1*2^i:Int)=((2^i:Nat):Int):=by simp
 rw[e,e2,A4 f];refine⟨_,A4 (BitVec.isLt _),BitVec.isLt _,fun j=>?_⟩
 rw[BitVec.testBit_toNat,BitVec.getLsbD_and,BitVec.getLsbD_not,lX,lX,lY,lY,Nat.testBit_two_pow];by_cases a:j<32
 ·have:decide (j<af .u32)=true:=decide_eq_true a
  rw[this];simp[eq_comm]
 ·have b:decide (j<af .u32)=false:=decide_eq_false a
  have c:d.testBit j=false:=pi (aF hd (Nat.pow_le_pow_right (n:=2) (by omega) (show 32≤j by omega)))
  rw[b,c];simp
theorem E9{d i:Nat}(hd:d<4294967296)(hi:i<32){h:ad}{K:Int→ad→Prop}(b:∀w:Nat,w<4294967296→(∀j,w.testBit j=(d.testBit j&&decide (j≠i)))→K (w:Int) h):HC PG jg [.int .u32 d,.int .i64 i] [.c (.int .u32)] K h:=by
 refine yp d i ?_;unfold qZ;refine FH hi (aj.2 ⟨by omega,?_⟩);obtain⟨w,e,a,c⟩:=Kk hd hi;simp only[Bd];rw[e];exact b w a c
abbrev WG:ByteArray:=⟨#[0,1,1,2,1,2,2,3,1,2,2,3,2,3,3,4,1,2,2,3,2,3,3,4,2,3,3,4,3,4,4,5,1,2,2,3,2,3,3,4,2,3,3,4,3,4,4,5,2,3,3,4,3,4,4,5,3,4,4,5,4,5,5,6,1,2,2,3,2,3,3,4,2,3,3,4,3,4,4,5,2,3,3,4,3,4,4,5,3,4,4,5,4,5,5,6,2,3,3,4,3,4,4,5,3,4,4,5,4,5,5,6,3,4,4,5,4,5,5,6,4,5,5,6,5,6,6,7,1,2,2,3,2,3,3,4,2,3,3,4,3,4,4,5,2,3,3,4,3,4,4,5,3,4,4,5,4,5,5,6,2,3,3,4,3,4,4,5,3,4,4,5,4,5,5,6,3,4,4,5,4,5,5,6,4,5,5,6,5,6,6,7,2,3,3,4,3,4,4,5,3,4,4,5,4,5,5,6,3,4,4,5,4,5,5,6,4,5,5,6,5,6,6,7,3,4,4,5,4,5,5,6,4,5,5,6,5,6,6,7,4,5,5,6,5,6,6,7,5,6,6,7,6,7,7,8]⟩
theorem T4:(ee 256).all (fun b=>decide (WG[b]? =some (cG (vS 8 b))))=true:=by decide+kernel
theorem Jn{b:Nat}(h:b<256):WG[b]? =some (cG (vS 8 b)):=of_decide_eq_true (List.all_eq_true.1 T4 b (iv.2 h))
theorem Kd(b:Nat):(cG (vS 8 b)).toNat=vS 8 b:=by
 have:=AA 8 b;simp;omega
theorem Yc(d:Nat):vS 32 d=vS 8 (d>>>24)+vS 8 ((d>>>16)&&&255)+vS 8 ((d>>>8)&&&255)+vS 8 (d&&&255):=by
 rw[V6,V6,V6,show(32:Nat)=8+(8+(8+8))from rfl,E5,E5,E5]
 simp only[←Nat.shiftRight_add,Nat.reduceAdd];omega
set_option maxRecDepth 100000 in
theorem Ur{d:Nat}(hd:d<4294967296){h:ad}{K:Int→ad→Prop}(j:K (vS 32 d:Int) h):HC PG jL [.int .u32 d] [.c (.int .i64)] K h:=by
 refine vA d ?_;unfold nZ;have g:fK (d:Int) (2^(min (24:Int).toNat (af .u32)))=((d>>>24:Nat):Int):=sL d 24;have i:fK (d:Int) (2^(min (16:Int).toNat (af .u32)))=((d>>>16:Nat):Int):=sL d 16;have k:fK (d:Int) (2^(min (8:Int).toNat (af .u32)))=((d>>>8:Nat):Int):=sL d 8;have b:∀x:Nat,x<4294967296→ac .u32 (ao (af .u32) (x:Int)&&&ao (af .u32) 255).toNat=((x&&&255:Nat):Int):=fun x hx=>by
  have:=TA x 255;rw[ii hx]at this;rw[show((255:Nat):Int)=(255:Int)from rfl]at this
  rw[this,A4 (Ko (by omega))]
 have f:d>>>24<256:=by rw[mF];omega
 have a:∀x:Nat,x&&&255<256:=fun x=>gl Nat.and_le_right (by omega)
 have c:d>>>16<4294967296:=gl (pk d 16) hd;have m:d>>>8<4294967296:=gl (pk d 8) hd;simp only[Bd];rw[g,i,k,b _ c,b _ m,b _ hd];refine⟨by decide,_,by omega,Jn (b:=d>>>24) f,by decide,_,by omega,Jn (a _),by decide,_,by omega,Jn (a _),_,by omega,Jn (a _),?_⟩
 rw[Kd,Kd,Kd,Kd];simp only[ai];have q:=AA 8 (d>>>24);have s:=AA 8 (d>>>16&&&255);have p:=AA 8 (d>>>8&&&255);have q4:=AA 8 (d&&&255);rw[Yc]at j;have e:∀n:Nat,n≤255→ac .u8 (n:Int)=(n:Int):=fun n o=>Go.IntWalk.u8_in _ (by omega)
 rw[←Int.natCast_add,e _ (by omega),←Int.natCast_add,e _ (by omega),←Int.natCast_add,e _ (by omega),lz (by omega)];exact j
theorem qg{d i:Nat}(hd:d<4294967296)(hi:i<32){h:ad}{K:Int→ad→Prop}(a:K (vS i d:Int) h):HC PG c8 [.int .u32 d,.int .i64 i] [.c (.int .i64)] K h:=by
 refine Cg d i ?_;unfold uF;refine aK (fun f=>?_) fun f=>?_
 ·have:i=0:=by omega
  subst this;exact a
 ·refine aK (fun h=>by omega) fun _=>⟨by omega,?_⟩
  have e:min (i:Int).toNat (af .u32)=i:=by rw[ai];exact bQ (by show i≤32;omega)
  have g:2^i<4294967296:=Nat.pow_lt_pow_right (by omega) (show i<32 from hi)
  have b:0<2^i:=Nat.pow_pos (by omega);have e2:(1*2^i:Int)=((2^i:Nat):Int):=by simp
  have c:(((2^i:Nat):Int)-1)=((2^i-1:Nat):Int):=by omega
  simp only[Bd];rw[e,e2,A4 g,c,A4 (show 2^i-1<4294967296 by omega),TA,ii hd,ii (show 2^i-1<4294967296 by omega),A4 (Ko (by omega))]
  refine AU _ ?_;unfold tF;refine Ur (Ko (by omega)) ?_;rw[Pn d i 32 (by omega)];exact a
end Go.Proofs
namespace Go.Proofs
open Go.Lift
def fm{β:Type}(g:Nat→Option β)(n:Nat):List β:=(ee n).filterMap g
def upd{β:Type}(g:Nat→Option β)(i:Nat)(x:Option β)(j:Nat):Option β:=if j=i then x else g j
theorem W9{β:Type}{f g:Nat→Option β}:∀l:List Nat,(∀j∈l,f j=g j)→l.filterMap f=l.filterMap g
 | [],_=>rfl
 |j::l,h=>by
  rw[List.filterMap_cons,List.filterMap_cons,h j (aU ..),W9 l fun k a=>h k (bj _ a)]
section
variable {β:Type} {g:Nat→Option β} {d:Nat}
theorem Ga(hd:∀c,c<32→d.testBit c=(g c).isSome){i:Nat}(hi:i≤32):(fm g i).length=vS i d:=by
 unfold fm vS;rw[List.length_filterMap_eq_countP];exact List.countP_congr fun j a=>by rw[hd j (by have:=iv.1 a;omega)]
theorem qE{i n:Nat}(hi:i<n):fm g n=fm g i++((g i).toList++(ee (n-(i+1))).filterMap fun j=>g (i+1+j)):=by
 unfold fm;have e:n=i+(1+(n-(i+1))):=by omega
 rw[e,tJ,pB,tJ];have e2:i+(1+(n-(i+1)))-(i+1)=n-(i+1):=by omega
 rw[e2];congr 1
 rw[List.map_append,pB,List.map_map];congr 1
 rw[List.filterMap_map];refine W9 _ fun j _=>?_
 show g (i+(1+j))=_
 rw[Nat.add_assoc]
theorem Aq{i:Nat}{x:Option β}:fm (upd g i x) i=fm g i:=by
 unfold fm;refine W9 _ fun j a=>?_
 have:=iv.1 a;unfold upd;rw[if_neg (by omega)]
theorem xG{i m:Nat}{x:Option β}:((ee m).filterMap fun j=>upd g i x (i+1+j))=(ee m).filterMap fun j=>g (i+1+j):=by
 refine W9 _ fun j _=>?_
 unfold upd;rw[if_neg (by omega)]
theorem SP{i:Nat}(hi:i<32)(hd:∀c,c<32→d.testBit c=(g c).isSome)(b:g i=none)(x:β):fm (upd g i (some x)) 32=(fm g 32).take (vS i d)++x::(fm g 32).drop (vS i d):=by
 have a:=Ga hd (i:=i) (by omega);rw[qE (g:=upd g i (some x)) hi,qE (g:=g) hi,Aq,xG,b,cK a,cp a];simp[upd]
theorem SO{i:Nat}(hi:i<32)(hd:∀c,c<32→d.testBit c=(g c).isSome){y:β}(b:g i=some y)(x:β):fm (upd g i (some x)) 32=(fm g 32).take (vS i d)++x::(fm g 32).drop (vS i d+1):=by
 have a:=Ga hd (i:=i) (by omega);rw[qE (g:=upd g i (some x)) hi,qE (g:=g) hi,Aq,xG,b,cK a,←cU,cp a];simp[upd]
theorem SQ{i:Nat}(hi:i<32)(hd:∀c,c<32→d.testBit c=(g c).isSome){y:β}(b:g i=some y):fm (upd g i none) 32=(fm g 32).take (vS i d)++(fm g 32).drop (vS i d+1):=by
 have a:=Ga hd (i:=i) (by omega);rw[qE (g:=upd g i none) hi,qE (g:=g) hi,Aq,xG,b,cK a,←cU,cp a];simp[upd]
theorem SR{i:Nat}(hi:i<32)(hd:∀c,c<32→d.testBit c=(g c).isSome){y:β}(a:g i=some y):(fm g 32)[vS i d]? =some y:=by
 have b:=Ga hd (i:=i) (by omega);rw[qE (g:=g) hi,a,List.getElem?_append_right (by omega),b,Nat.sub_self];rfl
theorem IV{i:Nat}(hi:i<32)(hd:∀c,c<32→d.testBit c=(g c).isSome){y:β}(a:g i=some y):vS i d<(fm g 32).length:=(List.getElem?_eq_some_iff.1 (SR hi hd a)).1
theorem Vj{i:Nat}(hi:i<32)(hd:∀c,c<32→d.testBit c=(g c).isSome):vS i d≤(fm g 32).length:=by
 have a:=Ga hd (i:=i) (by omega);rw[qE (g:=g) hi,ah];omega
theorem DT:(fm g 32).length≤32:=by
 have:=List.length_filterMap_le g (ee 32);simpa[fm]using this
end
end Go.Proofs
namespace Go.Proofs
open Go.Lift
abbrev sv(s:SliceV):Value:=.slice s.a s.len s.cap
structure Slots where
 p:Nat→Option Pr
 k:Nat→Option (Option Addr)
def fu(d n:Nat)(sp sk:SliceV)(a:Bool)(ow:Option Addr):Array Value:= #[.int .u32 (d:Int),.int .u32 (n:Int),sv sp,sv sk,.bool a,.pointer ow]
structure BitsOf(d n:Nat)(s:Slots):Prop where
 d32:d<4294967296
 n32:n<4294967296
 dp:∀c,c<32→d.testBit c=(s.p c).isSome
 nk:∀c,c<32→n.testBit c=(s.k c).isSome
structure NodeAt(W:Nat→Prop)(h:ad)(b:Nat)(s:Slots):Prop where
 ex:∃d n sp sk ow,h[b]? =some (.cells (fu d n sp sk false ow) bi (0,0))∧BitsOf d n s∧Sl kK 2 W h sp (fm s.p 32)∧Sl tP 1 W h sk (fm s.k 32)∧sp.len≤sp.cap∧sk.len≤sk.cap
 nw:¬W b
theorem NodeAt.upd{W M:Nat→Prop}{h h':ad}{b:Nat}{s:Slots}(n:NodeAt W h b s)(k:Upd M h h')(hm:∀b,M b→W b∨h.size≤b):NodeAt W h' b s:=by
 obtain⟨d,m,sp,sk,ow,a,j,c,i,f,e⟩:=n.ex;exact⟨⟨d,m,sp,sk,ow,k.get a (fun g=>(hm _ g).elim n.nw fun h=>by have:=bv a;omega),j,c.upd k hm,i.upd k hm,f,e⟩,n.nw⟩
structure OwnN(M:Nat→Prop)(h:ad)(b d n:Nat)(sp sk:SliceV)(s:Slots)(ow:Option Addr):Prop where
 blk:h[b]? =some (.cells (fu d n sp sk false ow) bi (0,0))
 bits:BitsOf d n s
 ex:∃A B:Nat→Prop,OwnS kK 2 au A h sp (fm s.p 32)∧OwnS tP 1 bK B h sk (fm s.k 32)∧(∀x,A x→M x∧¬B x∧x≠b∧x<h.size)∧(∀x,B x→M x∧x≠b∧x<h.size)
 mb:M b
theorem xA{h:ad}{K:Bool→ad→Prop}(a:K false h):HC PG gd [.pointer none] [.c .bool] K h:=by
 refine AH none ?_;unfold tl cq;exact aj.2 a
theorem Iu{b:Nat}{h:ad}{K:Bool→ad→Prop}(a:K false h):HC PG oT [.pointer (some ⟨b,0,none⟩),.pointer none] [.c .bool] K h:=by
 refine B5 _ none ?_;unfold uw gO;exact aB.2 (xA (aj.2 a))
theorem OwnN.upd{M M':Nat→Prop}{h h':ad}{b d n:Nat}{sp sk:SliceV}{s:Slots}{ow:Option Addr}(o:OwnN M h b d n sp sk s ow)(k:Upd M' h h')(hm:∀x,M' x→¬M x):OwnN M h' b d n sp sk s ow:=by
 obtain⟨A,B,f,i,a,c⟩:=o.ex;have z:=k.size;exact⟨k.get o.blk fun g=>hm _ g o.mb,o.bits,⟨A,B,f.upd k fun x hx e=>hm _ e (a x hx).1,i.upd k fun x hx e=>hm _ e (c x hx).1,fun x hx=>⟨(a x hx).1,(a x hx).2.1,(a x hx).2.2.1,by have:=(a x hx).2.2.2;omega⟩,fun x hx=>⟨(c x hx).1,(c x hx).2.1,by have:=(c x hx).2.2;omega⟩⟩,o.mb⟩
set_option maxRecDepth 4000 in
theorem ND{W:Nat→Prop}{h:ad}{b:Nat}{s:Slots}(nd:NodeAt W h b s){K:Option Addr→ad→Prop}
  (L:∀h' d n sp sk,OwnN (fun x=>h.size≤x) h' h.size d n sp sk s none→Upd No h h'→K (some ⟨h.size,0,none⟩) h'):
  HC PG fR [.pointer (some ⟨b,0,none⟩),.pointer none] [.c .ptr] K h:=by
 obtain⟨d,n,sp,sk,ow,a,bits,H,C,U,X⟩:=nd.ex;refine wS _ none ?_;unfold ru cq ci nv eW ce iY gO Q8 Vs;refine Iu (aj.2 ?_);have c:∀{h:ad} {b:Nat} {c:Array Value} {i:Nat},h[b]? =some (.cells c bi (0,0))→aC h ⟨b,0+i,none⟩=c[i]?:=fun a=>by rw[aI];exact aP a
 refine⟨_,rfl,_,c (i:=0) a,_,c (i:=1) a,sp,c (i:=2) a,sk,c (i:=3) a,_,c (i:=4) a,_,c (i:=5) a,?_⟩;have k1:=Upd.hnew No h [.int .u32 0,.int .u32 0,.slice none 0 0,.slice none 0 0,.bool false,.pointer none] bi;have b1:=bG h [.int .u32 0,.int .u32 0,.slice none 0 0,.slice none 0 0,.bool false,.pointer none] bi;refine aY ?_;simp only[cV h];generalize hnew h [.int .u32 0,.int .u32 0,.slice none 0 0,.slice none 0 0,.bool false,.pointer none] bi=h1 at k1 b1
 have N:gP h1 ⟨h.size,0,none⟩ 0 [.int .u32 (d:Int),.int .u32 (n:Int),.slice sp.a sp.len sp.cap,.slice sk.a sk.len sk.cap,.bool false,.pointer ow]=_:=iS _ h1 0 0 _ b1 (by simp);refine⟨.inr ⟨_,rfl,fun j Y=>by rw[cc];exact ij b1 (by simp at Y⊢;omega)⟩,aY ?_⟩
 rw[N];have b2:=iB (o:=.cells (fu d n sp sk false ow) bi (0,0)) b1;have u:Upd No h _:=k1.trans (M':=(· =h.size)) (Upd.set h1 (.cells (fu d n sp sk false ow) bi (0,0)) rfl) fun x hx=>.inr (fg hx.symm)
 have A:h.size<(h1.setIfInBounds h.size (.cells (fu d n sp sk false ow) bi (0,0))).size:=bv b2;have S:h.size≠b:=fun e=>by have:=bv a;omega
 have e2:(Obj.cells (List.take (0+0) [Value.int .u32 0,.int .u32 0,.slice none 0 0,.slice none 0 0,.bool false,.pointer none]++ [Value.int .u32 (d:Int),.int .u32 (n:Int),.slice sp.a sp.len sp.cap,.slice sk.a sk.len sk.cap,.bool false,.pointer ow]++List.drop (0+0+ [Value.int .u32 (d:Int),.int .u32 (n:Int),.slice sp.a sp.len sp.cap,.slice sk.a sk.len sk.cap,.bool false,.pointer ow].length) [Value.int .u32 0,.int .u32 0,.slice none 0 0,.slice none 0 0,.bool false,.pointer none]).toArray bi (0,0))=.cells (fu d n sp sk false ow) bi (0,0):=rfl
 rw[e2];generalize h1.setIfInBounds h.size (.cells (fu d n sp sk false ow) bi (0,0))=h2 at b2 u A;have q:=u.get0 a;refine⟨_,rfl,sp,c (i:=2) q,_,rfl,sk,c (i:=3) q,?_⟩;refine yJ (H.upd u fun _ h=>h.elim) (by have:=DT (g:=s.p);omega) fun z P B m=>?_
 refine⟨c (i:=3) (m.get0 q),?_⟩;refine I8 ((C.upd u fun _ h=>h.elim).upd m fun _ h=>h.elim) (by have:=DT (g:=s.k);omega) fun J T G p=>?_
 have Q:=p.get0 (m.get0 b2);have t:=B.within.upd p fun _ _ h=>h
 have y:=G.within;have z3:=m.size;have z4:=p.size;have w:∀{h:ad} {c:Array Value} {x i:Nat},h[x]? =some (.cells c bi (0,0))→i<c.size→Wr h ⟨x,0+i,none⟩:=fun a hi=>by rw[aI];exact ij a hi
 have st:∀{h:ad} {c c':Array Value} {x i:Nat} {v:Value} {k:ad→Prop},h[x]? =some (.cells c bi (0,0))→c.setIfInBounds i v=c'→(∀h',h'[x]? =some (.cells c' bi (0,0))→Upd (· =x) h h'→k h')→At (hset h ⟨x,i,none⟩ v) k:=fun a e L=>wB a fun h' F V=>L h' (e▸F) V
 refine⟨w (i:=2) Q (show 2<6 by decide),st (i:=2) (c':=fu d n z sk false ow) Q rfl fun h5 R D=>?_⟩
 refine⟨w (i:=3) R (show 3<6 by decide),st (i:=3) (c':=fu d n z J false ow) R rfl fun h6 O E=>?_⟩
 refine⟨w (i:=5) O (show 5<6 by decide),st (i:=5) (c':=fu d n z J false none) O rfl fun h7 Z I=>?_⟩
 refine xA (aj.2 ?_);have f:=D.tr (E.tr I);have z7:=f.size;refine L _ d n z J ⟨Z,bits,⟨fun x=>h2.size≤x∧x<P.size,fun x=>P.size≤x∧x<T.size,t.upd f fun x hx e=>by have e:x=h.size:=e;omega,y.upd f fun x hx e=>by have e:x=h.size:=e;omega,fun x hx=>⟨by omega,by omega,by omega,by omega⟩,fun x hx=>⟨by omega,by omega,by omega⟩⟩,ax _⟩ ?_
 exact((u.tr m).tr p).trans f fun x hx=>.inr (fg hx.symm)
end Go.Proofs
namespace Go.Proofs
open Go.Lift
theorem vl{β:Type}{g:Nat→Option β}{i:Nat}(h:g i=none):upd g i none=g:=by
 funext j;unfold upd;split
 ·rename_i e;rw[e,h]
 ·rfl
theorem eu{h:ad}{b:Nat}{c:Array Value}{t:TypeId}{i:Nat}(a:h[b]? =some (.cells c t (0,0))):aC h ⟨b,0+i,none⟩=c[i]?:=by rw[aI];exact aP a
theorem TS{h:ad}{b:Nat}{c:Array Value}{t:TypeId}{i:Nat}(a:h[b]? =some (.cells c t (0,0))) (hi:i<c.size):Wr h ⟨b,0+i,none⟩:=by rw[aI];exact ij a hi
theorem Ho{h:ad}{b:Nat}{c c':Array Value}{t:TypeId}{i:Nat}{v:Value}{k:ad→Prop}(f:h[b]? =some (.cells c t (0,0))) (e:c.setIfInBounds i v=c')
 (d:∀h',h'[b]? =some (.cells c' t (0,0))→Upd (· =b) h h'→k h'):At (hset h ⟨b,i,none⟩ v) k:=wB f fun h' a g=>d h' (e▸a) g
theorem Kb{M:Nat→Prop}{h:ad}{b d n:Nat}{sp sk:SliceV}{s:Slots}{ow:Option Addr}(o:OwnN M h b d n sp sk s ow){i:Nat}(hi:i<32){K:Unit→ad→Prop}
  (Y:∀h' C G sp' sk',OwnN M h' b C G sp' sk' ⟨upd s.p i none,upd s.k i none⟩ ow→Upd M h h'→K () h'):HC PG je [.pointer (some ⟨b,0,none⟩),.int .i64 i] [] K h:=by
 obtain⟨A,B,Z,W,a,m⟩:=o.ex;have bits:=o.bits;refine B1 _ i ?_;unfold ut ci eW ce mX K5;have U:∀k:Nat,k≤100→ac .i64 ((k:Int)+1)=((k+1:Nat):Int):=fun k Y=>by rw[lz (by omega)];omega
 have hc1:=AA i d;have hc2:=AA i n;have O:∀x,A x→M x∨h.size≤x:=fun x hx=>.inl (a x hx).1
 refine Join.intro (fun _ h'=>∃sp',h'[b]? =some (.cells (fu d n sp' sk false ow) bi (0,0))∧OwnS kK 2 au A h' sp' (fm (upd s.p i none) 32)∧OwnS tP 1 bK B h' sk (fm s.k 32)∧Upd M h h') (fun R F=>?_) ?_
 ·refine⟨_,rfl,_,eu (i:=0) o.blk,C3 bits.d32 hi ?_⟩
  rw[bits.dp i hi];cases hp:s.p i with
  |none=>exact aj.2 (F _ _ ⟨sp,o.blk,by rw[vl hp];exact Z,W,Upd.refl _ _⟩)
  |some y=>
   refine aB.2 ⟨_,rfl,_,eu (i:=0) o.blk,qg bits.d32 hi ⟨_,rfl,sp,eu (i:=2) o.blk,?_⟩⟩;rw[U _ (by omega)];refine Od Z (IV hi bits.dp hp) (by have:=DT (g:=s.p);omega) fun v X t f=>?_
   rw[←SQ hi bits.dp hp]at t;have b2:=f.get o.blk fun Q=>(a b Q).2.2.1 rfl
   refine⟨_,rfl,TS (i:=2) b2 (show 2<6 by decide),Ho (i:=2) (c':=fu d n v sk false ow) b2 rfl fun V b3 j=>?_⟩
   refine F _ _ ⟨v,b3,t.upd j fun x hx e=>(a x hx).2.2.1 e,(W.upd f fun x hx P=>(a x P).2.1 hx).upd j fun x hx e=>(m x hx).2.1 e,(f.mono O).tr (j.mono fun x e=>.inl (e▸o.mb))⟩
 rintro _ h1 ⟨q,b1,D,w,E⟩;refine Join.intro (fun _ h'=>∃sk',h'[b]? =some (.cells (fu d n q sk' false ow) bi (0,0))∧OwnS kK 2 au A h' q (fm (upd s.p i none) 32)∧OwnS tP 1 bK B h' sk' (fm (upd s.k i none) 32)∧Upd M h1 h') (fun R F=>?_) ?_
 ·refine⟨_,rfl,_,eu (i:=1) b1,C3 bits.n32 hi ?_⟩
  rw[bits.nk i hi];cases hp:s.k i with
  |none=>exact aj.2 (F _ _ ⟨sk,b1,D,by rw[vl hp];exact w,Upd.refl _ _⟩)
  |some y=>
   refine aB.2 ⟨_,rfl,_,eu (i:=1) b1,qg bits.n32 hi ⟨_,rfl,sk,eu (i:=3) b1,?_⟩⟩;rw[U _ (by omega)];refine Oe w (IV hi bits.nk hp) (by have:=DT (g:=s.k);omega) fun v X t f=>?_
   rw[←SQ hi bits.nk hp]at t;have b2:=f.get b1 fun Q=>(m b Q).2.1 rfl
   refine⟨_,rfl,TS (i:=3) b2 (show 3<6 by decide),Ho (i:=3) (c':=fu d n q v false ow) b2 rfl fun V b3 j=>?_⟩
   refine F _ _ ⟨v,b3,(D.upd f fun x hx P=>(a x hx).2.1 P).upd j fun x hx e=>(a x hx).2.2.1 e,t.upd j fun x hx e=>(m x hx).2.1 e,(f.mono fun x hx=>.inl (m x hx).1).tr (j.mono fun x e=>.inl (e▸o.mb))⟩
 rintro _ X ⟨u,b2,J,I,f⟩;refine⟨_,rfl,_,eu (i:=0) b2,_,rfl,_,eu (i:=1) b2,?_⟩;refine E9 bits.d32 hi fun C N H=>⟨eu (i:=1) b2,?_⟩
 refine E9 bits.n32 hi fun G S L=>?_
 refine⟨_,rfl,TS (i:=0) b2 (show 0<6 by decide),Ho (i:=0) (c':=fu C n q u false ow) b2 rfl fun V b3 j=>?_⟩
 refine⟨_,rfl,TS (i:=1) b3 (show 1<6 by decide),Ho (i:=1) (c':=fu C G q u false ow) b3 rfl fun h4 b4 T=>?_⟩
 have p:=j.tr T;have z:=(E.tr (f.tr (p.mono (M':=M) fun x e=>.inl (e▸o.mb)))).size
 refine Y h4 C G q u ⟨b4,⟨N,S,fun c hc=>?_,fun c hc=>?_⟩,⟨A,B,J.upd p fun x hx e=>(a x hx).2.2.1 e,I.upd p fun x hx e=>(m x hx).2.1 e,fun x hx=>⟨(a x hx).1,(a x hx).2.1,(a x hx).2.2.1,by have:=(a x hx).2.2.2;omega⟩,fun x hx=>⟨(m x hx).1,(m x hx).2.1,by have:=(m x hx).2.2;omega⟩⟩,o.mb⟩ (E.tr (f.tr (p.mono fun x e=>.inl (e▸o.mb))))
 ·rw[H,bits.dp c hc];simp only[upd];split<;>simp[*]
 ·rw[L,bits.nk c hc];simp only[upd];split<;>simp[*]
end Go.Proofs
namespace Go.Proofs
open Go.Lift
theorem OwnS.setAt{α:Type}{f:α→List Value}{c:Nat}{t:TypeId}{M:Nat→Prop}{h:ad}{s:SliceV}{xs:List α}(i:OwnS f c t M h s xs){k:Nat}(n:k<xs.length)(x:α):
  ∃a,s.a=some a∧M a.block∧td h (some (adr a (k*c))) 0 (f x)∧OwnS f c t M (gP h (adr a (k*c)) 0 (f x)) s (xs.take k++x::xs.drop (k+1))∧Upd (· =a.block) h (gP h (adr a (k*c)) 0 (f x)):=by
 have m:∀x,(f x).length=c∧0<c:=i.ne;have q:=i.len;have g:=i.cap;rcases i.blk with C|⟨b,e,v,u,hc,z⟩
 ·omega
 have o:((xs.take k).flatMap f).length=k*c:=by rw[jj m,aL,bQ (by omega)]
 have e1:xs.flatMap f=(xs.take k).flatMap f++(f xs[k]++(xs.drop (k+1)).flatMap f):=by
  rw[←bD,←List.drop_eq_getElem_cons n];exact yd xs k
 rw[e1]at hc;have y:=(m xs[k]).1;have D:=(m x).1;have d:(xs.take k++x::xs.drop (k+1)).flatMap f=(xs.take k).flatMap f++(f x++(xs.drop (k+1)).flatMap f):=by rw[List.flatMap_append,bD]
 generalize (xs.take k).flatMap f=A at o hc d;generalize (xs.drop (k+1)).flatMap f=B at hc d;generalize f xs[k]=X at y hc;have w:k*c+0+(f x).length≤(A++(X++B)++e).length:=by simp only[ah];omega
 have p:adr ⟨b,0,none⟩ (k*c)=⟨b,k*c,none⟩:=by rw[cc,aI]
 refine⟨⟨b,0,none⟩,v,u,?_,?_,?_⟩
 ·rw[p]
  refine .inr ⟨_,rfl,fun j E=>?_⟩
  rw[cc];exact ij hc (by rw[List.size_toArray];omega)
 ·rw[p,iS (f x) h 0 (k*c) _ hc w]
  refine⟨by simp;omega,m,g,.inr ⟨b,e,v,u,?_,?_⟩⟩
  ·rw[iB hc,d]
   congr 3
   rw[Nat.add_zero,aH A,cK o,←cU,cp o,aH X,cp (by omega)];simp only[aH]
  ·exact z
 ·rw[p,iS (f x) h 0 (k*c) _ hc w]
  exact Upd.set h _ rfl
theorem OwnN.node{M W:Nat→Prop}{h:ad}{b d n:Nat}{sp sk:SliceV}{s:Slots}{ow:Option Addr}(o:OwnN M h b d n sp sk s ow)(a:∀x,M x→¬W x):NodeAt W h b s:=by
 obtain⟨A,B,c,e,f,g⟩:=o.ex;exact⟨⟨d,n,sp,sk,ow,o.blk,o.bits,c.sl fun x hx _=>a _ (f x hx).1,e.sl fun x hx _=>a _ (g x hx).1,c.cap,e.cap⟩,a _ o.mb⟩
theorem F3{W:Nat→Prop}{h:ad}{b:Nat}{s:Slots}(nd:NodeAt W h b s){i:Nat}(hi:i<32){K:Bool→ad→Prop}(a:K true h):HC PG jf [.pointer (some ⟨b,0,none⟩),.int .i64 i] [.c .bool] K h:=by
 obtain⟨d,n,sp,sk,ow,c,_⟩:=nd.ex;refine B2 _ i ?_;unfold uu cq;refine aB.2 ⟨_,rfl,_,eu (i:=4) c,aB.2 ?_⟩;refine aK (fun _=>?_) fun h=>absurd (Int.natCast_nonneg i) h
 rw[decide_eq_true (by omega)];exact a
theorem OW{β:Type}{g:Nat→Option β}{i:Nat}{x y:Option β}:upd (upd g i x) i y=upd g i y:=by
 funext j;unfold upd;split<;>rfl
theorem gu{β:Type}{g:Nat→Option β}{i:Nat}{x:Option β}:upd g i x i=x:=by simp[upd]
theorem sB{W:Nat→Prop}{h:ad}{b:Nat}{s:Slots}(nd:NodeAt W h b s)(hW:∀x,W x→x<h.size){i:Nat}(hi:i<32)(hx:∀y,s.p i=some y→s.k i=none)(p:Pr){K:Option Addr→ad→Prop}
  (hk:∀h' b',NodeAt W h' b' ⟨upd s.p i (some p),upd s.k i none⟩→Upd No h h'→K (some ⟨b',0,none⟩) h'):
  HC PG eV [.pointer (some ⟨b,0,none⟩),.pointer none,.int .i64 i,.agg #[.string p.1,.string p.2]] [.c .ptr] K h:=by
 refine zc _ none i p ?_;unfold rS dE aq ci kf eW ce iY A0 mX oo Ej;have k1:=Upd.hnew No h [.string p.1,.string p.2] au;have b1:=bG h [.string p.1,.string p.2] au;refine aY ?_;simp only[cV h];generalize hnew h [.string p.1,.string p.2] au=h1 at k1 b1;have z1:=bv b1;have O:=nd.upd k1 fun _ h=>h.elim
 refine F3 O hi (aj.2 ?_);refine ND O fun h2 d n sp sk o J=>?_
 have bits:=o.bits;obtain⟨A,B,hA,hB,q,H⟩:=o.ex;have F:=k1.tr J;have u:=J.get0 b1;have hMW:∀x,h1.size≤x→¬W x:=fun x hx V=>by have:=hW x V;omega
 refine⟨_,rfl,_,eu (i:=0) o.blk,C3 bits.d32 hi ?_⟩;rw[bits.dp i hi];cases hp:s.p i with
 |some y=>
  refine aB.2 ⟨_,rfl,sp,eu (i:=2) o.blk,_,rfl,_,eu (i:=0) o.blk,p.1,by rw[cc,aP u];rfl,p.2,by rw[cc,aP u];rfl,?_⟩
  refine qg bits.d32 hi ⟨⟨by rw[cc,aP u];rfl,by rw[cc,aP u];rfl⟩,eu (i:=2) o.blk,?_⟩
  have hlt:=IV hi bits.dp hp;obtain⟨a,ha,G,V,P,m⟩:=OwnS.setAt hA hlt p;have hlen:=hA.len;refine⟨by omega,a,ha,?_⟩;rw[ai];refine⟨V,aY ?_⟩;rw[←SO hi bits.dp hp]at P;have ob:=m.get o.blk fun e=>(q _ G).2.2.1 e.symm
  have z3:=m.size;have C:OwnN (fun x=>h1.size≤x) _ h1.size d n sp sk ⟨upd s.p i (some p),upd s.k i none⟩ none:=⟨ob,⟨bits.d32,bits.n32,fun c hc=>by
    rw[bits.dp c hc];simp only[upd];split
    ·rename_i e;rw[e,hp];rfl
    ·rfl,fun c hc=>by rw[bits.nk c hc,vl (hx y hp)]⟩,
   ⟨A,B,P,by rw[vl (hx y hp)];exact hB.upd m fun x hx e=>(q _ G).2.1 (e▸hx),fun x hx=>⟨(q x hx).1,(q x hx).2.1,(q x hx).2.2.1,by have:=(q x hx).2.2.2;omega⟩,fun x hx=>⟨(H x hx).1,(H x hx).2.1,by have:=(H x hx).2.2;omega⟩⟩,o.mb⟩
  refine hk _ _ (C.node hMW) (F.trans m fun x hx=>.inr ?_)
  have:=(q _ G).1;have hx:x=a.block:=hx;omega
 |none=>
  refine aj.2 ⟨_,rfl,Kb o hi fun D d3 n3 z I C m=>?_⟩
  have f:=C.bits;obtain⟨A3,B3,hA3,hB3,j,k⟩:=C.ex;have z2:=J.size;have z3:=m.size;have E:=m.get u (show ¬h1.size≤h.size by omega)
  have Q:Upd No h D:=F.trans m fun x hx=>.inr (bH (Nat.le_of_lt z1) hx)
  refine⟨_,rfl,z,eu (i:=2) C.blk,_,rfl,_,eu (i:=0) C.blk,p.1,by rw[cc,aP E];rfl,p.2,by rw[cc,aP E];rfl,?_⟩
  have Z:=Upd.hnew No D [.string p.1,.string p.2] au;have b4:=bG D [.string p.1,.string p.2] au;have z4:=fM D [.string p.1,.string p.2] au;have N:=C.upd Z fun _ h=>h.elim
  have S:HC PG cQ [.slice z.a z.len z.cap,.int .i64 (vS i d3),.slice (some (aJ D)) 1 1] [.c .slice] (fun(L:SliceV) X=>
       ∃a34:Addr,some (⟨h1.size,0,none⟩:Addr)=some a34∧
       (Wr X (adr (adr a34 0) 2)∧
        At (hset X (adr (adr a34 0) 2) (.slice L.a L.len L.cap)) (fun R=>
         ∃a36:Addr,some (⟨h1.size,0,none⟩:Addr)=some a36∧
         ∃v37:Int,aC R (adr (adr a36 0) 0)=some (.int .u32 v37)∧
         HC PG eX [.int .u32 v37,.int .i64 i] [.c (.int .u32)] (fun(e38:Int) T=>
          ∃a40:Addr,some (⟨h1.size,0,none⟩:Addr)=some a40∧
          (Wr T (adr (adr a40 0) 0)∧
           At (hset T (adr (adr a40 0) 0) (.int .u32 e38)) (fun h41=>
            K (some ⟨h1.size,0,none⟩) h41))) R))) (hnew D [.string p.1,.string p.2] au):=by
   generalize hnew D [.string p.1,.string p.2] au=h4 at Z b4 z4 N;rw[cV D];have hA4:=(hA3.upd Z fun _ _ h=>h).more (M':=fun x=>A3 x∨h4.size≤x) fun x hx=>.inl hx
   have hpn:(⟨upd s.p i none,upd s.k i none⟩:Slots).p i=none:=gu;refine NT hA4 (Vj hi f.dp) (by have:=DT (g:=(⟨upd s.p i none,upd s.k i none⟩:Slots).p);omega) (x:=p) b4 (fun e=>e.elim (fun e=>by have:=(j _ e).2.2.2;omega) fun e=>by omega) (fun x hx=>.inr hx) fun s5 h5 U v=>?_
   rw[←SP hi f.dp hpn p]at U;have hbl:h1.size<D.size:=bv C.blk;have b5:=v.get N.blk fun e=>e.elim (fun e=>(j _ e).2.2.1 rfl) fun e=>by omega
   refine⟨_,rfl,TS (i:=2) b5 (show 2<6 by decide),Ho (i:=2) (c':=fu d3 n3 s5 I false none) b5 rfl fun h6 b6 hu6=>?_⟩
   refine⟨_,rfl,_,eu (i:=0) b6,OU f.d32 hi fun w V hwt=>?_⟩
   refine⟨_,rfl,TS (i:=0) b6 (show 0<6 by decide),Ho (i:=0) (c':=fu w n3 s5 I false none) b6 rfl fun h7 b7 hu7=>?_⟩
   have t:=hu6.tr hu7;have z5:=v.size;have z7:=t.size;have Y:=U.within;have e1:(⟨upd (⟨upd s.p i none,upd s.k i none⟩:Slots).p i (some p),upd s.k i none⟩:Slots)=⟨upd s.p i (some p),upd s.k i none⟩:=by rw[OW]
   have o7:OwnN (fun x=>h1.size≤x) h7 h1.size w n3 s5 I ⟨upd s.p i (some p),upd s.k i none⟩ none:=by
    rw[←e1];refine⟨b7,⟨V,f.n32,fun c hc=>?_,f.nk⟩,⟨fun x=>(A3 x∨h4.size≤x)∧x<h5.size,B3,Y.upd t fun x hx e=>?_,((hB3.upd Z fun _ _ h=>h).upd v fun x hx e=>?_).upd t fun x hx e=>(k x hx).2.1 e,fun x hx=>⟨?_,?_,?_,by omega⟩,fun x hx=>⟨(k x hx).1,(k x hx).2.1,by have:=(k x hx).2.2;omega⟩⟩,o.mb⟩
    ·rw[hwt,f.dp c hc];simp only[upd];split<;>simp[*]
    ·have e:x=h1.size:=e
     rcases hx.1 with h|h
     ·exact(j x h).2.2.1 e
     ·omega
    ·rcases e with e|e
     ·exact(j x e).2.1 hx
     ·have:=(k x hx).2.2;omega
    ·rcases hx.1 with h|h
     ·exact(j x h).1
     ·omega
    ·rcases hx.1 with h|h
     ·exact(j x h).2.1
     ·exact fun hb=>by have:=(k x hb).2.2;omega
    ·rcases hx.1 with h|h
     ·exact(j x h).2.2.1
     ·omega
   refine hk _ _ (o7.node hMW) (((Q.tr Z).trans v fun x hx=>.inr ?_).trans t fun x hx=>.inr ?_)
   ·rcases hx with h|h
    ·have:=(j x h).1;omega
    ·omega
   ·have hx:x=h1.size:=hx
    omega
  refine⟨qg f.d32 hi ⟨⟨by rw[cc,aP E];rfl,by rw[cc,aP E];rfl⟩,eu (i:=2) C.blk,aY ⟨eu (i:=2) N.blk,S⟩⟩,aY ⟨eu (i:=0) N.blk,eu (i:=2) N.blk,qg f.d32 hi ⟨eu (i:=2) N.blk,S⟩⟩⟩
end Go.Proofs
namespace Go.Proofs
open Go.Lift
theorem Tf{W:Nat→Prop}{h:ad}{b:Nat}{s:Slots}(nd:NodeAt W h b s)(m:∀x,W x→x<h.size){i:Nat}(hi:i<32){K:Option Addr→ad→Prop}
  (j:∀h' b',NodeAt W h' b' ⟨upd s.p i none,upd s.k i none⟩→Upd No h h'→K (some ⟨b',0,none⟩) h'):
  HC PG lq [.pointer (some ⟨b,0,none⟩),.pointer none,.int .i64 i] [.c .ptr] K h:=by
 refine B7 _ none i ?_;unfold uy iY oo;refine F3 nd hi (aj.2 ?_);refine ND nd fun u d n sp sk o c=>⟨_,rfl,Kb o hi fun p q t f k e a=>?_⟩
 exact j _ _ (e.node fun x hx g=>by have:=m x g;omega) (c.trans a fun x hx=>.inr hx)
theorem yB{W:Nat→Prop}{h:ad}{b:Nat}{s:Slots}(nd:NodeAt W h b s)(hW:∀x,W x→x<h.size){i:Nat}(hi:i<32)(hx:∀y,s.k i=some y→s.p i=none)(j:Addr){K:Option Addr→ad→Prop}
  (hk:∀h' b',NodeAt W h' b' ⟨upd s.p i none,upd s.k i (some (some j))⟩→Upd No h h'→K (some ⟨b',0,none⟩) h'):
  HC PG gh [.pointer (some ⟨b,0,none⟩),.pointer none,.int .i64 i,.pointer (some j)] [.c .ptr] K h:=by
 refine AP _ none i (some j) ?_;unfold tA dE ci eW ce iY mX oo Jl;refine aj.2 ?_;refine F3 nd hi (aj.2 ?_);refine ND nd fun h2 d n sp sk o H=>?_
 have bits:=o.bits;obtain⟨A,B,hA,hB,t,u⟩:=o.ex;have V:∀x,h.size≤x→¬W x:=fun x hx E=>by have:=hW x E;omega
 refine⟨_,rfl,_,eu (i:=1) o.blk,C3 bits.n32 hi ?_⟩;rw[bits.nk i hi];cases hp:s.k i with
 |some y=>
  refine aB.2 ⟨_,rfl,sk,eu (i:=3) o.blk,_,rfl,_,eu (i:=1) o.blk,?_⟩;refine qg bits.n32 hi ⟨eu (i:=3) o.blk,?_⟩;have hlt:=IV hi bits.nk hp;obtain⟨a,ha,F,E,L,p⟩:=OwnS.setAt hB hlt (some j);have hlen:=hB.len;refine⟨by omega,a,ha,?_⟩;rw[ai];have X:Wr h2 (adr a (vS i n*1)):=by
   rcases E with E|⟨b',hb',E⟩
   ·cases E
   ·cases hb';exact E 0 (by simp)
  refine⟨X,aY ?_⟩;rw[←SO hi bits.nk hp]at L;have ob:=p.get o.blk fun e=>(u _ F).2.1 e.symm
  have z3:=p.size;have C:OwnN (fun x=>h.size≤x) _ h.size d n sp sk ⟨upd s.p i none,upd s.k i (some (some j))⟩ none:=⟨ob,⟨bits.d32,bits.n32,fun c hc=>by rw[bits.dp c hc,vl (hx y hp)],fun c hc=>by
    rw[bits.nk c hc];simp only[upd];split
    ·rename_i e;rw[e,hp];rfl
    ·rfl⟩,
   ⟨A,B,by rw[vl (hx y hp)];exact hA.upd p fun x hx e=>(t _ hx).2.1 (e▸F),L,fun x hx=>⟨(t x hx).1,(t x hx).2.1,(t x hx).2.2.1,by have:=(t x hx).2.2.2;omega⟩,fun x hx=>⟨(u x hx).1,(u x hx).2.1,by have:=(u x hx).2.2;omega⟩⟩,o.mb⟩
  refine hk _ _ (C.node V) (H.trans p fun x hx=>.inr ?_)
  have:=(u _ F).1;have hx:x=a.block:=hx;omega
 |none=>
  refine aj.2 ⟨_,rfl,Kb o hi fun D Y n3 G z C p=>?_⟩
  have f:=C.bits;obtain⟨A3,B3,hA3,hB3,k,m⟩:=C.ex;have z2:=H.size;have z3:=p.size;have N:Upd No h D:=H.trans p fun x hx=>.inr hx
  refine⟨_,rfl,z,eu (i:=3) C.blk,_,rfl,_,eu (i:=1) C.blk,?_⟩;have U:=Upd.hnew No D [.pointer (some j)] bK;have b4:=bG D [.pointer (some j)] bK;have z4:=fM D [.pointer (some j)] bK;have J:=C.upd U fun _ h=>h.elim
  have P:HC PG cC [.slice z.a z.len z.cap,.int .i64 (vS i n3),.slice (some (aJ D)) 1 1] [.c .slice] (fun(I:SliceV) S=>
       ∃a34:Addr,some (⟨h.size,0,none⟩:Addr)=some a34∧
       (Wr S (adr (adr a34 0) 3)∧
        At (hset S (adr (adr a34 0) 3) (.slice I.a I.len I.cap)) (fun O=>
         ∃a36:Addr,some (⟨h.size,0,none⟩:Addr)=some a36∧
         ∃v37:Int,aC O (adr (adr a36 0) 1)=some (.int .u32 v37)∧
         HC PG eX [.int .u32 v37,.int .i64 i] [.c (.int .u32)] (fun(e38:Int) Q=>
          ∃a40:Addr,some (⟨h.size,0,none⟩:Addr)=some a40∧
          (Wr Q (adr (adr a40 0) 1)∧
           At (hset Q (adr (adr a40 0) 1) (.int .u32 e38)) (fun h41=>
            K (some ⟨h.size,0,none⟩) h41))) O))) (hnew D [.pointer (some j)] bK):=by
   generalize hnew D [.pointer (some j)] bK=h4 at U b4 z4 J;rw[cV D];have Z:=(hB3.upd U fun _ _ h=>h).more (M':=fun x=>B3 x∨h4.size≤x) fun x hx=>.inl hx
   have hpn:(⟨upd s.p i none,upd s.k i none⟩:Slots).k i=none:=gu;refine NU Z (Vj hi f.nk) (by have:=DT (g:=(⟨upd s.p i none,upd s.k i none⟩:Slots).k);omega) (x:=some j) b4 (fun e=>e.elim (fun e=>by have:=(m _ e).2.2;omega) fun e=>by omega) (fun x hx=>.inr hx) fun s5 h5 R v=>?_
   rw[←SP hi f.nk hpn (some j)]at R;have hbl:h.size<D.size:=bv C.blk;have b5:=v.get J.blk fun e=>e.elim (fun e=>(m _ e).2.1 rfl) fun e=>by omega
   refine⟨_,rfl,TS (i:=3) b5 (show 3<6 by decide),Ho (i:=3) (c':=fu Y n3 G s5 false none) b5 rfl fun h6 b6 hu6=>?_⟩
   refine⟨_,rfl,_,eu (i:=1) b6,OU f.n32 hi fun w E hwt=>?_⟩
   refine⟨_,rfl,TS (i:=1) b6 (show 1<6 by decide),Ho (i:=1) (c':=fu Y w G s5 false none) b6 rfl fun h7 b7 hu7=>?_⟩
   have q:=hu6.tr hu7;have z5:=v.size;have z7:=q.size;have T:=R.within;have e1:(⟨upd s.p i none,upd (⟨upd s.p i none,upd s.k i none⟩:Slots).k i (some (some j))⟩:Slots)=⟨upd s.p i none,upd s.k i (some (some j))⟩:=by rw[OW]
   have o7:OwnN (fun x=>h.size≤x) h7 h.size Y w G s5 ⟨upd s.p i none,upd s.k i (some (some j))⟩ none:=by
    rw[←e1];refine⟨b7,⟨f.d32,E,f.dp,fun c hc=>?_⟩,⟨A3,fun x=>(B3 x∨h4.size≤x)∧x<h5.size,((hA3.upd U fun _ _ h=>h).upd v fun x hx e=>?_).upd q fun x hx e=>(k x hx).2.2.1 e,T.upd q fun x hx e=>?_,fun x hx=>⟨(k x hx).1,?_,(k x hx).2.2.1,by have:=(k x hx).2.2.2;omega⟩,fun x hx=>⟨?_,?_,by omega⟩⟩,o.mb⟩
    ·rw[hwt,f.nk c hc];simp only[upd];split<;>simp[*]
    ·rcases e with e|e
     ·exact(k x hx).2.1 e
     ·have:=(k x hx).2.2.2;omega
    ·have e:x=h.size:=e
     rcases hx.1 with h|h
     ·exact(m x h).2.1 e
     ·omega
    ·rintro⟨h|h,_⟩
     ·exact(k x hx).2.1 h
     ·have:=(k x hx).2.2.2;omega
    ·rcases hx.1 with h|h
     ·exact(m x h).1
     ·omega
    ·rcases hx.1 with h|h
     ·exact(m x h).2.1
     ·omega
   refine hk _ _ (o7.node V) (((N.tr U).trans v fun x hx=>.inr ?_).trans q fun x hx=>.inr ?_)
   ·rcases hx with h|h
    ·exact(m x h).1
    ·omega
   ·have hx:x=h.size:=hx
    omega
  refine⟨qg f.n32 hi ⟨eu (i:=3) C.blk,aY ⟨eu (i:=3) J.blk,P⟩⟩,aY ⟨eu (i:=1) J.blk,eu (i:=3) J.blk,qg f.n32 hi ⟨eu (i:=3) J.blk,P⟩⟩⟩
end Go.Proofs
namespace Go.Proofs
open Go.Lift
theorem UQ{h:ad}{b d n:Nat}{sp sk:SliceV}{a:Bool}{ow:Option Addr}(c:h[b]? =some (.cells (fu d n sp sk a ow) bi (0,0))) {K:Int→ad→Prop} (e:K (d:Int) h):HC PG pQ [.pointer (some ⟨b,0,none⟩)] [.c (.int .u32)] K h:=by
 refine Dr _ ?_;unfold vL eW;exact aj.2 ⟨_,rfl,_,eu (i:=0) c,e⟩
theorem LJ{h:ad}{b d n:Nat}{sp sk:SliceV}{a:Bool}{ow:Option Addr}(c:h[b]? =some (.cells (fu d n sp sk a ow) bi (0,0))) {K:Int→ad→Prop} (e:K (n:Int) h):HC PG ln [.pointer (some ⟨b,0,none⟩)] [.c (.int .u32)] K h:=by
 refine B6 _ ?_;unfold ux eW;exact aj.2 ⟨_,rfl,_,eu (i:=1) c,e⟩
theorem j3{h:ad}{b d n:Nat}{sp sk:SliceV}{a:Bool}{ow:Option Addr}(c:h[b]? =some (.cells (fu d n sp sk a ow) bi (0,0))) {K:Bool→ad→Prop} (e:K a h):HC PG eD [.pointer (some ⟨b,0,none⟩)] [.c .bool] K h:=by
 refine yl _ ?_;unfold qV cq;exact aB.2 ⟨_,rfl,_,eu (i:=4) c,e⟩
def SK(o:Option Pr):Pr:=o.getD (⟨#[]⟩,⟨#[]⟩)
theorem FJ{h:ad}{b:Nat}{q p:Pr}(a:h[b]? =some (.cells #[.string q.1,.string q.2] au (0,0))) {k:ad→Prop}
  (d:∀h',h'[b]? =some (.cells #[.string p.1,.string p.2] au (0,0))→Upd (· =b) h h'→k h'):td h (some ⟨b,0,none⟩) 0 [.string p.1,.string p.2]∧At (gP h ⟨b,0,none⟩ 0 [.string p.1,.string p.2]) k:=by
 have e:=iS [.string p.1,.string p.2] h 0 0 [.string q.1,.string q.2] a (by simp);refine⟨.inr ⟨_,rfl,fun j c=>by rw[cc];exact ij a (by simp at c⊢;omega)⟩,aY ?_⟩
 rw[e];refine d _ ?_ (Upd.set h _ rfl);rw[iB a];rfl
theorem FQ{W:Nat→Prop}{h:ad}{b:Nat}{s:Slots}(nd:NodeAt W h b s){i:Nat}(hi:i<32){K:Pr×Bool→ad→Prop}(k:∀h',Upd No h h'→K (SK (s.p i),(s.p i).isSome) h'):
  HC PG jK [.pointer (some ⟨b,0,none⟩),.int .i64 i] [.agg [.str,.str],.c .bool] K h:=by
 refine Dp _ i ?_;unfold vJ dE aq bE fe rV kf eW ce mX;obtain⟨d,n,sp,sk,ow,t,bits,g,z,q,u⟩:=nd.ex;have k1:=Upd.hnew No h [.string (⟨#[]⟩:ByteArray),.string (⟨#[]⟩:ByteArray)] au;have b1:=bG h [.string (⟨#[]⟩:ByteArray),.string (⟨#[]⟩:ByteArray)] au;refine aY ?_;simp only[cV h];generalize hnew h [.string (⟨#[]⟩:ByteArray),.string (⟨#[]⟩:ByteArray)] au=h1 at k1 b1
 have c:=k1.get0 t;have f:h1[h.size]? =some (.cells #[.string OO.1,.string OO.2] au (0,0)):=b1;refine UQ c (C3 bits.d32 hi ?_);rw[bits.dp i hi];cases hp:s.p i with
 |none=>
  rw[hp]at k;refine aB.2 (FJ (p:=OO) f fun A b2 e=>⟨_,by rw[cc,aP b2];rfl,_,by rw[cc,aP b2];rfl,k _ (k1.trans e fun x hx=>.inr (fg hx.symm))⟩)
 |some y=>
  rw[hp]at k;refine aj.2 ⟨_,rfl,sp,eu (i:=2) c,_,rfl,_,eu (i:=0) c,qg bits.d32 hi ⟨eu (i:=2) c,?_⟩⟩;have v:=IV hi bits.dp hp;have j:=g.upd k1 fun _ h=>h.elim
  obtain⟨a,w,_,o⟩:=j.at (SR hi bits.dp hp);have m:=g.len;refine⟨by omega,a,w,y.1,o 0 _ rfl,y.2,o 1 _ rfl,?_⟩;refine FJ (p:=y) f fun A b2 e=>⟨_,by rw[cc,aP b2];rfl,_,by rw[cc,aP b2];rfl,k _ (k1.trans e fun x hx=>.inr (fg hx.symm))⟩
theorem EX{W:Nat→Prop}{h:ad}{b:Nat}{s:Slots}(nd:NodeAt W h b s){i:Nat}(hi:i<32){K:Option Addr×Bool→ad→Prop}(f:K ((s.k i).getD none,(s.k i).isSome) h):
  HC PG kM [.pointer (some ⟨b,0,none⟩),.int .i64 i] [.c .ptr,.c .bool] K h:=by
 refine EE _ i ?_;unfold w6 bL dE eW ce mX;obtain⟨d,n,sp,sk,ow,e,bits,q,c,j,k⟩:=nd.ex;refine LJ e (C3 bits.n32 hi ?_);rw[bits.nk i hi];cases hp:s.k i with
 |none=>rw[hp]at f;exact aB.2 f
 |some y=>
  rw[hp]at f;refine aj.2 ⟨_,rfl,sk,eu (i:=3) e,_,rfl,_,eu (i:=1) e,qg bits.n32 hi ⟨eu (i:=3) e,?_⟩⟩;have o:=IV hi bits.nk hp;obtain⟨a,p,_,m⟩:=c.at (SR hi bits.nk hp);have g:=c.len;exact⟨by omega,a,p,y,m 0 _ rfl,f⟩
theorem LG{W:Nat→Prop}{h:ad}{b d n:Nat}{sp sk:SliceV}{e:Bool}{ow:Option Addr}{l:List Pr}(a:h[b]? =some (.cells (fu d n sp sk e ow) bi (0,0))) (c:Sl kK 2 W h sp l) (g:l.length≤1000000000) {K:SliceV→ad→Prop}
  (f:∀s' h',OwnS kK 2 au (fun x=>h.size≤x) h' s' l→Upd No h h'→K s' h'):HC PG ll [.pointer (some ⟨b,0,none⟩)] [.c .slice] K h:=by
 refine B4 _ ?_;unfold uv ce;exact aj.2 ⟨_,rfl,sp,eu (i:=2) a,yJ c (by omega) f⟩
structure BuckAt(W:Nat→Prop)(h:ad)(b:Nat)(l:List Pr):Prop where
 ex:∃sp sk ow,h[b]? =some (.cells (fu 0 0 sp sk true ow) bi (0,0))∧Sl kK 2 W h sp l∧Sl tP 1 W h sk []∧sp.len≤sp.cap∧sk.len≤sk.cap
 nw:¬W b
theorem BuckAt.upd{W M:Nat→Prop}{h h':ad}{b:Nat}{l:List Pr}(n:BuckAt W h b l)(k:Upd M h h')(hm:∀b,M b→W b∨h.size≤b):BuckAt W h' b l:=by
 obtain⟨sp,sk,ow,a,c,g,e,d⟩:=n.ex;exact⟨⟨sp,sk,ow,k.get a (fun f=>(hm _ f).elim n.nw fun h=>by have:=bv a;omega),c.upd k hm,g.upd k hm,e,d⟩,n.nw⟩
theorem SH{W:Nat→Prop}{h:ad}{b:Nat}{l:List Pr}(u:BuckAt W h b l)(o:eH l)(n:l.length≤1000000000)(k:ByteArray){K:ByteArray×Bool→ad→Prop}
  (i:∀h' v,Upd No h h'→(cu l k=true→(k,v)∈l)→(cu l k=false→v=⟨#[]⟩)→K (v,cu l k) h'):HC PG pR [.pointer (some ⟨b,0,none⟩),.string k] [.c .str,.c .bool] K h:=by
 refine OE _ k ?_;unfold G4 dE bE El;obtain⟨sp,sk,ow,y,m,t,w,A⟩:=u.ex;refine LG y m n fun z x j f=>?_
 have d:Sl kK 2 No x z l:=j.sl fun _ _ _ h=>h
 refine JY d o n k fun B c=>?_
 cases ht:cu l k with
 |false=>rw[ht]at i;exact aB.2 (i _ _ (f.tr c) (fun h=>by cases h) fun _=>rfl)
 |true=>
  rw[ht]at i;obtain⟨g,e⟩:=JF o ht;obtain⟨a,s,_,q⟩:=(d.upd c fun _ h=>h.elim).at (ag g)
  have p:=d.len;refine aj.2 ⟨by simp only;omega,a,s,_,q 1 _ rfl,i _ _ (f.tr c) (fun _=>?_) fun h=>by cases h⟩
  have:(k,l[pos l k].2)=l[pos l k]:=Prod.ext e.symm rfl;rw[this];exact List.getElem_mem g
theorem Vh{W:Nat→Prop}{h:ad}{b:Nat}{l:List Pr}(d:BuckAt W h b l)(g:eH l)(a:l.length≤1000000000)(k:ByteArray){K:ByteArray×Bool→ad→Prop}
 (f:∀h' v,Upd No h h'→(cu l k=true→(k,v)∈l)→K (v,cu l k) h'):HC PG pR [.pointer (some ⟨b,0,none⟩),.string k] [.c .str,.c .bool] K h:=SH d g a k fun h' v c e _=>f h' v c e
end Go.Proofs
namespace Go.Proofs
open Go.Lift
set_option maxRecDepth 4000 in
theorem O8{W:Nat→Prop}{h:ad}{b:Nat}{l:List Pr}(nd:BuckAt W h b l)(T:l.length≤1000000000){K:Option Addr→ad→Prop}
  (G:∀h' sp sk,h'[h.size]? =some (.cells (fu 0 0 sp sk true none) bi (0,0))→OwnS kK 2 au (fun x=>h.size<x∧x<h'.size) h' sp l→OwnS tP 1 bK (fun x=>h.size<x∧x<h'.size) h' sk []→Upd No h h'→K (some ⟨h.size,0,none⟩) h'):
  HC PG fR [.pointer (some ⟨b,0,none⟩),.pointer none] [.c .ptr] K h:=by
 obtain⟨sp,sk,ow,a,D,y,O,Q⟩:=nd.ex;refine wS _ none ?_;unfold ru cq ci nv eW ce iY gO Q8 Vs;refine Iu (aj.2 ?_);have c:∀{h:ad} {b:Nat} {c:Array Value} {i:Nat},h[b]? =some (.cells c bi (0,0))→aC h ⟨b,0+i,none⟩=c[i]?:=fun a=>by rw[aI];exact aP a
 refine⟨_,rfl,_,c (i:=0) a,_,c (i:=1) a,sp,c (i:=2) a,sk,c (i:=3) a,_,c (i:=4) a,_,c (i:=5) a,?_⟩;have k1:=Upd.hnew No h [.int .u32 0,.int .u32 0,.slice none 0 0,.slice none 0 0,.bool false,.pointer none] bi;have b1:=bG h [.int .u32 0,.int .u32 0,.slice none 0 0,.slice none 0 0,.bool false,.pointer none] bi;refine aY ?_;simp only[cV h];generalize hnew h [.int .u32 0,.int .u32 0,.slice none 0 0,.slice none 0 0,.bool false,.pointer none] bi=h1 at k1 b1
 have H:gP h1 ⟨h.size,0,none⟩ 0 [.int .u32 ((0:Nat):Int),.int .u32 ((0:Nat):Int),.slice sp.a sp.len sp.cap,.slice sk.a sk.len sk.cap,.bool true,.pointer ow]=_:=iS _ h1 0 0 _ b1 (by simp);refine⟨.inr ⟨_,rfl,fun j R=>by rw[cc];exact ij b1 (by simp at R⊢;omega)⟩,aY ?_⟩
 rw[H];have b2:=iB (o:=.cells (fu 0 0 sp sk true ow) bi (0,0)) b1;have p:Upd No h _:=k1.trans (M':=(· =h.size)) (Upd.set h1 (.cells (fu 0 0 sp sk true ow) bi (0,0)) rfl) fun x hx=>.inr (fg hx.symm)
 have t:h.size<(h1.setIfInBounds h.size (.cells (fu 0 0 sp sk true ow) bi (0,0))).size:=bv b2;have N:h.size≠b:=fun e=>by have:=bv a;omega
 have e2:(Obj.cells (List.take (0+0) [Value.int .u32 0,.int .u32 0,.slice none 0 0,.slice none 0 0,.bool false,.pointer none]++ [Value.int .u32 ((0:Nat):Int),.int .u32 ((0:Nat):Int),.slice sp.a sp.len sp.cap,.slice sk.a sk.len sk.cap,.bool true,.pointer ow]++List.drop (0+0+ [Value.int .u32 ((0:Nat):Int),.int .u32 ((0:Nat):Int),.slice sp.a sp.len sp.cap,.slice sk.a sk.len sk.cap,.bool true,.pointer ow].length) [Value.int .u32 0,.int .u32 0,.slice none 0 0,.slice none 0 0,.bool false,.pointer none]).toArray bi (0,0))=.cells (fu 0 0 sp sk true ow) bi (0,0):=rfl
 rw[e2];generalize h1.setIfInBounds h.size (.cells (fu 0 0 sp sk true ow) bi (0,0))=h2 at b2 p t;have m:=p.get0 a;refine⟨_,rfl,sp,c (i:=2) m,_,rfl,sk,c (i:=3) m,?_⟩;refine yJ (D.upd p fun _ h=>h.elim) (by omega) fun s Z u f=>?_
 refine⟨c (i:=3) (f.get0 m),?_⟩;refine I8 ((y.upd p fun _ h=>h.elim).upd f fun _ h=>h.elim) (by simp) fun F V C g=>?_
 have J:=g.get0 (f.get0 b2);have n:=u.within.upd g fun _ _ h=>h
 have q:=C.within;have z3:=f.size;have X:=g.size;have w:∀{h:ad} {c:Array Value} {x i:Nat},h[x]? =some (.cells c bi (0,0))→i<c.size→Wr h ⟨x,0+i,none⟩:=fun a hi=>by rw[aI];exact ij a hi
 have st:∀{h:ad} {c c':Array Value} {x i:Nat} {v:Value} {k:ad→Prop},h[x]? =some (.cells c bi (0,0))→c.setIfInBounds i v=c'→(∀h',h'[x]? =some (.cells c' bi (0,0))→Upd (· =x) h h'→k h')→At (hset h ⟨x,i,none⟩ v) k:=fun a e G=>wB a fun h' B P=>G h' (e▸B) P
 refine⟨w (i:=2) J (show 2<6 by decide),st (i:=2) (c':=fu 0 0 s sk true ow) J rfl fun U L z=>?_⟩
 refine⟨w (i:=3) L (show 3<6 by decide),st (i:=3) (c':=fu 0 0 s F true ow) L rfl fun h6 I A=>?_⟩
 refine⟨w (i:=5) I (show 5<6 by decide),st (i:=5) (c':=fu 0 0 s F true none) I rfl fun h7 S E=>?_⟩
 refine xA (aj.2 ?_);have d:=z.tr (A.tr E);have Y:=d.size;refine G _ s F S ((n.upd d fun x hx e=>?_).more fun x hx=>?_) ((q.upd d fun x hx e=>?_).more fun x hx=>?_) ?_
 ·have e:x=h.size:=e;omega
 ·omega
 ·have e:x=h.size:=e;omega
 ·omega
 ·exact((p.tr f).tr g).trans d fun x hx=>.inr (fg hx.symm)
theorem Km{W:Nat→Prop}{h:ad}{b:Nat}{l:List Pr}(A:BuckAt W h b l)(n:∀x,W x→x<h.size)(F:eH l)(q:l.length≤1000000000)(p:Pr){K:Option Addr→ad→Prop}
  (H:∀h' b',BuckAt W h' b' (JS l p)→Upd No h h'→K (some ⟨b',0,none⟩) h'):
  HC PG iT [.pointer (some ⟨b,0,none⟩),.pointer none,.agg #[.string p.1,.string p.2]] [.c .ptr] K h:=by
 refine EC _ none p ?_;unfold wY aq ci ce iY xn A0;have k1:=Upd.hnew No h [.string p.1,.string p.2] au;have b1:=bG h [.string p.1,.string p.2] au;refine aY ?_;simp only[cV h];generalize hnew h [.string p.1,.string p.2] au=h1 at k1 b1;have I:=bv b1;have k:=A.upd k1 fun _ h=>h.elim
 obtain⟨sp,sk,ow,D,E,z,B,C⟩:=k.ex;refine j3 D (aj.2 ?_);refine O8 k q fun N w s b2 v u c=>?_
 have g:=c.get0 b1;refine⟨_,rfl,w,eu (i:=2) b2,p.1,by rw[cc,aP g];rfl,p.2,by rw[cc,aP g];rfl,?_⟩
 refine NC (v.sl fun _ _ _ h=>h) v.cap F q p fun t L f a=>?_
 have b3:=a.get0 b2;refine⟨_,rfl,TS (i:=2) b3 (show 2<6 by decide),Ho (i:=2) (c':=fu 0 0 t s true none) b3 rfl fun y G d=>?_⟩
 have J:=bv b2;have o:=f.upd d fun x hx e=>by have e:x=h1.size:=e;omega
 have m:=(u.upd a fun _ _ h=>h).upd d fun x hx e=>by have e:x=h1.size:=e;omega
 refine H y h1.size ⟨⟨t,s,none,G,o.sl fun x hx _ j=>?_,m.sl fun x hx _ j=>?_,f.cap,u.cap⟩,fun j=>?_⟩ (((k1.tr c).tr a).trans d fun x hx=>.inr ?_)
 ·have:=n x j;have:=c.size;omega
 ·have:=n x j;omega
 ·have:=n _ j;omega
 ·have hx:x=h1.size:=hx
  omega
theorem QG{W:Nat→Prop}{h:ad}(b:∀x,W x→x<h.size){K:Option Addr→ad→Prop}(a:∀h' b',BuckAt W h' b' []→Upd No h h'→K (some ⟨b',0,none⟩) h'):HC PG uT [] [.c .ptr] K h:=by
 refine HQ ?_;unfold zQ;exact a _ _ ⟨⟨⟨none,0,0⟩,⟨none,0,0⟩,none,bG h _ _,Sl.nil ko,Sl.nil sF,ax _,ax _⟩,fun hx=>jw _ (b _ hx)⟩ (Upd.hnew No h _ _)
theorem rW{W:Nat→Prop}{h:ad}(b:∀x,W x→x<h.size){K:Option Addr→ad→Prop}(a:∀h' b',NodeAt W h' b' ⟨fun _=>none,fun _=>none⟩→Upd No h h'→K (some ⟨b',0,none⟩) h'):HC PG oU [] [.c .ptr] K h:=by
 refine KA ?_;unfold Co Q8;have e1:fm (fun _=>(none:Option Pr)) 32= []:=by simp[fm]
 have e2:fm (fun _=>(none:Option (Option Addr))) 32= []:=by simp[fm]
 refine a _ _ ⟨⟨0,0,⟨none,0,0⟩,⟨none,0,0⟩,none,bG h _ _,⟨by decide,by decide,fun c _=>by simp,fun c _=>by simp⟩,?_,?_,ax _,ax _⟩,fun hx=>jw _ (b _ hx)⟩ (Upd.hnew No h _ _)
 ·show Sl kK 2 W _ _ (fm (fun _=>none) 32)
  rw[e1];exact Sl.nil ko
 ·show Sl tP 1 W _ _ (fm (fun _=>none) 32)
  rw[e2];exact Sl.nil sF
end Go.Proofs
namespace Go.Proofs
open Go.Lift
def jA(p:Pr):List Pr→List Pr
 | []=> [p]
 |q::l=>if kl q.1 p.1 then q::jA p l else if q.1=p.1 then p::l else p::q::l
theorem mf(p q:Pr)(l:List Pr):jA p (q::l)=if kl q.1 p.1 then q::jA p l else if q.1=p.1 then p::l else p::q::l:=rfl
theorem E2(p:Pr):∀{l:List Pr},eH l→JS l p=jA p l
 | [],_=>by simp[JS,jA,pos,cu]
 |q::l,d=>by
  have d:=bS.1 d;unfold jA;have a:pos (q::l) p.1=if kl q.1 p.1 then pos l p.1+1 else 0:=by
   unfold pos;rw[List.takeWhile_cons];by_cases h:kl q.1 p.1
   ·rw[if_pos (by simpa using h),if_pos h];rfl
   ·rw[if_neg (by simpa using h),if_neg h];rfl
  have c:cu (q::l) p.1=(decide (q.1=p.1)||cu l p.1):=by unfold cu;rw[List.any_cons]
  by_cases h:kl q.1 p.1
  ·have f:q.1≠p.1:=fun e=>by rw[e]at h;exact eN _ h
   rw[if_pos h,←E2 p d.2];unfold JS;rw[c,a,if_pos h,decide_eq_false f,Bool.false_or];by_cases b:cu l p.1=true
   ·rw[if_pos b,if_pos b];rfl
   ·rw[if_neg b,if_neg b];rfl
  ·rw[if_neg h]
   unfold JS;rw[c,a,if_neg h];by_cases e:q.1=p.1
   ·rw[if_pos e,decide_eq_true e,Bool.true_or,if_pos rfl];rfl
   ·have g:=FY h e
    have b:cu l p.1=false:=by
     unfold cu;rw[List.any_eq_false];intro r i e2;have e2:=of_decide_eq_true e2;have:=d.1 r i;rw[e2]at this;exact eN _ (qC g this)
    rw[if_neg e,decide_eq_false e,b];rfl
theorem Bl{p q:Pr}:∀{l:List Pr},q∈jA p l→q=p∨q∈l
 | [],h=>by simp[jA]at h;exact .inl h
 |r::l,h=>by
  unfold jA at h;split at h
  ·rcases aA.1 h with h|h
   ·exact .inr (h▸aU ..)
   ·exact(Bl h).imp id fun h=>bj _ h
  ·split at h
   ·rcases aA.1 h with h|h
    ·exact .inl h
    ·exact .inr (bj _ h)
   ·rcases aA.1 h with h|h
    ·exact .inl h
    ·exact .inr h
theorem Ij(p:Pr):∀{l:List Pr},eH l→eH (jA p l)
 | [],_=>List.pairwise_singleton ..
 |q::l,a=>by
  have c:=a;have a:=bS.1 a;unfold jA;split
  ·rename_i h
   refine bS.2 ⟨fun r hm=>?_,Ij p a.2⟩
   rcases Bl hm with rfl|hm
   ·exact h
   ·exact a.1 r hm
  ·rename_i h
   split
   ·rename_i e
    exact bS.2 ⟨fun r hm=>e▸a.1 r hm,a.2⟩
   ·rename_i e
    have b:=FY h e;refine bS.2 ⟨fun r hm=>?_,c⟩
    rcases aA.1 hm with rfl|hm
    ·exact b
    ·exact qC b (a.1 r hm)
theorem Gd(p:Pr)(g:ByteArray→Bool):∀{l:List Pr},eH l→(jA p l).filter (fun q=>g q.1)=if g p.1 then jA p (l.filter fun q=>g q.1)else l.filter fun q=>g q.1
 | [],_=>by
  unfold jA;rw[dy,List.filter_nil]
 |q::l,c=>by
  have k:=c;have c:=bS.1 c;have j:=Gd p g c.2;rw[mf];by_cases h:kl q.1 p.1
  ·rw[if_pos h,dy,dy,j]
   by_cases f:g q.1=true
   ·rw[if_pos f,if_pos f]
    split
    ·rw[mf,if_pos h]
    ·rfl
   ·rw[if_neg f,if_neg f]
  ·rw[if_neg h]
   by_cases e:q.1=p.1
   ·rw[if_pos e,dy,dy,e]
    by_cases a:g p.1=true
    ·rw[if_pos a,if_pos a,if_pos a,mf,if_neg h,if_pos e]
    ·rw[if_neg a,if_neg a,if_neg a]
   ·rw[if_neg e]
    have d:=FY h e;rw[dy];by_cases a:g p.1=true
    ·rw[if_pos a,if_pos a]
     have:∀r∈(q::l).filter (fun q=>g q.1),kl p.1 r.1:=fun r hm=>by
      rcases aA.1 (List.mem_filter.1 hm).1 with rfl|hm
      ·exact d
      ·exact qC d (c.1 r hm)
     cases hf:(q::l).filter (fun q=>g q.1)with
     |nil=>rfl
     |cons r rs=>
      have b:=this r (by rw[hf];exact aU ..);rw[mf,if_neg fun i=>eN _ (qC b i),if_neg fun e=>by rw[e]at b;exact eN _ b]
    ·rw[if_neg a,if_neg a]
theorem E1{p:Pr}:∀{l:List Pr},eH l→p∈l→jA p l=l
 |q::l,a,hm=>by
  have a:=bS.1 a;unfold jA;rcases aA.1 hm with rfl|hm
  ·rw[if_neg (eN _),if_pos rfl]
  ·rw[if_pos (a.1 p hm),E1 a.2 hm]
def ck(x:Hs)(lev:Nat)(k:ByteArray):Nat:=((i5 x k).toNat>>>(5*lev))%32
theorem Gy(x:Hs)(lev:Nat)(k:ByteArray):ck x lev k<32:=pZ _ (by omega)
def part(x:Hs)(lev c:Nat)(l:List Pr):List Pr:=l.filter fun p=>decide (ck x lev p.1=c)
def TrieAt(W:Nat→Prop)(x:Hs)(h:ad):Nat→Nat→List Pr→Prop
 |0,b,l=>BuckAt W h b l
 |m+1,b,l=>∃s,NodeAt W h b s∧∀c,c<32→
  ((part x (12-m) c l= []∧s.p c=none∧s.k c=none)∨(∃p,part x (12-m) c l= [p]∧s.p c=some p∧s.k c=none)∨
   (2≤(part x (12-m) c l).length∧s.p c=none∧∃kb,s.k c=some (some ⟨kb,0,none⟩)∧TrieAt W x h m kb (part x (12-m) c l)))
theorem TrieAt.upd0{W:Nat→Prop}{x:Hs}{h h':ad}(k:Upd No h h'):∀{m b:Nat} {l:List Pr},TrieAt W x h m b l→TrieAt W x h' m b l
 |0,_,_,t=>BuckAt.upd t k fun _ h=>h.elim
 |_+1,_,_,⟨s,nd,hc⟩=>⟨s,nd.upd k fun _ h=>h.elim,fun c a=>(hc c a).imp id fun o=>o.imp id fun⟨d,i,g,e,f⟩=>⟨d,i,g,e,TrieAt.upd0 k f⟩⟩
theorem NodeAt.less{W W':Nat→Prop}{h:ad}{b:Nat}{s:Slots}(n:NodeAt W h b s)(hm:∀b,W' b→W b∨h.size≤b):NodeAt W' h b s:=by
 obtain⟨d,m,sp,sk,ow,a,i,c,g,f,e⟩:=n.ex;exact⟨⟨d,m,sp,sk,ow,a,i,c.less hm,g.less hm,f,e⟩,fun hx=>(hm _ hx).elim n.nw fun h=>by have:=bv a;omega⟩
theorem BuckAt.less{W W':Nat→Prop}{h:ad}{b:Nat}{l:List Pr}(n:BuckAt W h b l)(hm:∀b,W' b→W b∨h.size≤b):BuckAt W' h b l:=by
 obtain⟨sp,sk,ow,a,c,f,e,d⟩:=n.ex;exact⟨⟨sp,sk,ow,a,c.less hm,f.less hm,e,d⟩,fun hx=>(hm _ hx).elim n.nw fun h=>by have:=bv a;omega⟩
theorem TrieAt.less{W W':Nat→Prop}{x:Hs}{h:ad}(hm:∀b,W' b→W b∨h.size≤b):∀{m b:Nat} {l:List Pr},TrieAt W x h m b l→TrieAt W' x h m b l
 |0,_,_,t=>BuckAt.less t hm
 |_+1,_,_,⟨s,nd,hc⟩=>⟨s,nd.less hm,fun c a=>(hc c a).imp id fun o=>o.imp id fun⟨d,i,g,e,f⟩=>⟨d,i,g,e,TrieAt.less hm f⟩⟩
theorem TrieAt.updM{W M:Nat→Prop}{x:Hs}{h h':ad}(k:Upd M h h')(hm:∀b,M b→W b∨h.size≤b):∀{m b:Nat} {l:List Pr},TrieAt W x h m b l→TrieAt W x h' m b l
 |0,_,_,t=>BuckAt.upd t k hm
 |_+1,_,_,⟨s,nd,hc⟩=>⟨s,nd.upd k hm,fun c a=>(hc c a).imp id fun o=>o.imp id fun⟨d,i,g,e,f⟩=>⟨d,i,g,e,TrieAt.updM k hm f⟩⟩
end Go.Proofs
