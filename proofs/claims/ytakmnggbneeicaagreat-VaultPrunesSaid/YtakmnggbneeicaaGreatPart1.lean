/- A part of the proof that the named laws of this program answer true, whatever the input. -/
import Derived.Test.YtakmnggbneeicaaGreatPart0
import Derived.Test.YtakmnggbneeicaaGreatLift3
import Derived.IntWalk
open BitVec renaming ofInt→aA,ofInt_natCast→lS,getLsbD_ofNat→lU
open Bool renaming eq_iff_iff→eJ
open Go.IntKind renaming wrap→ac,bits→ak
open Int renaming fdiv→eS,toNat_natCast→bf
open List renaming length_append→ae,replicate→fh,replicate_succ→mC,flatMap_cons→aU,length_cons→au,take_succ_eq_append_getElem→av,flatten_append→mE,flatten_cons→jd,flatten_nil→pB,append_nil→be,getElem?_eq_getElem→af,length→jc,take_of_length_le→aS,any_eq_true→bT,length_drop→aX,length_singleton→bh,range→gc,range_add→sI,mem_range→fj,filterMap_cons→jm,mem_cons_self→ar,mem_cons_of_mem→ax,filterMap_append→kG,take_left'→cK,drop_left'→cA,drop_drop→cL,take_length→bP,getElem_mem→aH,mem_append→aF,mem_singleton→al,takeWhile_append_dropWhile→fJ,mem_map→aP,nodup_cons→dJ,mem_append_left→bQ,mem_append_right→bW
open Nat renaming le_refl→ai,zero_le→aN,testBit_and→ki,testBit_two_pow_sub_one→kQ,shiftRight_eq_div_pow→mu,lt_of_le_of_lt→ga,and_le_right→pz,min_eq_left→bZ,shiftRight_le→oH,mod_eq_of_lt→jx,testBit_lt_two_pow→oG,lt_of_lt_of_le→az,zero_add→aO,le_of_eq→cC,not_lt→de
open UInt8 renaming ofNat→uf
namespace Go.Proofs
open Go.Lift
theorem OwnS.zero{α:Type}{f:α→List Value}{sz:Nat}{t:TypeId}{M:Nat→Prop}{h:ad}{s:SliceV}{xs:List α}(c:OwnS f sz t M h s xs):OwnS f sz t M h ⟨aV s.a 0 s.cap sz,0-0,s.cap-0⟩ []:=by
 have e:∀x,(f x).length=sz∧0<sz:=c.ne;have d:=c.len;have g:=c.cap;refine⟨rfl,e,by simp only;omega,?_⟩
 rcases c.blk with k|⟨b,a,j,hb,hc,i⟩
 ·exact .inl (by simp only;omega)
 ·refine .inr ⟨b,xs.flatMap f++a,by rw[j,sub_zero],hb,hc,?_⟩
  rw[ae,iV e,i,←Nat.add_mul];simp only;congr 1;omega
def OM:Pr:=(⟨#[]⟩,⟨#[]⟩)
theorem OK(n:Nat):cU n [.string (⟨#[]⟩:ByteArray),.string (⟨#[]⟩:ByteArray)]=(fh n OM).flatMap dQ:=by
 unfold cU;induction n with
 |zero=>rfl
 |succ n ih=>rw[mC,mC,aU,←ih];rfl
theorem U6{n:Nat}(c:n*32≤140737488355328){h:ad}{K:SliceV→ad→Prop}(a:∀s' h',OwnS dQ 2 33 (fun b=>h.size≤b) h' s' []→Upd No h h'→K s' h'):
  eP 307 [.slice none 0 0,.int .i64 n] K h:=by
 refine cW (ij ⟨none,0,0⟩ n) mV Tryz.func307 Tryz.call307 ?_;unfold ij mY;have e:ac .i64 ((n:Int)-ac .i64 (((0:Nat):Int)-((0:Nat):Int)))=(n:Int):=by rw[df (x:=((0:Nat):Int)-((0:Nat):Int)) (by omega),df (by omega)];omega
 refine Join.plain (ao (fun h=>by omega) fun _=>?_)
 simp only[Bd];rw[e];refine ao (fun j=>?_) fun i=>a _ _ (OwnS.nil fc) (Upd.refl _ _)
 refine⟨by omega,⟨by omega,by omega,by omega,by omega⟩,?_⟩
 refine AppP.own (f:=dQ) (M:=fun b=>h.size≤b) (xs:= []) (ys:=fh n OM) (OwnS.nil fc) (by simp) (OK _) (by rw[OK];exact vC _) rfl (by omega) (by simpa using c) (ai _) fun s' h' g d=>?_
 exact⟨by omega,a _ _ (OwnS.zero g) (d.mono fun b hb=>.inr hb)⟩
abbrev Yk(s:SliceV):List Value:= [.slice s.a s.len s.cap]
def ParS(h:ad):List SliceV→List (List Pr)→Prop
 | [],[]=>True
 |v::vs,l::ls=>Sl dQ 2 No h v l∧ParS h vs ls
 |_,_=>False
theorem ParS.upd{h h':ad}(k:Upd No h h'):∀{vs:List SliceV} {ls:List (List Pr)},ParS h vs ls→ParS h' vs ls
 | [],[],_=>trivial
 |_::_,_::_,q=>⟨q.1.upd k fun _ h=>h.elim,ParS.upd k q.2⟩
 | [],_::_,q=>q.elim
 |_::_,[],q=>q.elim
theorem ParS.len{h:ad}:∀{vs:List SliceV} {ls:List (List Pr)},ParS h vs ls→vs.length=ls.length
 | [],[],_=>rfl
 |_::_,_::_,q=>by rw[au,au,ParS.len q.2]
 | [],_::_,q=>q.elim
 |_::_,[],q=>q.elim
theorem ParS.at{h:ad}:∀{vs:List SliceV} {ls:List (List Pr)},ParS h vs ls→∀{i:Nat} (h1:i<vs.length) (h2:i<ls.length),Sl dQ 2 No h vs[i] ls[i]
 |_::_,_::_,q,0,_,_=>q.1
 |_::_,_::_,q,i+1,h1,h2=>ParS.at q.2 (by simpa using h1) (by simpa using h2)
theorem Ih(ls:List (List Pr)){i:Nat}(hi:i<ls.length):(ls.take (i+1)).flatten=(ls.take i).flatten++ls[i]:=by
 rw[av hi,mE,jd,pB,be]
theorem PH(ls:List (List Pr))(i:Nat):(ls.take i).flatten.length≤ls.flatten.length:=by
 have:ls.flatten=(ls.take i).flatten++(ls.drop i).flatten:=by rw[←mE,List.take_append_drop]
 rw[this,ae];omega
theorem Im{h:ad}{s:SliceV}{vs:List SliceV}{ls:List (List Pr)}(D:Sl Yk 1 No h s vs)(w:ParS h vs ls)(J:ls.flatten.length*32≤140737488355328)(hv:vs.length≤1000)
  {K:SliceV→ad→Prop}(P:∀s' h',OwnS dQ 2 33 (fun b=>h.size≤b) h' s' ls.flatten→Upd No h h'→K s' h'):eP 282 [.slice s.a s.len s.cap] K h:=by
 refine cW (gF s) mf Tryz.func282 Tryz.call282 ?_;dsimp only[gF,cB,mY,jA,fQ];have E:=D.len;have e:=w.len;refine LoopP.ghost (fun(i:Nat) (t:Int×Int) h'=>t.2=(i:Int)∧i≤vs.length∧t.1=((ls.take i).flatten.length:Int)∧h'=h) (fun i=>vs.length-i) 0 ⟨rfl,aN _,by simp,rfl⟩ ?_
 rintro I i ⟨Y,X⟩ h' ⟨m,hi,F,rfl⟩ N;(try simp only at m F)
 subst m F;refine ao (fun c=>?_) fun u=>?_
 ·have c:i<vs.length:=by have:(i:Int)<(s.len:Int):=c;omega
  obtain⟨a,z,_,f⟩:=D.at (af c);have L:=(w.at c (e▸c)).len;have d:=congrArg jc (Ih ls (e▸c));rw[ae]at d;have B:=PH ls (i+1);refine Join.plain ⟨by(try simp only);omega,a,z,_,f 0 _ rfl,?_⟩;(try simp only)
  have G:ac .i64 (((ls.take i).flatten.length:Int)+((vs[i]).len:Int))=((ls.take (i+1)).flatten.length:Int):=by rw[df (by omega)];omega
  rw[G];refine ao (fun h=>by omega) fun _=>?_
  rw[cp c (by omega)];exact N (i+1) _ _ ⟨rfl,c,rfl,rfl⟩ (by omega)
 ·have H:i=vs.length:=by have:¬(i:Int)<(s.len:Int):=u;omega
  rw[aS (by omega)];refine U6 J fun T Q q y=>?_
  refine LoopP.ghost (fun(i:Nat) (t:SliceV×Int) A=>t.2=(i:Int)∧i≤vs.length∧OwnS dQ 2 33 (fun b=>h'.size≤b) A t.1 (ls.take i).flatten∧Upd No h' A) (fun i=>vs.length-i) 0 ⟨rfl,aN _,by simpa using q,y⟩ ?_
  rintro S j ⟨U,Z⟩ A ⟨m,R,p,o⟩ v;(try simp only at m p)
  subst m;refine ao (fun c=>?_) fun g=>?_
  ·have c:j<vs.length:=by have:(j:Int)<(s.len:Int):=c;omega
   obtain⟨a,z,_,f⟩:=(D.upd o fun _ h=>h.elim).at (af c)
   have k:=((w.upd o).at c (e▸c));have d:=Ih ls (e▸c);have n:=congrArg jc d;rw[ae]at n;have B:=PH ls (j+1);refine Join.plain ⟨by(try simp only);omega,a,z,_,f 0 _ rfl,_,k.srow,?_⟩;refine AppP.own (ys:=ls[j]) p k.len rfl (vC _) rfl (by omega) (by omega) o.size fun W V x C=>?_
   (try simp only)
   rw[cp c (by omega)];exact v (j+1) _ _ ⟨rfl,c,d▸x,o.trans C fun b hb=>.inr hb⟩ (by omega)
  ·have O:j=vs.length:=by have:¬(j:Int)<(s.len:Int):=g;omega
   rw[aS (by omega)]at p;exact P _ _ p o
def JK(l:List Pr)(p:Pr):List Pr:=l.take (pos l p.1)++p::l.drop (if cy l p.1 then pos l p.1+1 else pos l p.1)
def QO(l:List Pr)(k:ByteArray):List Pr:=if cy l k then l.take (pos l k)++l.drop (pos l k+1)else l
theorem Jz{l:List Pr}(c:bM l){k:ByteArray}(ht:cy l k=true):∃h:pos l k<l.length,l[pos l k].1=k:=by
 unfold cy at ht;obtain⟨p,f,e⟩:=bT.1 ht;have e:=of_decide_eq_true e;obtain⟨q,b,rfl⟩:=List.mem_iff_getElem.1 f;have:pos l k=q:=Sj (by omega) (fun j d a=>by rw[←e];exact List.pairwise_iff_getElem.1 c j q d b a) fun h=>by rw[←e];exact bN _
 subst this;exact⟨b,e⟩
theorem Jm{h:ad}{s:SliceV}{l:List Pr}(a:Sl dQ 2 No h s l){i j m:Nat}(e:i≤j)(d:j≤l.length)(b:j≤m)(c:Nat):Sl dQ 2 No h ⟨aV s.a i m 2,j-i,c⟩ ((l.drop i).take (j-i)):=Sl.sub a e d b
theorem NC{h:ad}{s:SliceV}{l:List Pr}(y:Sl dQ 2 No h s l)(hc:s.len≤s.cap)(u:bM l)(H:l.length≤1000000000)(p:Pr)
  {K:SliceV→ad→Prop}(I:∀s' h',OwnS dQ 2 33 (fun b=>h.size≤b) h' s' (JK l p)→Upd No h h'→K s' h'):eP 240 [.slice s.a s.len s.cap,.agg #[.string p.1,.string p.2]] K h:=by
 refine cW (GC s p) OG Tryz.func240 Tryz.call240 ?_;dsimp only[GC,kJ,kR,mF,bi,l8,mN,D2,fY,p8,yg];have c:=y.len;have k1:=Upd.hnew No h [.string p.1,.string p.2] 33;have b1:=bU h [.string p.1,.string p.2] 33;refine bL ?_;simp only[cz h];generalize hnew h [.string p.1,.string p.2] 33=h1 at k1 b1;refine⟨p.1,by rw[ce,bd b1];rfl,JS (y.upd k1 fun _ h=>h.elim) u H p.1 fun G g=>?_⟩
 have B:=Sk l p.1;have a:=k1.tr g;refine⟨by(try simp only);omega,?_⟩;let q:=if cy l p.1 then pos l p.1+1 else pos l p.1
 have L:q≤l.length:=by
  show(if cy l p.1 then pos l p.1+1 else pos l p.1)≤l.length
  split
  ·rename_i ht;obtain⟨h,_⟩:=Jz u ht;omega
  ·exact B
 refine Join.intro (fun t h'=>h'=G∧t=⟨aV s.a q s.cap 2,s.len-q,s.cap-q⟩) (fun R z=>?_) ?_
 ·refine CondP.intro (fun e=>?_) fun e=>z _ _ ⟨rfl,?_⟩
  ·have e:cy l p.1=true:=e
   obtain⟨F,_⟩:=Jz u e;have D:ac .i64 ((pos l p.1:Int)+1)=((pos l p.1+1:Nat):Int):=by rw[df (by omega)];omega
   (try simp only)
   rw[D];refine⟨by omega,z _ _ ⟨rfl,?_⟩⟩;have:q=pos l p.1+1:=by show(if cy l p.1 then _ else _)=_;rw[if_pos e]
   rw[this];rfl
  ·have e:cy l p.1=false:=e
   have:q=pos l p.1:=by show(if cy l p.1 then _ else _)=_;rw[if_neg (by rw[e];decide)]
   rw[this];rfl
 ·rintro t h' ⟨rfl,rfl⟩
  have b2:=g.get0 b1;refine⟨by(try simp only);omega,p.1,by rw[ce,bd b2];rfl,p.2,by rw[ce,bd b2];rfl,?_⟩
  have n:=Upd.hnew No h' [.string p.1,.string p.2] 33;have b3:=bU h' [.string p.1,.string p.2] 33;refine bL ?_;simp only[cz h'];generalize hnew h' [.string p.1,.string p.2] 33=h3 at n b3;refine bL ?_;have d:=(y.upd a fun _ h=>h.elim).upd n fun _ h=>h.elim
  have k:=Upd.hnew No h3 [.slice (aV s.a 0 s.cap 2) ((pos l p.1:Int).toNat-0) (s.cap-0),.slice (some ⟨h'.size,0,none⟩) 1 1,.slice (aV s.a q s.cap 2) (s.len-q) (s.cap-q)] 256;have N:=bU h3 [.slice (aV s.a 0 s.cap 2) ((pos l p.1:Int).toNat-0) (s.cap-0),.slice (some ⟨h'.size,0,none⟩) 1 1,.slice (aV s.a q s.cap 2) (s.len-q) (s.cap-q)] 256;have A:=Jm d (i:=0) (j:=pos l p.1) (m:=s.cap) (aN _) B (by omega) (s.cap-0)
  have E:Sl dQ 2 No h3 ⟨some ⟨h'.size,0,none⟩,1,1⟩ [p]:=⟨rfl,fc,fun _=>⟨_,rfl,fun h=>h.elim,qU b3 fun i v hv=>by simpa using hv⟩⟩
  have w:=Jm d (i:=q) (j:=l.length) (m:=s.cap) L (ai _) (by omega) (s.cap-q);rw[←c]at w;rw[List.drop_zero]at A;rw[aS (by rw[aX];omega)]at w;have J:JK l p= [l.take (pos l p.1-0),[p],l.drop q].flatten:=by simp[JK,q]
  refine Im (s:=⟨some (aL h3),3,3⟩) (vs:= [⟨aV s.a 0 s.cap 2,(pos l p.1:Int).toNat-0,s.cap-0⟩,⟨some ⟨h'.size,0,none⟩,1,1⟩,⟨aV s.a q s.cap 2,s.len-q,s.cap-q⟩]) (ls:= [l.take (pos l p.1-0),[p],l.drop q])
   ⟨rfl,fun x=>⟨rfl,Nat.one_pos⟩,fun _=>⟨_,rfl,fun h=>h.elim,qU N fun i v hv=>by simpa[Yk]using hv⟩⟩ ⟨A.upd k fun _ h=>h.elim,E.upd k fun _ h=>h.elim,w.upd k fun _ h=>h.elim,trivial⟩ ?_ (by simp) fun O P f o=>?_
  ·simp only[jd,pB,ae,List.length_take,aX,bh,List.length_nil];omega
  ·rw[←J]at f
   have C:=((a.tr n).tr k);exact I _ _ (f.more fun b hb=>Nat.le_trans C.size hb) (C.tr o)
end Go.Proofs
namespace Go.Proofs
open Go.Lift
def vo(n d:Nat):Nat:=(gc n).countP (d.testBit ·)
theorem Ev(m n d:Nat):vo (m+n) d=vo m d+vo n (d>>>m):=by
 unfold vo;rw[sI,List.countP_append,List.countP_map];congr 1
 refine List.countP_congr fun i _=>?_
 simp[Nat.testBit_shiftRight]
theorem PK(d:Nat)(i:Nat):∀n,i≤n→vo n (d&&&(2^i-1))=vo i d:=by
 intro n a;obtain⟨m,rfl⟩:=Nat.exists_eq_add_of_le a;rw[Ev];have c:vo i (d&&&(2^i-1))=vo i d:=by
  unfold vo;refine List.countP_congr fun j b=>?_
  have:=fj.1 b;simp[this]
 have e:vo m ((d&&&(2^i-1))>>>i)=0:=by
  unfold vo;rw[List.countP_eq_zero];intro j _;simp[Nat.testBit_shiftRight];intro h;omega
 omega
theorem WA(d:Nat):vo 8 (d&&&255)=vo 8 d:=PK d 8 8 (ai _)
theorem zx(n d:Nat):vo n d≤n:=by
 have:=List.countP_le_length (p:=(d.testBit ·)) (l:=gc n)
 simpa[vo]using this
theorem rQ(d n:Nat):eS (d:Int) (2^n)=((d>>>n:Nat):Int):=by
 rw[Int.fdiv_eq_ediv_of_nonneg _ (by exact Int.le_of_lt (Int.pow_pos (by decide))),mu];simp
theorem TN(a b:Nat):(aA (ak .u32) (a:Int)&&&aA (ak .u32) (b:Int)).toNat=(a%4294967296)&&&(b%4294967296):=by
 simp[ak];rfl
theorem zZ{n:Nat}(h:n<4294967296):ac .u32 (n:Int)=(n:Int):=Go.IntWalk.u32_in _ (by omega)
theorem E7{i:Nat}(hi:i<32){h:ad}{K:Bool→ad→Prop}(a:K true h):fI 283 [.int .i64 i] K h:=by
 refine cW (yO i) .nil Tryz.func283 Tryz.call283 ?_;unfold yO;refine ao (fun _=>?_) fun h=>absurd (Int.natCast_nonneg i) h
 rw[decide_eq_true (by omega)];exact a
theorem Kh{a b:Nat}(h:b<4294967296):a&&&b<4294967296:=ga pz h
theorem B7{d i:Nat}(hd:d<4294967296)(hi:i<32){h:ad}{K:Bool→ad→Prop}(c:K (d.testBit i) h):fI 241 [.int .u32 d,.int .i64 i] K h:=by
 refine cW (vm d i) .nil Tryz.func241 Tryz.call241 ?_;unfold vm;refine E7 hi (aw.2 ⟨by omega,?_⟩);have e:min (i:Int).toNat (ak .u32)=i:=by rw[bf];exact bZ (by show i≤32;omega)
 rw[e,rQ];have a:=TN (d>>>i) 1;have b:d>>>i<4294967296:=ga (oH d i) hd;rw[jx b,show(1:Nat)%4294967296=1 from rfl]at a
 simp only[Bd];rw[show((1:Nat):Int)=(1:Int)from rfl]at a
 rw[a,zZ (Kh (by omega))];have f:(((d>>>i&&&1:Nat):Int)==(1:Int))=d.testBit i:=by
  rw[eJ,beq_iff_eq,Nat.testBit,Nat.and_comm];simp only[bne_iff_ne,ne_eq,Nat.one_and_eq_mod_two];have:(d>>>i)%2<2:=Nat.mod_lt _ (by omega);omega
 rw[f];exact c
theorem QW{d i:Nat}(hd:d<4294967296)(hi:i<32):∃w:Nat,ac .u32 (aA (ak .u32) (d:Int)|||aA (ak .u32) (ac .u32 (1*2^(min (i:Int).toNat (ak .u32))))).toNat=(w:Int)∧w<4294967296∧∀j,w.testBit j=(d.testBit j||decide (j=i)):=by
 have e:min (i:Int).toNat (ak .u32)=i:=by rw[bf];exact bZ (by show i≤32;omega)
 have g:2^i<4294967296:=Nat.pow_lt_pow_right (by omega) (show i<32 from hi)
 have f:(1*2^i:Int)=((2^i:Nat):Int):=by simp
 rw[e,f,zZ g];refine⟨_,zZ (BitVec.isLt _),BitVec.isLt _,fun j=>?_⟩
 rw[BitVec.testBit_toNat,BitVec.getLsbD_or,lS,lS,lU,lU,Nat.testBit_two_pow];by_cases a:j<32
 ·have:decide (j<ak .u32)=true:=decide_eq_true a
  rw[this];simp[eq_comm]
 ·have b:decide (j<ak .u32)=false:=decide_eq_false a
  have c:d.testBit j=false:=oG (az hd (Nat.pow_le_pow_right (n:=2) (by omega) (show 32≤j by omega)))
  rw[b,c];simp;omega
theorem OQ{d i:Nat}(hd:d<4294967296)(hi:i<32){h:ad}{K:Int→ad→Prop}(a:∀w:Nat,w<4294967296→(∀j,w.testBit j=(d.testBit j||decide (j=i)))→K (w:Int) h):xf 246 [.int .u32 d,.int .i64 i] K h:=by
 refine cW (uc d i) .nil Tryz.func246 Tryz.call246 ?_;unfold uc;refine E7 hi (ag.2 ⟨by omega,?_⟩);obtain⟨w,e,c,b⟩:=QW hd hi;simp only[Bd];rw[e];exact a w c b
theorem Kc{d i:Nat}(hd:d<4294967296)(hi:i<32):∃w:Nat,ac .u32 (aA (ak .u32) (d:Int)&&& ~~~aA (ak .u32) (ac .u32 (1*2^(min (i:Int).toNat (ak .u32))))).toNat=(w:Int)∧w<4294967296∧∀j,w.testBit j=(d.testBit j&&decide (j≠i)):=by
 have e:min (i:Int).toNat (ak .u32)=i:=by rw[bf];exact bZ (by show i≤32;omega)
 have g:2^i<4294967296:=Nat.pow_lt_pow_right (by omega) (show i<32 from hi)
 have f:(1*2^i:Int)=((2^i:Nat):Int):=by simp
 rw[e,f,zZ g];refine⟨_,zZ (BitVec.isLt _),BitVec.isLt _,fun j=>?_⟩
 rw[BitVec.testBit_toNat,BitVec.getLsbD_and,BitVec.getLsbD_not,lS,lS,lU,lU,Nat.testBit_two_pow];by_cases a:j<32
 ·have:decide (j<ak .u32)=true:=decide_eq_true a
  rw[this];simp[eq_comm]
 ·have b:decide (j<ak .u32)=false:=decide_eq_false a
  have c:d.testBit j=false:=oG (az hd (Nat.pow_le_pow_right (n:=2) (by omega) (show 32≤j by omega)))
  rw[b,c];simp
theorem EF{d i:Nat}(hd:d<4294967296)(hi:i<32){h:ad}{K:Int→ad→Prop}(a:∀w:Nat,w<4294967296→(∀j,w.testBit j=(d.testBit j&&decide (j≠i)))→K (w:Int) h):xf 287 [.int .u32 d,.int .i64 i] K h:=by
 refine cW (qh d i) .nil Tryz.func287 Tryz.call287 ?_;unfold qh;refine E7 hi (ag.2 ⟨by omega,?_⟩);obtain⟨w,e,c,b⟩:=Kc hd hi;simp only[Bd];rw[e];exact a w c b
abbrev Xc:ByteArray:=⟨#[0,1,1,2,1,2,2,3,1,2,2,3,2,3,3,4,1,2,2,3,2,3,3,4,2,3,3,4,3,4,4,5,1,2,2,3,2,3,3,4,2,3,3,4,3,4,4,5,2,3,3,4,3,4,4,5,3,4,4,5,4,5,5,6,1,2,2,3,2,3,3,4,2,3,3,4,3,4,4,5,2,3,3,4,3,4,4,5,3,4,4,5,4,5,5,6,2,3,3,4,3,4,4,5,3,4,4,5,4,5,5,6,3,4,4,5,4,5,5,6,4,5,5,6,5,6,6,7,1,2,2,3,2,3,3,4,2,3,3,4,3,4,4,5,2,3,3,4,3,4,4,5,3,4,4,5,4,5,5,6,2,3,3,4,3,4,4,5,3,4,4,5,4,5,5,6,3,4,4,5,4,5,5,6,4,5,5,6,5,6,6,7,2,3,3,4,3,4,4,5,3,4,4,5,4,5,5,6,3,4,4,5,4,5,5,6,4,5,5,6,5,6,6,7,3,4,4,5,4,5,5,6,4,5,5,6,5,6,6,7,4,5,5,6,5,6,6,7,5,6,6,7,6,7,7,8]⟩
theorem Uu:(gc 256).all (fun b=>decide (Xc[b]? =some (uf (vo 8 b))))=true:=by decide+kernel
theorem Jh{b:Nat}(h:b<256):Xc[b]? =some (uf (vo 8 b)):=of_decide_eq_true (List.all_eq_true.1 Uu b (fj.2 h))
theorem JZ(b:Nat):(uf (vo 8 b)).toNat=vo 8 b:=by
 have:=zx 8 b;simp;omega
theorem YM(d:Nat):vo 32 d=vo 8 (d>>>24)+vo 8 ((d>>>16)&&&255)+vo 8 ((d>>>8)&&&255)+vo 8 (d&&&255):=by
 rw[WA,WA,WA,show(32:Nat)=8+(8+(8+8))from rfl,Ev,Ev,Ev]
 simp only[←Nat.shiftRight_add,Nat.reduceAdd];omega
set_option maxRecDepth 100000 in
theorem UM{d:Nat}(hd:d<4294967296){h:ad}{K:Int→ad→Prop}(j:K (vo 32 d:Int) h):fH 308 [.int .u32 d] K h:=by
 refine cW (nR d) .nil Tryz.func308 Tryz.call308 ?_;dsimp only[nR,Ye];have e:eS (d:Int) (2^(min (24:Int).toNat (ak .u32)))=((d>>>24:Nat):Int):=rQ d 24;have f:eS (d:Int) (2^(min (16:Int).toNat (ak .u32)))=((d>>>16:Nat):Int):=rQ d 16;have k:eS (d:Int) (2^(min (8:Int).toNat (ak .u32)))=((d>>>8:Nat):Int):=rQ d 8
 have b:∀x:Nat,x<4294967296→ac .u32 (aA (ak .u32) (x:Int)&&&aA (ak .u32) 255).toNat=((x&&&255:Nat):Int):=fun x hx=>by
  have:=TN x 255;rw[jx hx]at this;rw[show((255:Nat):Int)=(255:Int)from rfl]at this
  rw[this,zZ (Kh (by omega))]
 have a:d>>>24<256:=by rw[mu];omega
 have i:∀x:Nat,x&&&255<256:=fun x=>ga pz (by omega)
 have g:d>>>16<4294967296:=ga (oH d 16) hd;have m:d>>>8<4294967296:=ga (oH d 8) hd;simp only[Bd];rw[e,f,k,b _ g,b _ m,b _ hd];refine⟨by decide,_,by omega,Jh (b:=d>>>24) a,by decide,_,by omega,Jh (i _),by decide,_,by omega,Jh (i _),_,by omega,Jh (i _),?_⟩
 rw[JZ,JZ,JZ,JZ];simp only[bf];have q:=zx 8 (d>>>24);have p:=zx 8 (d>>>16&&&255);have s:=zx 8 (d>>>8&&&255);have q4:=zx 8 (d&&&255);rw[YM]at j;have c:∀n:Nat,n≤255→ac .u8 (n:Int)=(n:Int):=fun n o=>Go.IntWalk.u8_in _ (by omega)
 rw[←Int.natCast_add,c _ (by omega),←Int.natCast_add,c _ (by omega),←Int.natCast_add,c _ (by omega),df (by omega)];exact j
theorem pH{d i:Nat}(hd:d<4294967296)(hi:i<32){h:ad}{K:Int→ad→Prop}(a:K (vo i d:Int) h):fH 242 [.int .u32 d,.int .i64 i] K h:=by
 refine cW (ud d i) .nil Tryz.func242 Tryz.call242 ?_;unfold ud;refine ao (fun b=>?_) fun b=>?_
 ·have:i=0:=by omega
  subst this;exact a
 ·refine ao (fun h=>by omega) fun _=>⟨by omega,?_⟩
  have e:min (i:Int).toNat (ak .u32)=i:=by rw[bf];exact bZ (by show i≤32;omega)
  have f:2^i<4294967296:=Nat.pow_lt_pow_right (by omega) (show i<32 from hi)
  have g:0<2^i:=Nat.pow_pos (by omega);have c:(1*2^i:Int)=((2^i:Nat):Int):=by simp
  have j:(((2^i:Nat):Int)-1)=((2^i-1:Nat):Int):=by omega
  simp only[Bd];rw[e,c,zZ f,j,zZ (show 2^i-1<4294967296 by omega),TN,jx hd,jx (show 2^i-1<4294967296 by omega),zZ (Kh (by omega))]
  refine zP _ ?_;unfold sE;refine UM (Kh (by omega)) ?_;rw[PK d i 32 (by omega)];exact a
end Go.Proofs
namespace Go.Proofs
open Go.Lift
def fm{β:Type}(g:Nat→Option β)(n:Nat):List β:=(gc n).filterMap g
def upd{β:Type}(g:Nat→Option β)(i:Nat)(x:Option β)(j:Nat):Option β:=if j=i then x else g j
theorem XM{β:Type}{f g:Nat→Option β}:∀l:List Nat,(∀j∈l,f j=g j)→l.filterMap f=l.filterMap g
 | [],_=>rfl
 |j::l,h=>by
  rw[jm,jm,h j (ar ..),XM l fun k a=>h k (ax _ a)]
section
variable {β:Type} {g:Nat→Option β} {d:Nat}
theorem FF(hd:∀c,c<32→d.testBit c=(g c).isSome){i:Nat}(hi:i≤32):(fm g i).length=vo i d:=by
 unfold fm vo;rw[List.length_filterMap_eq_countP];exact List.countP_congr fun j a=>by rw[hd j (by have:=fj.1 a;omega)]
theorem pZ{i n:Nat}(hi:i<n):fm g n=fm g i++((g i).toList++(gc (n-(i+1))).filterMap fun j=>g (i+1+j)):=by
 unfold fm;have e:n=i+(1+(n-(i+1))):=by omega
 rw[e,sI,kG,sI];have a:i+(1+(n-(i+1)))-(i+1)=n-(i+1):=by omega
 rw[a];congr 1
 rw[List.map_append,kG,List.map_map];congr 1
 rw[List.filterMap_map];refine XM _ fun j _=>?_
 show g (i+(1+j))=_
 rw[Nat.add_assoc]
theorem zq{i:Nat}{x:Option β}:fm (upd g i x) i=fm g i:=by
 unfold fm;refine XM _ fun j a=>?_
 have:=fj.1 a;unfold upd;rw[if_neg (by omega)]
theorem xi{i m:Nat}{x:Option β}:((gc m).filterMap fun j=>upd g i x (i+1+j))=(gc m).filterMap fun j=>g (i+1+j):=by
 refine XM _ fun j _=>?_
 unfold upd;rw[if_neg (by omega)]
theorem S6{i:Nat}(hi:i<32)(hd:∀c,c<32→d.testBit c=(g c).isSome)(b:g i=none)(x:β):fm (upd g i (some x)) 32=(fm g 32).take (vo i d)++x::(fm g 32).drop (vo i d):=by
 have a:=FF hd (i:=i) (by omega);rw[pZ (g:=upd g i (some x)) hi,pZ (g:=g) hi,zq,xi,b,cK a,cA a];simp[upd]
theorem S5{i:Nat}(hi:i<32)(hd:∀c,c<32→d.testBit c=(g c).isSome){y:β}(b:g i=some y)(x:β):fm (upd g i (some x)) 32=(fm g 32).take (vo i d)++x::(fm g 32).drop (vo i d+1):=by
 have a:=FF hd (i:=i) (by omega);rw[pZ (g:=upd g i (some x)) hi,pZ (g:=g) hi,zq,xi,b,cK a,←cL,cA a];simp[upd]
theorem S7{i:Nat}(hi:i<32)(hd:∀c,c<32→d.testBit c=(g c).isSome){y:β}(b:g i=some y):fm (upd g i none) 32=(fm g 32).take (vo i d)++(fm g 32).drop (vo i d+1):=by
 have a:=FF hd (i:=i) (by omega);rw[pZ (g:=upd g i none) hi,pZ (g:=g) hi,zq,xi,b,cK a,←cL,cA a];simp[upd]
theorem S8{i:Nat}(hi:i<32)(hd:∀c,c<32→d.testBit c=(g c).isSome){y:β}(b:g i=some y):(fm g 32)[vo i d]? =some y:=by
 have a:=FF hd (i:=i) (by omega);rw[pZ (g:=g) hi,b,List.getElem?_append_right (by omega),a,Nat.sub_self];rfl
theorem Ig{i:Nat}(hi:i<32)(hd:∀c,c<32→d.testBit c=(g c).isSome){y:β}(a:g i=some y):vo i d<(fm g 32).length:=(List.getElem?_eq_some_iff.1 (S8 hi hd a)).1
theorem VP{i:Nat}(hi:i<32)(hd:∀c,c<32→d.testBit c=(g c).isSome):vo i d≤(fm g 32).length:=by
 have a:=FF hd (i:=i) (by omega);rw[pZ (g:=g) hi,ae];omega
theorem AG:(fm g 32).length≤32:=by
 have:=List.length_filterMap_le g (gc 32);simpa[fm]using this
end
end Go.Proofs
namespace Go.Proofs
open Go.Lift
abbrev sv(s:SliceV):Value:=.slice s.a s.len s.cap
structure Slots where
 p:Nat→Option Pr
 k:Nat→Option (Option Addr)
def dY(d n:Nat)(sp sk:SliceV)(a:Bool)(ow:Option Addr):Array Value:= #[.int .u32 (d:Int),.int .u32 (n:Int),sv sp,sv sk,.bool a,.pointer ow]
structure BitsOf(d n:Nat)(s:Slots):Prop where
 d32:d<4294967296
 n32:n<4294967296
 dp:∀c,c<32→d.testBit c=(s.p c).isSome
 nk:∀c,c<32→n.testBit c=(s.k c).isSome
structure NodeAt(W:Nat→Prop)(h:ad)(b:Nat)(s:Slots):Prop where
 ex:∃d n sp sk ow,h[b]? =some (.cells (dY d n sp sk false ow) 324 (0,0))∧BitsOf d n s∧Sl dQ 2 W h sp (fm s.p 32)∧Sl qp 1 W h sk (fm s.k 32)∧sp.len≤sp.cap∧sk.len≤sk.cap
 nw:¬W b
theorem NodeAt.upd{W M:Nat→Prop}{h h':ad}{b:Nat}{s:Slots}(n:NodeAt W h b s)(k:Upd M h h')(hm:∀b,M b→W b∨h.size≤b):NodeAt W h' b s:=by
 obtain⟨d,m,sp,sk,ow,a,g,c,f,i,e⟩:=n.ex;exact⟨⟨d,m,sp,sk,ow,k.get a (fun hb=>(hm _ hb).elim n.nw fun h=>by have:=bw a;omega),g,c.upd k hm,f.upd k hm,i,e⟩,n.nw⟩
structure OwnN(M:Nat→Prop)(h:ad)(b d n:Nat)(sp sk:SliceV)(s:Slots)(ow:Option Addr):Prop where
 blk:h[b]? =some (.cells (dY d n sp sk false ow) 324 (0,0))
 bits:BitsOf d n s
 ex:∃A B:Nat→Prop,OwnS dQ 2 33 A h sp (fm s.p 32)∧OwnS qp 1 50 B h sk (fm s.k 32)∧(∀x,A x→M x∧¬B x∧x≠b∧x<h.size)∧(∀x,B x→M x∧x≠b∧x<h.size)
 mb:M b
theorem w9{h:ad}{K:Bool→ad→Prop}(a:K false h):fI 229 [.pointer none] K h:=by
 refine cW (sg none) .nil Tryz.func229 Tryz.call229 ?_;dsimp only[sg,gl,cH];exact ag.2 a
theorem HM{b:Nat}{h:ad}{K:Bool→ad→Prop}(a:K false h):fI 281 [gS b,.pointer none] K h:=by
 refine A7 _ none ?_;dsimp only[tR,wJ,dg,cH];exact aw.2 (w9 (ag.2 a))
theorem OwnN.upd{M M':Nat→Prop}{h h':ad}{b d n:Nat}{sp sk:SliceV}{s:Slots}{ow:Option Addr}(o:OwnN M h b d n sp sk s ow)(k:Upd M' h h')(hm:∀x,M' x→¬M x):OwnN M h' b d n sp sk s ow:=by
 obtain⟨A,B,f,g,a,c⟩:=o.ex;have z:=k.size;exact⟨k.get o.blk fun hb=>hm _ hb o.mb,o.bits,⟨A,B,f.upd k fun x hx e=>hm _ e (a x hx).1,g.upd k fun x hx e=>hm _ e (c x hx).1,fun x hx=>⟨(a x hx).1,(a x hx).2.1,(a x hx).2.2.1,by have:=(a x hx).2.2.2;omega⟩,fun x hx=>⟨(c x hx).1,(c x hx).2.1,by have:=(c x hx).2.2;omega⟩⟩,o.mb⟩
set_option maxRecDepth 4000 in
theorem ND{W:Nat→Prop}{h:ad}{b:Nat}{s:Slots}(nd:NodeAt W h b s){K:Option Addr→ad→Prop}
  (I:∀h' d n sp sk,OwnN (fun x=>h.size≤x) h' h.size d n sp sk s none→Upd No h h'→K (some ⟨h.size,0,none⟩) h'):
  eT 239 [gS b,.pointer none] K h:=by
 obtain⟨d,n,sp,sk,ow,hb,bits,C,E,S,U⟩:=nd.ex;refine ws _ none ?_;dsimp only[qv,dR,dg,gl,nv,kq,cV,cg,Rq,VW,cH,gU,xx];refine HM (ag.2 ?_);have c:∀{h:ad} {b:Nat} {c:Array Value} {i:Nat},h[b]? =some (.cells c 324 (0,0))→aK h ⟨b,0+i,none⟩=c[i]?:=fun hb=>by rw[aO];exact bd hb
 refine⟨_,rfl,_,c (i:=0) hb,_,c (i:=1) hb,sp,c (i:=2) hb,sk,c (i:=3) hb,_,c (i:=4) hb,_,c (i:=5) hb,?_⟩;have k1:=Upd.hnew No h [.int .u32 0,.int .u32 0,.slice none 0 0,.slice none 0 0,.bool false,.pointer none] 324;have b1:=bU h [.int .u32 0,.int .u32 0,.slice none 0 0,.slice none 0 0,.bool false,.pointer none] 324;refine bL ?_;simp only[cz h];generalize hnew h [.int .u32 0,.int .u32 0,.slice none 0 0,.slice none 0 0,.bool false,.pointer none] 324=h1 at k1 b1
 have L:eN h1 ⟨h.size,0,none⟩ 0 [.int .u32 (d:Int),.int .u32 (n:Int),.slice sp.a sp.len sp.cap,.slice sk.a sk.len sk.cap,.bool false,.pointer ow]=_:=gC _ h1 0 0 _ b1 (by simp);refine⟨.inr ⟨_,rfl,fun j T=>by rw[ce];exact eC b1 (by simp at T⊢;omega)⟩,bL ?_⟩
 rw[L];have b2:=dE (o:=.cells (dY d n sp sk false ow) 324 (0,0)) b1;have u:Upd No h _:=k1.trans (M':=(· =h.size)) (Upd.set h1 (.cells (dY d n sp sk false ow) 324 (0,0)) rfl) fun x hx=>.inr (cC hx.symm)
 have J:h.size<(h1.setIfInBounds h.size (.cells (dY d n sp sk false ow) 324 (0,0))).size:=bw b2;have Y:h.size≠b:=fun e=>by have:=bw hb;omega
 have X:(Obj.cells (List.take (0+0) [Value.int .u32 0,.int .u32 0,.slice none 0 0,.slice none 0 0,.bool false,.pointer none]++ [Value.int .u32 (d:Int),.int .u32 (n:Int),.slice sp.a sp.len sp.cap,.slice sk.a sk.len sk.cap,.bool false,.pointer ow]++List.drop (0+0+ [Value.int .u32 (d:Int),.int .u32 (n:Int),.slice sp.a sp.len sp.cap,.slice sk.a sk.len sk.cap,.bool false,.pointer ow].length) [Value.int .u32 0,.int .u32 0,.slice none 0 0,.slice none 0 0,.bool false,.pointer none]).toArray 324 (0,0))=.cells (dY d n sp sk false ow) 324 (0,0):=rfl
 rw[X];generalize h1.setIfInBounds h.size (.cells (dY d n sp sk false ow) 324 (0,0))=h2 at b2 u J;have p:=u.get0 hb;refine⟨_,rfl,sp,c (i:=2) p,_,rfl,sk,c (i:=3) p,?_⟩;refine uL (C.upd u fun _ h=>h.elim) (by have:=AG (g:=s.p);omega) fun y O D f=>?_
 refine⟨c (i:=3) (f.get0 p),?_⟩;refine Cb ((E.upd u fun _ h=>h.elim).upd f fun _ h=>h.elim) (by have:=AG (g:=s.k);omega) fun H V F m=>?_
 have Q:=m.get0 (f.get0 b2);have q:=D.within.upd m fun _ _ h=>h
 have t:=F.within;have z3:=f.size;have z4:=m.size;have w:∀{h:ad} {c:Array Value} {x i:Nat},h[x]? =some (.cells c 324 (0,0))→i<c.size→Wr h ⟨x,0+i,none⟩:=fun hb hi=>by rw[aO];exact eC hb hi
 have st:∀{h:ad} {c c':Array Value} {x i:Nat} {v:Value} {k:ad→Prop},h[x]? =some (.cells c 324 (0,0))→c.setIfInBounds i v=c'→(∀h',h'[x]? =some (.cells c' 324 (0,0))→Upd (· =x) h h'→k h')→At (hset h ⟨x,i,none⟩ v) k:=fun hb e I=>zA hb fun h' B Z=>I h' (e▸B) Z
 refine⟨w (i:=2) Q (show 2<6 by decide),st (i:=2) (c':=dY d n y sk false ow) Q rfl fun h5 P A=>?_⟩
 refine⟨w (i:=3) P (show 3<6 by decide),st (i:=3) (c':=dY d n y H false ow) P rfl fun h6 N z=>?_⟩
 refine⟨w (i:=5) N (show 5<6 by decide),st (i:=5) (c':=dY d n y H false none) N rfl fun h7 R G=>?_⟩
 refine w9 (ag.2 ?_);have a:=A.tr (z.tr G);have z7:=a.size;refine I _ d n y H ⟨R,bits,⟨fun x=>h2.size≤x∧x<O.size,fun x=>O.size≤x∧x<V.size,q.upd a fun x hx e=>by have e:x=h.size:=e;omega,t.upd a fun x hx e=>by have e:x=h.size:=e;omega,fun x hx=>⟨by omega,by omega,by omega,by omega⟩,fun x hx=>⟨by omega,by omega,by omega⟩⟩,ai _⟩ ?_
 exact((u.tr f).tr m).trans a fun x hx=>.inr (cC hx.symm)
end Go.Proofs
namespace Go.Proofs
open Go.Lift
abbrev u32(x:Int):List Value:= [.int .u32 x]
theorem jp(x:Int):(u32 x).length=1∧0<1:=⟨rfl,Nat.one_pos⟩
abbrev Nums(W:Nat→Prop)(h:ad)(s:SliceV)(xs:List Int):Prop:=Sl u32 1 W h s xs
theorem Nums.at{W:Nat→Prop}{h:ad}{s:SliceV}{xs:List Int}(b:Nums W h s xs){i:Nat}(hi:i<xs.length):∃a,s.a=some a∧¬W a.block∧aK h (adr a (((i:Int)).toNat*1))=some (.int .u32 xs[i]):=
 b.at0 (g:=fun x=>.int .u32 x) (af hi)
theorem Te{W W':Nat→Prop}{h:ad}{s s':SliceV}{xs ys:List Int}(d:Nums W h s xs)(j:Nums W' h s' ys)(p:xs.length≤4611686018427387904){K:Bool→ad→Prop}(f:K (decide (xs=ys)) h):
  fI 36 [.slice s.a s.len s.cap,.slice s'.a s'.len s'.cap] K h:=by
 refine cW (mQ s s') ut Tryz.func36 Tryz.call36 ?_;dsimp only[mQ,rz,cB,fQ];refine CondP.intro (fun c=>?_) (fun g=>?_)
 ·have:xs≠ys:=fun e=>by
   rw[d.len,j.len,e]at c;simp at c
  rw[decide_eq_false this]at f;exact f
 ·have m:xs.length=ys.length:=by
   rw[d.len,j.len]at g;have:(xs.length:Int)=ys.length:=by simpa using g
   omega
  refine LoopP.ghost (fun(i:Nat) (t:Int) h'=>t=(i:Int)∧h'=h∧i≤xs.length∧xs.take i=ys.take i) (fun i=>xs.length-i) 0 ⟨rfl,rfl,aN _,rfl⟩ ?_
  rintro I i t h' ⟨rfl,rfl,hi,n⟩ v;refine ao (fun b=>?_) (fun k=>?_)
  ·rw[d.len]at b
   have b:i<xs.length:=by omega
   obtain⟨a,u,_,hx⟩:=Nums.at d b;obtain⟨a',o,_,q⟩:=Nums.at j (m▸b);refine⟨by rw[d.len];omega,a,u,_,hx,by rw[j.len];omega,a',o,_,q,?_⟩
   refine CondP.intro (fun c=>?_) (fun g=>?_)
   ·have:xs≠ys:=fun e=>by subst e;simp at c
    rw[decide_eq_false this]at f;exact f
   ·have g:xs[i]=ys[i]:=by simpa using g
    rw[cp b p];refine v (i+1) _ _ ⟨rfl,rfl,b,?_⟩ (by omega);rw[av b,av (m▸b),n,g]
  ·rw[d.len]at k
   have:i=xs.length:=by omega
   subst this;have:xs=ys:=by
    rw[bP,m,bP]at n;exact n
   rw[decide_eq_true this]at f;exact f
theorem SO{W:Nat→Prop}{h:ad}{s:SliceV}{xs:List Int}(d:Nums W h s xs)(k:xs.length≤4611686018427387904)(x:Int){K:Int→ad→Prop}(j:∀n:Int,(n≥0↔x∈xs)→K n h):
  fH 45 [.slice s.a s.len s.cap,.int .u32 x] K h:=by
 refine cW (mP s x) ur Tryz.func45 Tryz.call45 ?_;dsimp only[mP,rz,cB,fQ];refine LoopP.ghost (fun(i:Nat) (t:Int) h'=>t=(i:Int)∧h'=h∧i≤xs.length∧x∉xs.take i) (fun i=>xs.length-i) 0 ⟨rfl,rfl,aN _,by simp⟩ ?_
 rintro I i t h' ⟨rfl,rfl,hi,g⟩ o;refine ao (fun b=>?_) (fun e=>?_)
 ·rw[d.len]at b
  have b:i<xs.length:=by omega
  obtain⟨a,m,_,hx⟩:=Nums.at d b;refine⟨by rw[d.len];omega,a,m,_,hx,?_⟩;refine CondP.intro (fun f=>?_) (fun c=>?_)
  ·have f:x=xs[i]:=by simpa using f
   exact j _ ⟨fun _=>f▸aH b,fun _=>by omega⟩
  ·have c:x≠xs[i]:=by simpa using c
   rw[cp b k];refine o (i+1) _ _ ⟨rfl,rfl,b,?_⟩ (by omega);rw[av b];rw[aF,al,not_or];exact⟨g,c⟩
 ·rw[d.len]at e
  have:i=xs.length:=by omega
  subst this;rw[bP]at g;exact j _ ⟨fun h=>by omega,fun h=>absurd h g⟩
theorem JY{W:Nat→Prop}{h:ad}{s:SliceV}{xs:List Int}(c:Nums W h s xs)(a:xs.length≤4611686018427387904)(x:Int){K:Bool→ad→Prop}(b:K (decide (x∈xs)) h):
  fI 15 [.slice s.a s.len s.cap,.int .u32 x] K h:=by
 refine cW (kP s x) .nil Tryz.func15 Tryz.call15 ?_;unfold kP RD;refine SO c a x fun n a=>?_
 rw[show decide (n≥0)=decide (x∈xs)from decide_eq_decide.2 a]
 exact b
theorem Es{W:Nat→Prop}{h:ad}{s:SliceV}{xs:List Int}(e:Nums W h s xs)(k:xs.length≤4611686018427387904)(x:Int){K:Bool→ad→Prop}(d:K (decide (x∈xs)) h):
  fI 126 [.slice s.a s.len s.cap,.int .u32 x] K h:=by
 refine cW (IG s x) Rf Tryz.func126 Tryz.call126 ?_;dsimp only[IG,rz,cB,fQ];refine LoopP.ghost (fun(i:Nat) (t:Int) h'=>t=(i:Int)∧h'=h∧i≤xs.length∧x∉xs.take i) (fun i=>xs.length-i) 0 ⟨rfl,rfl,aN _,by simp⟩ ?_
 rintro I i t h' ⟨rfl,rfl,hi,j⟩ n;refine ao (fun b=>?_) (fun f=>?_)
 ·rw[e.len]at b
  have b:i<xs.length:=by omega
  obtain⟨a,m,_,hx⟩:=Nums.at e b;refine⟨by rw[e.len];omega,a,m,_,hx,?_⟩;refine CondP.intro (fun g=>?_) (fun c=>?_)
  ·have g:xs[i]=x:=by simpa using g
   rw[decide_eq_true (g▸aH b)]at d;exact d
  ·have c:xs[i]≠x:=by simpa using c
   rw[cp b k];refine n (i+1) _ _ ⟨rfl,rfl,b,?_⟩ (by omega);rw[av b];rw[aF,al,not_or];exact⟨j,Ne.symm c⟩
 ·rw[e.len]at f
  have:i=xs.length:=by omega
  subst this;rw[bP]at j;rw[decide_eq_false j]at d;exact d
theorem JL{W:Nat→Prop}{s:SliceV}{xs:List Int}{m:Value}{p:Int→Bool}(St:ad→Prop)(e:∀h,St h→Nums W h s xs)
  (w:∀h x (K:Bool→ad→Prop),St h→x∈xs→(∀h',St h'→K (p x) h')→HV PG m [.int .u32 x] [.c .bool] K h)
  (q:xs.length≤4611686018427387904){h:ad}(u:St h){K:Int→ad→Prop}(o:∀(n:Int) h',St h'→(n≥0↔∃x∈xs,p x=true)→K n h'):
  fH 252 [.slice s.a s.len s.cap,m] K h:=by
 refine j8 s m ?_;dsimp only[gJ,rz,cB,fQ];refine LoopP.ghost (fun(i:Nat) (t:Int) h'=>t=(i:Int)∧St h'∧i≤xs.length∧∀x∈xs.take i,p x=false) (fun i=>xs.length-i) 0 ⟨rfl,u,aN _,by simp⟩ ?_
 rintro I i t h' ⟨rfl,f,hi,k⟩ y;have d:=e _ f;refine ao (fun b=>?_) (fun j=>?_)
 ·rw[d.len]at b
  have b:i<xs.length:=by omega
  obtain⟨a,v,_,hx⟩:=Nums.at d b;refine⟨by rw[d.len];omega,a,v,_,hx,?_⟩;refine w _ _ _ f (aH b) fun A c=>?_
  refine CondP.intro (fun z=>?_) (fun g=>?_)
  ·exact o _ _ c ⟨fun _=>⟨_,aH b,z⟩,fun _=>by omega⟩
  ·rw[cp b q]
   refine y (i+1) _ _ ⟨rfl,c,b,?_⟩ (by omega);rw[av b];intro x hx;rcases aF.1 hx with h|h
   ·exact k x h
   ·rw[al.1 h];exact g
 ·rw[d.len]at j
  have:i=xs.length:=by omega
  subst this;rw[bP]at k;exact o _ _ f ⟨fun h=>by omega,fun⟨x,hx,h⟩=>by rw[k x hx]at h;cases h⟩
theorem DU{W:Nat→Prop}{s:SliceV}{xs:List Int}{c:Value}{p:Int→Bool}(St:ad→Prop)(a:∀h,St h→Nums W h s xs)
  (g:∀h x (K:Bool→ad→Prop),St h→x∈xs→(∀h',St h'→K (p x) h')→HV PG c [.int .u32 x] [.c .bool] K h)
  (b:xs.length≤4611686018427387904){h:ad}(e:St h){K:Bool→ad→Prop}(f:∀h',St h'→K (xs.any p) h'):
  fI 250 [.slice s.a s.len s.cap,c] K h:=by
 refine cW (jj s c) .nil Tryz.func250 Tryz.call250 ?_;unfold jj;refine JL St a g b e fun n h' d b=>?_
 have:decide (n≥0)=xs.any p:=by
  rw[eJ,decide_eq_true_iff,b,bT]
 rw[this];exact f _ d
theorem Mf{W:Nat→Prop}{h:ad}{s:SliceV}{xs:List Int}(d:Nums W h s xs)(j:xs.length*4≤140737488355328){K:SliceV→ad→Prop}
  (g:∀s' h',OwnS u32 1 31 (fun b=>h.size≤b) h' s' xs→Upd No h h'→(s.a=none→xs= [])→K s' h'):eP 93 [.slice s.a s.len s.cap] K h:=by
 refine cW (mR s) .nil Tryz.func93 Tryz.call93 ?_;unfold mR;refine CondP.intro (fun i=>?_) (fun c=>?_)
 ·have i:s.a=none:=by simpa using i
  have hx:xs= []:=by
   by_cases hx:xs= []
   ·exact hx
   ·obtain⟨a,k,_⟩:=d.row hx
    rw[i]at k;cases k
  subst hx;exact g _ _ (OwnS.nil jp) (Upd.refl _ _) fun _=>rfl
 ·have m:=d.upd (Upd.hnew No h [] 31) (fun _ h=>h.elim)
  refine⟨_,m.srow,?_⟩;refine AppP.own (f:=u32) (M:=fun b=>h.size≤b) (xs:= []) (ys:=xs) ⟨rfl,jp,ai _,.inl rfl⟩ d.len rfl ?_ rfl (by omega) (by simpa using j) (by rw[dC];omega) fun s' h' o n=>?_
  ·clear g d m j
   induction xs with
   |nil=>rfl
   |cons x xs ih=>rw[aU];exact ih
  ·refine g _ _ o ((Upd.hnew No h [] 31).trans n fun b hb=>.inr hb) fun e=>?_
   rw[e]at c;cases c
theorem QD{x:Int}{h:ad}{K:Bool→ad→Prop}(a:K false h):fI 274 [.int .u32 x] K h:=by
 refine cW (wD x) .nil Tryz.func274 Tryz.call274 ?_;unfold wD;rw[show(x !=x)=false by simp];exact a
theorem UW{x y:Int}{h:ad}{K:Bool→ad→Prop}(a:K (decide (x<y)) h):fI 211 [.int .u32 x,.int .u32 y] K h:=by
 refine cW (xK x y) .nil Tryz.func211 Tryz.call211 ?_;unfold xK;refine QD ?_;exact ag.2 a
end Go.Proofs
namespace Go.Proofs
open Go.Lift
abbrev KE:KeyE Int:=YI .u32
abbrev cT:=List (Int×List Int)
def Rep(W:Nat→Prop)(h:ad)(m:List (Int×SliceV))(L:cT):Prop:=
 ∀id,(∃s ps,bC m id=some s∧bC L id=some ps∧Nums W h s ps)∨(bC m id=none∧bC L id=none)
structure GraphAt(W:Nat→Prop)(h:ad)(gp gm:Nat)(L:cT)(nx:Int):Prop where
 blk:h[gp]? =some (.cells #[.map (some gm),.int .u32 nx] 104 (0,0))
 map:∃m,MapAt KE sv h gm m∧Rep W h m L
 wp:W gp
 wm:W gm
 lt:∀b,W b→b<h.size
 nd:(L.map (·.1)).Nodup
theorem Rep.upd{W M:Nat→Prop}{h h':ad}{m:List (Int×SliceV)}{L:cT}(r:Rep W h m L)(k:Upd M h h')(hm:∀b,M b→W b∨h.size≤b):Rep W h' m L:=fun id=>by
 rcases r id with⟨s,ps,e,d,c⟩|a
 ·exact .inl ⟨s,ps,e,d,c.upd k hm⟩
 ·exact .inr a
theorem GraphAt.upd{W M:Nat→Prop}{h h':ad}{gp gm:Nat}{L:cT}{nx:Int}(g:GraphAt W h gp gm L nx)(k:Upd M h h')(hm:∀b,M b→(W b∧b≠gp∧b≠gm)∨h.size≤b):GraphAt W h' gp gm L nx:=by
 have a:=g.lt;have f:¬M gp:=fun e=>(hm _ e).elim (fun e=>e.2.1 rfl) fun e=>absurd (a _ g.wp) (de.2 e)
 have i:¬M gm:=fun e=>(hm _ e).elim (fun e=>e.2.2 rfl) fun e=>absurd (a _ g.wm) (de.2 e)
 obtain⟨m,c,d⟩:=g.map;exact⟨k.get g.blk f,⟨m,c.upd k i,d.upd k fun b hb=>(hm b hb).imp (·.1) id⟩,g.wp,g.wm,fun b hb=>az (a b hb) k.size,g.nd⟩
theorem GraphAt.upd0{W:Nat→Prop}{h h':ad}{gp gm:Nat}{L:cT}{nx:Int}(g:GraphAt W h gp gm L nx)(k:Upd No h h'):GraphAt W h' gp gm L nx:=g.upd k fun _ h=>h.elim
theorem GraphAt.c0{W:Nat→Prop}{h:ad}{gp gm:Nat}{L:cT}{nx:Int}(g:GraphAt W h gp gm L nx):aK h ⟨gp,0,none⟩=some (.map (some gm)):=by rw[bd g.blk];rfl
theorem GraphAt.c1{W:Nat→Prop}{h:ad}{gp gm:Nat}{L:cT}{nx:Int}(g:GraphAt W h gp gm L nx):aK h ⟨gp,1,none⟩=some (.int .u32 nx):=by rw[bd g.blk];rfl
abbrev dF(L:cT):List Int:=L.map (·.1)
theorem SQ{L:cT}{id:Int}:(bC L id).isSome=decide (id∈dF L):=by
 cases h:bC L id with
 |none=>rw[decide_eq_false (dN.1 h)];rfl
 |some v=>
  have:id∈dF L:=by
   by_cases hm:id∈dF L
   ·exact hm
   ·rw[dN.2 hm]at h;cases h
  rw[decide_eq_true this];rfl
theorem Rep.some{W:Nat→Prop}{h:ad}{m:List (Int×SliceV)}{L:cT}(r:Rep W h m L)(id:Int):(bC m id).isSome=decide (id∈dF L):=by
 rw[←SQ];rcases r id with⟨s,ps,b,a,_⟩|⟨b,a⟩<;>rw[b,a]<;>rfl
theorem Rep.len{W:Nat→Prop}{h:ad}{m:List (Int×SliceV)}{L:cT}(r:Rep W h m L)(c:(m.map (·.1)).Nodup)(b:(dF L).Nodup):m.length=L.length:=by
 have:(m.map (·.1)).Perm (dF L):=by
  rw[List.perm_ext_iff_of_nodup c b];intro id;have:=r.some id;have a:id∈m.map (·.1)↔(bC m id).isSome=true:=by
   cases hl:bC m id with
   |none=>simp[dN.1 hl]
   |some v=>
    simp only[Option.isSome_some,iff_true];by_cases hm:id∈m.map (·.1)
    ·exact hm
    ·rw[dN.2 hm]at hl;cases hl
  rw[a,this,decide_eq_true_iff]
 have:=this.length_eq;simpa using this
def XP:List Int→Bool
 | [a,b]=>a==b
 |_=>false
def uk(ps:List Int):Int:=if ps.length>2∨XP ps=true then 1 else 0
def nK(L:cT)(ps:List Int):Int:=if ps.any (fun p=> !decide (p∈dF L))then 4 else if L.length≥1024 then 6 else 0
theorem JR{W:Nat→Prop}{h:ad}{gp gm:Nat}{L:cT}{nx:Int}(g:GraphAt W h gp gm L nx)(id:Int){K:Bool→ad→Prop}(a:K (decide (id∈dF L)) h):
  fI 97 [gS gp,.int .u32 id] K h:=by
 refine cW (tY (some ⟨gp,0,none⟩) id) .nil Tryz.func97 Tryz.call97 ?_;dsimp only[tY,AV,cB,cH];obtain⟨m,hm,b⟩:=g.map;refine CondP.intro (fun e=>by cases e) fun _=>⟨_,rfl,_,g.c0,_,_,hm.get id ⟨none,0,0⟩,?_⟩
 rw[b.some id];exact a
theorem U8{W:Nat→Prop}{h:ad}{p:Option Addr}{s:SliceV}{ps:List Int}(d:Nums W h s ps){K:Int→ad→Prop}(c:K (uk ps) h):
  fH 178 [.pointer p,.slice s.a s.len s.cap] K h:=by
 refine cW (tW p s) Bz Tryz.func178 Tryz.call178 ?_;dsimp only[tW,Vt,cB,fQ];refine Join.plain (ao (fun j=>?_) fun k=>CondP.intro (fun f=>?_) fun b=>?_)
 ·rw[d.len]at j
  rw[show uk ps=1 from if_pos (.inl (by omega))]at c
  exact aw.2 c
 ·rw[d.len]at f
  have f:ps.length=2:=by
   have:(ps.length:Int)=2:=by simpa using f
   omega
  obtain⟨a,o,_,hx⟩:=Nums.at d (i:=0) (by omega);obtain⟨a',m,_,n⟩:=Nums.at d (i:=1) (by omega);refine⟨by rw[d.len];omega,a,o,_,hx,by rw[d.len];omega,a',m,_,n,?_⟩
  have e:uk ps=if(ps[0]==ps[1])=true then 1 else 0:=by
   match ps,f with
   | [x,y],_=>simp[uk,XP]
  rw[e]at c;exact CondP.intro (fun g=>by rw[if_pos g]at c;exact c) fun g=>by rw[if_neg (by rw[g];decide)]at c;exact c
 ·rw[d.len]at k b
  have b:ps.length≠2:=fun e=>by rw[e]at b;exact absurd b (by decide)
  have hd:XP ps=false:=by
   match ps,b with
   | [],_=>rfl
   | [_],_=>rfl
   | [_,_],h=>exact absurd rfl h
   |_::_::_::_,_=>rfl
  rw[show uk ps=0 from if_neg (by rw[hd];simp;omega)]at c
  exact ag.2 c
theorem SZ{W:Nat→Prop}{h:ad}{gp gm:Nat}{L:cT}{nx:Int}(g:GraphAt W h gp gm L nx){s:SliceV}{ps:List Int}(k:Nums W h s ps)(o:ps.length≤4611686018427387904)
  {K:Int→ad→Prop}(c:∀h',Upd No h h'→K (nK L ps) h'):fH 179 [gS gp,.slice s.a s.len s.cap] K h:=by
 refine cW (sy (some ⟨gp,0,none⟩) s) .nil Tryz.func179 Tryz.call179 ?_;dsimp only[sy,AV,cB,cH];have j:=Upd.hnew No h [.pointer (some ⟨gp,0,none⟩)] 37;refine DU (p:=fun p=> !decide (p∈dF L)) (fun h'=>GraphAt W h' gp gm L nx∧Nums W h' s ps∧h'[h.size]? =some (.cells #[.pointer (some ⟨gp,0,none⟩)] 37 (0,0))∧Upd No h h') (fun h' f=>f.2.1) ?_ o ⟨g.upd0 j,k.upd j fun _ h=>h.elim,bU h _ _,j⟩ ?_
 ·rintro h' x K ⟨b,e,hb,a⟩ _ i
  refine HV.mk' (cW (qf x ⟨h.size,0,none⟩) .nil Tryz.func251 Tryz.call251 ?_);unfold qf sL;refine⟨_,by rw[bd hb];rfl,?_⟩
  exact JR b x (i h' ⟨b,e,hb,a⟩)
 ·rintro h' ⟨b,e,hb,a⟩
  obtain⟨m,hm,q⟩:=b.map;refine CondP.intro (fun u=>?_) fun d=>?_
  ·rw[show nK L ps=4 from if_pos u]at c
   exact c h' a
  ·refine⟨_,by rw[cz,bd hb];rfl,_,rfl,_,b.c0,_,hm.len,?_⟩
   rw[q.len hm.nodup b.nd];refine ao (fun n=>?_) fun t=>?_
   ·rw[show nK L ps=6 from(if_neg (by rw[d];decide)).trans (if_pos (by omega))]at c
    exact c h' a
   ·rw[show nK L ps=0 from(if_neg (by rw[d];decide)).trans (if_neg (by omega))]at c
    exact c h' a
end Go.Proofs
namespace Go.Proofs
open Go.Lift
def um(L:cT)(id:Int)(ps:List Int):cT:=L.takeWhile (fun v=>decide (v.1<id))++(id,ps)::L.dropWhile (fun v=>decide (v.1<id))
def eZ(L:cT)(nx:Int)(ps:List Int):(Int×Int)×cT×Int:=
 if uk ps≠0 then((0,uk ps),L,nx)else if nK L ps≠0 then((0,nK L ps),L,nx)else if nx≥2147483648 then((0,6),L,nx)else((nx,0),um L nx ps,nx+1)
def Wf(L:cT)(nx:Int)(id:Int)(ps:List Int):Int×cT×Int:=
 if uk ps≠0∨id=0∨id≥2147483648∨ps.any (fun p=>decide (p≥id))=true then(1,L,nx)else if id∈dF L then(7,L,nx)else if nK L ps≠0 then(nK L ps,L,nx)else(0,um L id ps,if id+1>nx then id+1 else nx)
abbrev zG(a b:Nat):Nat→Prop:=fun x=>x=a∨x=b
theorem Iu{κ β:Type}[DecidableEq κ](l l':List (κ×β))(k:κ):bC (l++l') k=(bC l k).or (bC l' k):=by
 induction l with
 |nil=>simp[bC]
 |cons p l ih=>
  obtain⟨k',u⟩:=p;simp only[List.cons_append,bC,ih];split<;>simp
theorem QE{L:cT}{id:Int}{ps:List Int}(c:id∉dF L)(j:Int):bC (um L id ps) j=if j=id then some ps else bC L j:=by
 have b:∀p:Int×List Int→Bool,bC L j=(bC (L.takeWhile p) j).or (bC (L.dropWhile p) j):=fun p=>by rw[←Iu,fJ]
 unfold um;rw[Iu];simp only[bC];by_cases a:j=id
 ·subst a
  have:bC (L.takeWhile fun v=>decide (v.1<j)) j=none:=dN.2 fun hm=>c (by
   obtain⟨x,hx,e⟩:=aP.1 hm
   exact aP.2 ⟨x,List.takeWhile_subset _ hx,e⟩)
  rw[this];simp
 ·simp only[a,if_false]
  exact(b _).symm
theorem xY(L:cT)(id:Int)(ps:List Int):(um L id ps).Perm ((id,ps)::L):=by
 unfold um;refine List.perm_middle.trans ?_;rw[fJ]
theorem insV_ids{L:cT}{id:Int}{ps:List Int}:(dF (um L id ps)).Perm (id::dF L):=(xY L id ps).map _
theorem NY{L:cT}{id:Int}{ps:List Int}(h:(dF L).Nodup)(a:id∉dF L):(dF (um L id ps)).Nodup:=by
 rw[insV_ids.nodup_iff];exact dJ.2 ⟨a,h⟩
theorem Rep.put{W:Nat→Prop}{h h':ad}{m:List (Int×SliceV)}{L:cT}(r:Rep W h m L){id:Int}{s:SliceV}{ps:List Int}(g:∀s xs,Nums W h s xs→Nums W h' s xs)(b:Nums W h' s ps)(c:id∉dF L):Rep W h' (j5 m id s) (um L id ps):=fun j=>by
 rw[uQ,QE c];by_cases a:j=id
 ·simp only[a,if_true];exact .inl ⟨s,ps,rfl,rfl,b⟩
 ·simp only[a,if_false]
  rcases r j with⟨s,ps,e,i,f⟩|d
  ·exact .inl ⟨s,ps,e,i,g s ps f⟩
  ·exact .inr d
theorem GraphAt.ne{W:Nat→Prop}{h:ad}{gp gm:Nat}{L:cT}{nx:Int}(g:GraphAt W h gp gm L nx):gm≠gp:=fun e=>by
 obtain⟨m,⟨ms,c,hm,_⟩,_⟩:=g.map;have:=hm.here;rw[e,g.blk]at this;cases this
theorem GraphAt.put{W:Nat→Prop}{h:ad}{gp gm:Nat}{L:cT}{nx:Int}(g:GraphAt W h gp gm L nx){id:Int}{s:SliceV}{ps:List Int}(i:Nums W h s ps)(j:id∉dF L)(n':Int):
  GraphAt W (hset (lY h gm (.int .u32 id) (sv s)) ⟨gp,1,none⟩ (.int .u32 n')) gp gm (um L id ps) n'∧Upd (zG gp gm) h (hset (lY h gm (.int .u32 id) (sv s)) ⟨gp,1,none⟩ (.int .u32 n'))∧
   Wr (lY h gm (.int .u32 id) (sv s)) ⟨gp,1,none⟩∧aK (lY h gm (.int .u32 id) (sv s)) ⟨gp,1,none⟩=some (.int .u32 nx)∧Upd (zG gp gm) h (lY h gm (.int .u32 id) (sv s)):=by
 obtain⟨m,hm,o⟩:=g.map;have d:=g.ne;have k1:Upd (· =gm) h (lY h gm (.int .u32 id) (sv s)):=mI h _ _ rfl
 have a:=k1.get g.blk (Ne.symm d);have n:Upd (· =gp) (lY h gm (.int .u32 id) (sv s)) (hset (lY h gm (.int .u32 id) (sv s)) ⟨gp,1,none⟩ (.int .u32 n')):=Upd.hset _ _ rfl
 have f:Upd (zG gp gm) h (lY h gm (.int .u32 id) (sv s)):=k1.mono fun b hb=>.inl (.inr hb)
 have k:Upd (zG gp gm) h (hset (lY h gm (.int .u32 id) (sv s)) ⟨gp,1,none⟩ (.int .u32 n')):=f.trans n fun b hb=>.inl (.inl hb)
 have c:∀b,zG gp gm b→W b∨h.size≤b:=fun b hb=>.inl (hb.elim (fun e=>e▸g.wp) fun e=>e▸g.wm)
 refine⟨⟨?_,⟨_,(MapAt.put hm id s).upd n d,o.put (fun s xs i=>i.upd k c) (i.upd k c) j⟩,g.wp,g.wm,fun b hb=>az (g.lt b hb) k.size,NY g.nd j⟩,k,eC a (by simp),by rw[bd a];rfl,f⟩
 rw[ju a,dE a];rfl
theorem U9{W:Nat→Prop}{h:ad}{gp gm:Nat}{L:cT}{nx:Int}(g:GraphAt W h gp gm L nx)(A:0≤nx)(p:nx∉dF L){s:SliceV}{ps:List Int}(t:Nums W h s ps)(z:ps.length*4≤140737488355328)
  {K:Int×Int→ad→Prop}(d:∀h',Upd (zG gp gm) h h'→GraphAt W h' gp gm (eZ L nx ps).2.1 (eZ L nx ps).2.2→K (eZ L nx ps).1 h'):
  Eu 116 [gS gp,.slice s.a s.len s.cap] K h:=by
 refine cW (tZ (some ⟨gp,0,none⟩) s) .nil Tryz.func116 Tryz.call116 ?_;dsimp only[tZ,cB,yR,cV,cH,zC,dR,AV];refine CondP.intro (fun e=>by cases e) fun _=>U8 t ?_
 refine CondP.intro (fun a=>?_) fun a=>?_
 ·have a:uk ps≠0:=by simpa using a
  rw[show eZ L nx ps=_ from if_pos a]at d
  exact d h (Upd.refl _ _) g
 ·have a:¬uk ps≠0:=by simpa using a
  refine SZ g t (by omega) fun h' i=>?_
  refine CondP.intro (fun c=>?_) fun c=>?_
  ·have c:nK L ps≠0:=by simpa using c
   rw[show eZ L nx ps=_ from(if_neg a).trans (if_pos c)]at d
   exact d h' i.wide (g.upd0 i)
  ·have c:¬nK L ps≠0:=by simpa using c
   have f:=g.upd0 i;have u:=t.upd i fun _ h=>h.elim
   refine⟨_,rfl,_,f.c1,ao (fun o=>?_) fun o=>?_⟩
   ·rw[show eZ L nx ps=_ from(if_neg a).trans ((if_neg c).trans (if_pos o))]at d
    exact d h' i.wide f
   ·refine⟨_,rfl,_,f.c1,_,rfl,_,f.c0,Mf u z fun s' q y j _=>?_⟩
    have n:=f.upd0 j;obtain⟨m,hm,D⟩:=n.map;have k:Nums W q s' ps:=y.sl fun b hb _ w=>absurd (f.lt b w) (de.2 hb)
    obtain⟨v,B,C,x,_⟩:=n.put k p (nx+1);refine⟨n.c0,_,rfl,hm.isMap,_,rfl,_,x,_,rfl,C,?_⟩;rw[show ac .u32 (nx+1)=nx+1 from Go.IntWalk.u32_in _ (by omega)]
    rw[show eZ L nx ps=_ from(if_neg a).trans ((if_neg c).trans (if_neg o))]at d
    exact d _ ((i.wide.tr j.wide).tr B) v
end Go.Proofs
namespace Go.Proofs
open Go.Lift
theorem U7{h:ad}{K:Option Addr→ad→Prop}(d:∀h',Upd No h h'→GraphAt (zG (h.size+1) h.size) h' (h.size+1) h.size [] 1→K (some ⟨h.size+1,0,none⟩) h'):
  eT 60 [] K h:=by
 refine cW Dw .nil Tryz.func60 Tryz.call60 ?_;unfold Dw;have k1:=Upd.push No h (.map #[] 0);have hm:MapAt KE sv (h.push (.map #[] 0)) h.size []:=MapAt.new h;have c:=Upd.hnew No (h.push (.map #[] 0)) [.map (some h.size),.int .u32 1] 104;have a:(h.push (.map #[] 0)).size=h.size+1:=by simp
 have:=d _ (k1.tr c) ⟨by
  have:=bU (h.push (.map #[] 0)) [.map (some h.size),.int .u32 1] 104
  rw[a]at this;exact this,⟨[],hm.upd c id,fun id=>.inr ⟨rfl,rfl⟩⟩,.inl rfl,.inr rfl,fun b hb=>by rw[dC,a];rcases hb with rfl|rfl<;>omega,List.nodup_nil⟩
 rw[←a]at this;exact this
end Go.Proofs
namespace Go.Proofs
open Go.Lift
abbrev vf(v:Int×SliceV):List Value:= [.int .u32 v.1,sv v.2]
theorem KM(v:Int×SliceV):(vf v).length=2∧0<2:=⟨rfl,by omega⟩
def Par(W:Nat→Prop)(h:ad):List (Int×SliceV)→cT→Prop
 | [],[]=>True
 |v::l,u::m=>v.1=u.1∧Nums W h v.2 u.2∧Par W h l m
 |_,_=>False
theorem Par.len{W:Nat→Prop}{h:ad}:∀{l:List (Int×SliceV)} {m:cT},Par W h l m→l.length=m.length
 | [],[],_=>rfl
 |_::_,_::_,p=>congrArg (· +1) p.2.2.len
 | [],_::_,p=>p.elim
 |_::_,[],p=>p.elim
theorem Par.get{W:Nat→Prop}{h:ad}:∀{l:List (Int×SliceV)} {m:cT},Par W h l m→∀{i:Nat} (hl:i<l.length) (hm:i<m.length),l[i].1=m[i].1∧Nums W h l[i].2 m[i].2
 |v::l,u::m,p,0,_,_=>⟨p.1,p.2.1⟩
 |v::l,u::m,p,i+1,hl,hm=>p.2.2.get (by simpa using hl) (by simpa using hm)
theorem Par.app{W:Nat→Prop}{h:ad}:∀{l l':List (Int×SliceV)} {m m':cT},Par W h l m→Par W h l' m'→Par W h (l++l') (m++m')
 | [],_,[],_,_,q=>q
 |_::_,_,_::_,_,p,q=>⟨p.1,p.2.1,p.2.2.app q⟩
 | [],_,_::_,_,p,_=>p.elim
 |_::_,_,[],_,p,_=>p.elim
theorem Par.take{W:Nat→Prop}{h:ad}:∀{l:List (Int×SliceV)} {m:cT},Par W h l m→∀i,Par W h (l.take i) (m.take i)
 | [],[],_,i=>by simp[Par]
 |_::_,_::_,_,0=>trivial
 |_::_,_::_,p,i+1=>⟨p.1,p.2.1,p.2.2.take i⟩
 | [],_::_,p,_=>p.elim
 |_::_,[],p,_=>p.elim
theorem Par.drop{W:Nat→Prop}{h:ad}:∀{l:List (Int×SliceV)} {m:cT},Par W h l m→∀i,Par W h (l.drop i) (m.drop i)
 | [],[],_,i=>by simp[Par]
 |_::_,_::_,p,0=>p
 |_::_,_::_,p,i+1=>p.2.2.drop i
 | [],_::_,p,_=>p.elim
 |_::_,[],p,_=>p.elim
theorem Par.upd{W M:Nat→Prop}{h h':ad}(k:Upd M h h')(hm:∀b,M b→W b∨h.size≤b):∀{l:List (Int×SliceV)} {m:cT},Par W h l m→Par W h' l m
 | [],[],_=>trivial
 |_::_,_::_,p=>⟨p.1,p.2.1.upd k hm,Par.upd k hm p.2.2⟩
 | [],_::_,p=>p.elim
 |_::_,[],p=>p.elim
structure RefAt(W:Nat→Prop)(h:ad)(xp:Nat)(L:cT)(nx:Int):Prop where
 blk:∃s t Ls,h[xp]? =some (.cells #[sv s,.int .u32 nx] t (0,0))∧Sl vf 2 W h s Ls∧Par W h Ls L∧s.len≤s.cap
 wp:W xp
 lt:∀b,W b→b<h.size
theorem RefAt.upd{W M:Nat→Prop}{h h':ad}{a:Nat}{L:cT}{nx:Int}(g:RefAt W h a L nx)(k:Upd M h h')(hm:∀b,M b→(W b∧b≠a)∨h.size≤b):RefAt W h' a L nx:=by
 obtain⟨s,t,Ls,f,m,i,j⟩:=g.blk;have d:¬M a:=fun e=>(hm _ e).elim (fun e=>e.2 rfl) fun e=>absurd (g.lt _ g.wp) (de.2 e)
 have c:∀b,M b→W b∨h.size≤b:=fun b hb=>(hm b hb).imp (·.1) id
 exact⟨⟨s,t,Ls,k.get f d,m.upd k c,Par.upd k c i,j⟩,g.wp,fun b hb=>az (g.lt b hb) k.size⟩
theorem RefAt.upd0{W:Nat→Prop}{h h':ad}{a:Nat}{L:cT}{nx:Int}(g:RefAt W h a L nx)(k:Upd No h h'):RefAt W h' a L nx:=g.upd k fun _ h=>h.elim
theorem Jd{W:Nat→Prop}{h:ad}{s:SliceV}{Ls:List (Int×SliceV)}(b:Sl vf 2 W h s Ls){i:Nat}(hi:i<Ls.length):
  ∃a,s.a=some a∧aK h (adr (adr a (((i:Int)).toNat*2)) 0)=some (.int .u32 Ls[i].1)∧aK h (adr (adr a (((i:Int)).toNat*2)) 1)=some (.slice Ls[i].2.a Ls[i].2.len Ls[i].2.cap):=by
 obtain⟨a,c,_,hv⟩:=b.at (af hi);exact⟨a,c,hv 0 _ rfl,hv 1 _ rfl⟩
theorem Na(h:ad)(t:TypeId)(a b:Value)(v:Int×SliceV):pk (hnew h [a,b] t) (some (aL h)) 0 [.int .u32 v.1,.slice v.2.a v.2.len v.2.cap]∧
  (eN (hnew h [a,b] t) (aL h) 0 [.int .u32 v.1,.slice v.2.a v.2.len v.2.cap])[h.size]? =some (.cells #[.int .u32 v.1,.slice v.2.a v.2.len v.2.cap] t (0,0))∧
  Upd No h (eN (hnew h [a,b] t) (aL h) 0 [.int .u32 v.1,.slice v.2.a v.2.len v.2.cap]):=by
 have hb:=bU h [a,b] t;refine⟨.inr ⟨_,rfl,fun j c=>?_⟩,?_,?_⟩
 ·rw[cz,ce]
  exact eC hb (by simp at c⊢;omega)
 ·rw[cz,gC _ _ 0 0 [a,b] hb (by simp),dE hb];rfl
 ·rw[cz,gC _ _ 0 0 [a,b] hb (by simp)]
  exact(Upd.hnew No h [a,b] t).trans (M':=(· =h.size)) (Upd.set _ _ rfl) fun b hb=>.inr (cC hb.symm)
theorem zX{W:Nat→Prop}{h:ad}{u:Nat}{L:cT}{nx:Int}(g:RefAt W h u L nx)(A:L.length≤4611686018427387904)(id:Int)
  {K:Int→ad→Prop}(w:∀(n:Int) h',Upd No h h'→(n≥0↔id∈dF L)→K n h'):fH 76 [gS u,.int .u32 id] K h:=by
 refine cW (Gu (some ⟨u,0,none⟩) id) OB Tryz.func76 Tryz.call76 ?_;dsimp only[Gu,sQ,cg,cH,Q7,dR,gn,nv,IS,MW,jA,fQ];obtain⟨s,t,Ls,C,j,o,_⟩:=g.blk;refine⟨_,rfl,s,by rw[ce,bd C];rfl,?_⟩
 have d:=o.len;refine LoopP.ghost (fun(i:Nat) (t:Int) h'=>t=(i:Int)∧Upd No h h'∧i≤L.length∧id∉(dF L).take i) (fun i=>L.length-i) 0 ⟨rfl,Upd.refl _ _,aN _,by simp⟩ ?_
 rintro I i t h' ⟨rfl,f,hi,p⟩ D;have q:=j.upd f fun _ h=>h.elim
 have z:=Par.upd f (fun _ h=>h.elim) o
 refine ao (fun b=>?_) fun k=>?_
 ·rw[j.len,d]at b
  have b:i<L.length:=by omega
  obtain⟨a,B,c0,c1⟩:=Jd q (d▸b);obtain⟨y,x,v⟩:=Na h' 129 (.int .u32 0) (.slice none 0 0) (Ls[i]'(d▸b));refine⟨by rw[j.len,d];omega,a,B,_,c0,_,c1,y,_,jN x 0,?_⟩;have e:=(o.get (d▸b) b).1;refine CondP.intro (fun m=>?_) fun c=>?_
  ·have m:L[i].1=id:=by rw[←e];simpa using m
   exact w _ _ (f.tr v) ⟨fun _=>aP.2 ⟨_,aH b,m⟩,fun _=>by omega⟩
  ·have c:L[i].1≠id:=by rw[←e];simpa using c
   rw[cp b A];refine D (i+1) _ _ ⟨rfl,f.tr v,b,?_⟩ (by omega);rw[av (by simpa using b),aF,al,not_or];exact⟨p,by rw[List.getElem_map];exact Ne.symm c⟩
 ·rw[j.len,d]at k
  have:i=L.length:=by omega
  rw[aS (by simp[this])]at p;exact w _ _ f ⟨fun h=>by omega,fun h=>absurd h p⟩
theorem Uh{W:Nat→Prop}{h:ad}{s:SliceV}{ps:List Int}(d:Nums W h s ps){K:Int→ad→Prop}(c:K (uk ps) h):
  fH 189 [.slice s.a s.len s.cap] K h:=by
 refine cW (IE s) Re Tryz.func189 Tryz.call189 ?_;dsimp only[IE,Vt,cB,fQ];refine Join.plain (ao (fun j=>?_) fun k=>CondP.intro (fun f=>?_) fun b=>?_)
 ·rw[d.len]at j
  rw[show uk ps=1 from if_pos (.inl (by omega))]at c
  exact aw.2 c
 ·rw[d.len]at f
  have f:ps.length=2:=by
   have:(ps.length:Int)=2:=by simpa using f
   omega
  obtain⟨a,o,_,hx⟩:=Nums.at d (i:=0) (by omega);obtain⟨a',m,_,n⟩:=Nums.at d (i:=1) (by omega);refine⟨by rw[d.len];omega,a,o,_,hx,by rw[d.len];omega,a',m,_,n,?_⟩
  have e:uk ps=if(ps[0]==ps[1])=true then 1 else 0:=by
   match ps,f with
   | [x,y],_=>simp[uk,XP]
  rw[e]at c;exact CondP.intro (fun g=>by rw[if_pos g]at c;exact c) fun g=>by rw[if_neg (by rw[g];decide)]at c;exact c
 ·rw[d.len]at k b
  have b:ps.length≠2:=fun e=>by rw[e]at b;exact absurd b (by decide)
  have hd:XP ps=false:=by
   match ps,b with
   | [],_=>rfl
   | [_],_=>rfl
   | [_,_],h=>exact absurd rfl h
   |_::_::_::_,_=>rfl
  rw[show uk ps=0 from if_neg (by rw[hd];simp;omega)]at c
  exact ag.2 c
theorem PY{W:Nat→Prop}{h:ad}{x:Nat}{L:cT}{nx:Int}(g:RefAt W h x L nx)(F:L.length≤4611686018427387904){s:SliceV}{ps:List Int}(q:Nums W h s ps)(B:ps.length≤4611686018427387904)
  {K:Int→ad→Prop}(j:∀h',Upd No h h'→K (nK L ps) h'):fH 190 [gS x,.slice s.a s.len s.cap] K h:=by
 refine cW (Dl (some ⟨x,0,none⟩) s) MC Tryz.func190 Tryz.call190 ?_;dsimp only[Dl,sL,rz,cB,fQ,sQ,cg,cH];refine LoopP.ghost (fun(i:Nat) (t:Int) h'=>t=(i:Int)∧Upd No h h'∧i≤ps.length∧∀p∈ps.take i,p∈dF L) (fun i=>ps.length-i) 0 ⟨rfl,Upd.refl _ _,aN _,by simp⟩ ?_
 rintro I i t h' ⟨rfl,k,hi,w⟩ E;have y:Nums W h' s ps:=q.upd k fun _ h=>h.elim
 have z:=g.upd0 k;refine ao (fun b=>?_) fun u=>?_
 ·rw[q.len]at b
  have b:i<ps.length:=by omega
  obtain⟨a,C,_,hx⟩:=Nums.at y b;refine⟨by rw[q.len];omega,a,C,_,hx,zX z F _ fun n A m o=>ao (fun v=>?_) fun v=>?_⟩
  ·have c:ps[i]∉dF L:=fun hm=>by have:=o.2 hm;omega
   rw[show nK L ps=4 from if_pos (bT.2 ⟨_,aH b,by simpa using c⟩)]at j
   exact j _ (k.tr m)
  ·rw[cp b B]
   refine E (i+1) _ _ ⟨rfl,k.tr m,b,?_⟩ (by omega);rw[av b];intro p f;rcases aF.1 f with d|d
   ·exact w p d
   ·rw[al.1 d];exact o.1 (by omega)
 ·rw[q.len]at u
  have:i=ps.length:=by omega
  subst this;rw[bP]at w;have c:¬(ps.any (fun p=> !decide (p∈dF L)))=true:=fun e=>by
   obtain⟨p,f,d⟩:=bT.1 e;simp[w p f]at d
  obtain⟨s',t,Ls,D,A,v,_⟩:=z.blk;refine⟨_,rfl,s',by rw[ce,bd D];rfl,?_⟩
  rw[A.len,v.len];refine ao (fun d=>?_) fun d=>?_
  ·rw[show nK L ps=6 from(if_neg c).trans (if_pos (by omega))]at j
   exact j _ k
  ·rw[show nK L ps=0 from(if_neg c).trans (if_neg (by omega))]at j
   exact j _ k
end Go.Proofs
namespace Go.Proofs
open Go.Lift
theorem om:∀xs:List Int,cx (xs.flatMap u32)=true
 | []=>rfl
 |x::xs=>by rw[aU];exact om xs
abbrev parV(L:cT)(id:Int):List Int:=(bC L id).getD []
inductive UpG(L:cT):Int→Int→Prop
 |refl {a:Int}:a∈dF L→UpG L a a
 |step {a p b:Int}:a∈dF L→p∈parV L a→UpG L p b→UpG L a b
theorem UpG.left{L:cT}{a b:Int}(h:UpG L a b):a∈dF L:=by cases h<;>assumption
theorem GraphAt.more{W Q:Nat→Prop}{a h:ad}{gp gm:Nat}{L:cT}{nx:Int}(g:GraphAt W a gp gm L nx)(k:Upd No a h)(c:∀b,Q b→a.size≤b∧b<h.size):GraphAt (fun b=>W b∨Q b) h gp gm L nx:=by
 obtain⟨m,hm,d⟩:=g.map;refine⟨k.get0 g.blk,⟨m,hm.upd k id,fun j=>?_⟩,.inl g.wp,.inl g.wm,fun b hb=>hb.elim (fun hb=>az (g.lt b hb) k.size) fun hb=>(c b hb).2,g.nd⟩
 rcases d j with⟨s,ps,e,i,f⟩|a
 ·exact .inl ⟨s,ps,e,i,(f.less fun b hb=>hb.imp id fun hb=>(c b hb).1).upd k fun _ h=>h.elim⟩
 ·exact .inr a
theorem GraphAt.less{W W':Nat→Prop}{h:ad}{gp gm:Nat}{L:cT}{nx:Int}(g:GraphAt W h gp gm L nx)(d:∀b,W' b→W b)(a:W' gp)(c:W' gm):GraphAt W' h gp gm L nx:=by
 obtain⟨m,hm,e⟩:=g.map;refine⟨g.blk,⟨m,hm,fun j=>?_⟩,a,c,fun b hb=>g.lt b (d b hb),g.nd⟩
 rcases e j with⟨s,ps,a,c,i⟩|f
 ·exact .inl ⟨s,ps,a,c,i.less fun b hb=>.inl (d b hb)⟩
 ·exact .inr f
theorem OwnS.popG{α:Type}{f:α→List Value}{sz:Nat}{t:TypeId}{M:Nat→Prop}{h:ad}{a:Option Addr}{len cap:Nat}{xs:List α}{x:α}(d:OwnS f sz t M h ⟨a,len,cap⟩ (xs++ [x])){n:Nat}(k:n=xs.length):OwnS f sz t M h ⟨aV a 0 cap sz,n-0,cap-0⟩ xs:=by
 have m:len=(xs++ [x]).length:=d.len;have j:len≤cap:=d.cap;rw[ae,bh]at m;subst k;refine⟨rfl,d.ne,by show xs.length-0≤cap-0;omega,?_⟩
 rcases d.blk with i|⟨b,c,g,hb,hc,e⟩
 ·have i:cap=0:=i
  omega
 ·have g:a=some ⟨b,0,none⟩:=g
  have e:c.length=(cap-len)*sz:=e;refine .inr ⟨b,f x++c,?_,hb,?_,?_⟩
  ·show aV a 0 cap sz=_
   unfold aV;rw[if_neg (by omega),g];simp
  ·rw[hc,List.flatMap_append,aU,List.flatMap_nil,be,List.append_assoc]
  ·show(f x++c).length=(cap-0-(xs.length-0))*sz
   rw[ae,(d.ne x).1,e,show cap-0-(xs.length-0)=(cap-len)+1 by omega,Nat.succ_mul];omega
theorem kZ:∀{l l':List Int},l.Nodup→(∀x∈l,x∈l')→l.length≤l'.length
 | [],_,_,_=>aN _
 |x::l,l',hn,h=>by
  rw[dJ]at hn;have hx:=h x (ar ..);have:=kZ (l':=l'.erase x) hn.2 fun y c=>(List.mem_erase_of_ne (a:=y) (b:=x) fun e=>hn.1 (by rw[←e];exact c)).2 (h y (ax _ c))
  rw[List.length_erase_of_mem hx]at this;have:0<l'.length:=List.length_pos_of_mem hx;rw[au];omega
theorem H9{W Q:Nat→Prop}{h:ad}{gp gm:Nat}{L:cT}{nx:Int}(g:GraphAt W h gp gm L nx)(hQ:∀b,Q b→W b∧b≠gp∧b≠gm)(hP:∀v∈L,v.2.length≤2)(hL:L.length≤100000)
  {s:SliceV}{start:List Int}(Z:OwnS u32 1 31 (fun b=>Q b∨h.size≤b) h s start)(hn:start.length≤1000000000)
  {K:Option Nat→ad→Prop}(hk:∀r h' m,h.size≤r→MapAt KE (fun n:Int=>.int .i64 n) h' r m→(∀y,y∈m.map (·.1)↔∃s∈start,UpG L s y)→(∀y v,bC m y=some v→v=1)→Upd Q h h'→K (some r) h'):
  N0 44 [gS gp,.slice s.a s.len s.cap] K h:=by
 refine cW (qP (some ⟨gp,0,none⟩) s) yo Tryz.func44 Tryz.call44 ?_;dsimp only[qP,sL,rz,cB,fQ,mN,AV,cH,TQ];have k0:=Upd.push No h (.map #[] 0);have hPl:∀id,(parV L id).length≤2:=fun id=>by
  cases hl:bC L id with
  |none=>simp[parV,hl]
  |some ps=>simp only[parV,hl,Option.getD_some];exact hP _ ((eB g.nd).1 hl)
 refine LoopP.ghost (fun(q:List Int×List (Int×Int)) (t:SliceV) h'=>Upd (fun b=>Q b∨h.size≤b) h h'∧OwnS u32 1 31 (fun b=>(Q b∨h.size≤b)∧b≠h.size) h' t q.1∧MapAt KE (fun n:Int=>.int .i64 n) h' h.size q.2∧
   (∀y v,bC q.2 y=some v→v=1)∧q.1.length≤start.length+2*q.2.length∧
   (∀y∈q.2.map (·.1),y∈dF L∧∃s∈start,UpG L s y)∧(∀x∈q.1,∀y,UpG L x y→∃s∈start,UpG L s y)∧
   (∀s∈start,s∈dF L→s∈q.2.map (·.1)∨s∈q.1)∧(∀y∈q.2.map (·.1),∀p∈parV L y,p∈dF L→p∈q.2.map (·.1)∨p∈q.1))
  (fun q=>(L.length-q.2.length)*3+q.1.length) (start,[]) ?_ ?_
 ·refine⟨k0.wide,?_,MapAt.new h,fun y v e=>(by cases e),Nat.le_add_right _ _,fun y j=>(by cases j),fun x hx y j=>⟨x,hx,j⟩,fun s Z _=>.inr Z,fun y j=>(by cases j)⟩
  have:=Z.upd k0 fun _ _=>id
  refine⟨this.len,this.ne,this.cap,?_⟩;rcases Z.blk with hb|⟨b,rest,e1,e2,e3,e4⟩
  ·exact .inl hb
  ·exact .inr ⟨b,rest,e1,⟨e2,Nat.ne_of_lt (bw e3)⟩,k0.get0 e3,e4⟩
 ·rintro I ⟨u,m⟩ t h' ⟨hu,P,hm,o,k,d,G,f,F⟩ hI
  have g1:=g.upd hu fun b hb=>hb.imp (hQ b) id
  (try simp only at P hm o k d G f F)
  refine ao (fun H=>?_) fun V=>?_
  ·rw[P.len]at H
   obtain⟨xs,x,rfl⟩:∃xs x,u=xs++ [x]:=by
    rcases List.eq_nil_or_concat u with e|⟨xs,x,e⟩
    ·subst e;simp at H
    ·exact⟨xs,x,by rw[e,List.concat_eq_append]⟩
   have O:t.len=xs.length+1:=by rw[P.len];simp
   have hw:ac .i64 ((t.len:Int)-1)=(xs.length:Int):=by
    rw[Go.IntWalk.i64_in _ ?_,O]
    ·omega
    ·rw[O];simp only[ae,bh]at k
     have:m.length≤L.length:=by
      have:=kZ (hm.nodup) (fun y j=>(d y j).1)
      simpa using this
     omega
   rw[hw];have hmL:m.length≤L.length:=by
    have:=kZ (hm.nodup) (fun y j=>(d y j).1)
    simpa using this
   have hsl:Nums No h' t (xs++ [x]):=P.sl fun _ _ _=>id
   obtain⟨a,ha,_,hx⟩:=Nums.at hsl (i:=xs.length) (by simp);rw[show(xs++ [x])[xs.length]=x by simp]at hx
   have hcap:=P.cap;have hop:OwnS u32 1 31 (fun b=>(Q b∨h.size≤b)∧b≠h.size) h' ⟨aV t.a 0 t.cap 1,((xs.length:Int)).toNat-0,t.cap-0⟩ xs:=OwnS.popG P (by simp)
   refine⟨by rw[O];omega,a,ha,_,hx,by omega,?_⟩
   have skip:(¬x∈dF L∨x∈m.map (·.1))→I ⟨aV t.a 0 t.cap 1,((xs.length:Int)).toNat-0,t.cap-0⟩ h':=fun hsk=>by
    refine hI (xs,m) _ _ ⟨hu,hop,hm,o,?_,d,fun z V=>G z (by simp[V]),fun s Z A=>?_,fun y j p hp B=>?_⟩ (by simp)
    ·simp only[ae,bh]at k⊢;omega
    ·rcases f s Z A with c|c
     ·exact .inl c
     ·rcases aF.1 c with c|c
      ·exact .inr c
      ·rw[al.1 c]at A⊢
       exact .inl (hsk.resolve_left fun h=>h A)
    ·rcases F y j p hp B with c|c
     ·exact .inl c
     ·rcases aF.1 c with c|c
      ·exact .inr c
      ·rw[al.1 c]at B⊢
       exact .inl (hsk.resolve_left fun h=>h B)
   refine Join.intro (fun t2 J=>J=h'∧(t2=true→(¬x∈dF L∨x∈m.map (·.1)))∧(t2=false→x∈dF L∧x∉m.map (·.1))) (fun R hR=>?_) ?_
   ·refine JR g1 x (CondP.intro (fun c=>?_) fun c=>?_)
    ·have c:¬x∈dF L:=by simpa using c
     exact hR _ _ ⟨rfl,fun _=>.inl c,fun e=>by cases e⟩
    ·have c:x∈dF L:=by simpa using c
     refine⟨_,_,hm.get x 0,hR _ _ ⟨rfl,?_⟩⟩;cases hl:bC m x with
     |none=>exact⟨fun e=>(by simp at e),fun _=>⟨c,dN.1 hl⟩⟩
     |some v=>
      have:=o x v hl;subst this;refine⟨fun _=>.inr ?_,fun e=>(by simp at e)⟩
      exact aP.2 ⟨_,(eB hm.nodup).1 hl,rfl⟩
   ·rintro t2 J ⟨rfl,e1,e2⟩
    refine CondP.intro (fun e=>skip (e1 e)) fun e=>?_
    obtain⟨C,T⟩:=e2 e;refine⟨_,_,hm.get x 0,_,rfl,hm.isMap,?_⟩;rw[dN.2 T,show ac .i64 ((none:Option Int).getD 0+1)=1 by decide]
    have U:=hm.put x 1;have k1:Upd (fun b=>Q b∨h.size≤b) J (lY J h.size (.int .u32 x) (.int .i64 1)):=mI _ _ _ (.inr (ai _))
    have k1':Upd (· =h.size) J (lY J h.size (.int .u32 x) (.int .i64 1)):=mI _ _ _ rfl
    have S:=hu.tr k1;have g2:=g.upd S fun b hb=>hb.imp (hQ b) id
    have ho2:OwnS u32 1 31 (fun b=>(Q b∨h.size≤b)∧b≠h.size) _ _ xs:=hop.upd k1' fun b hb=>hb.2
    obtain⟨gmm,hgm,hr⟩:=g2.map;have hml:(j5 m x 1).length=m.length+1:=by
     have:=congrArg jc (uP m x 1);rw[if_neg T]at this;simpa using this
    have D:(j5 m x 1).map (·.1)=m.map (·.1)++ [x]:=by rw[uP,if_neg T]
    have hmL2:m.length+1≤L.length:=by
     have:=kZ U.nodup (l':=dF L) (fun y j=>by
      rw[D]at j
      rcases aF.1 j with c|c
      ·exact(d y c).1
      ·rw[al.1 c];exact C)
     rw[D]at this;simpa using this
    have N:∀y v,bC (j5 m x 1) y=some v→v=1:=fun y v hv=>by
     rw[uQ]at hv;split at hv
     ·cases hv;rfl
     ·exact o y v hv
    have upx:∀y,UpG L x y→∃s∈start,UpG L s y:=G x (by simp);refine⟨_,rfl,_,g2.c0,_,_,hgm.get x ⟨none,0,0⟩,?_⟩;rcases hr x with⟨sl,ps,l1,l2,hps⟩|⟨_,l2⟩
    ·rw[l1]
     have w:parV L x=ps:=by simp[parV,l2]
     refine⟨_,hps.srow,?_⟩;have hpl:=hPl x;rw[w]at hpl;refine AppP.own ho2 hps.len rfl (om ps) rfl (by omega) ?_ ⟨.inr S.size,?_⟩ fun s' h3 ho3 k3=>?_
     ·simp only[ae,bh]at k;omega
     ·exact Nat.ne_of_gt U.lt
     ·have hu3:=S.tr (k3.mono fun b hb=>.inl hb.1)
      refine hI (xs++ps,j5 m x 1) _ _ ⟨hu3,ho3,U.upd k3 (fun h=>h.2 rfl),N,?_,?_,?_,?_,?_⟩ ?_
      ·simp only[ae,bh]at k⊢;rw[hml];omega
      ·intro y j
       simp only[D]at j;rcases aF.1 j with c|c
       ·exact d y c
       ·rw[al.1 c];exact⟨C,upx x (.refl C)⟩
      ·intro z V y hzy
       rcases aF.1 V with c|c
       ·exact G z (by simp[c]) y hzy
       ·exact upx y (.step C (by rw[w];exact c) hzy)
      ·intro s1 X A
       simp only[D];rcases f s1 X A with c|c
       ·exact .inl (bQ _ c)
       ·rcases aF.1 c with c|c
        ·exact .inr (bQ _ c)
        ·exact .inl (bW _ c)
      ·intro y j p hp B
       simp only[D]at j⊢;rcases aF.1 j with c|c
       ·rcases F y c p hp B with E|E
        ·exact .inl (bQ _ E)
        ·rcases aF.1 E with E|E
         ·exact .inr (bQ _ E)
         ·exact .inl (bW _ E)
       ·rw[al.1 c,w]at hp
        exact .inr (bW _ hp)
      ·show(L.length-(j5 m x 1).length)*3+(xs++ps).length<(L.length-m.length)*3+(xs++ [x]).length
       rw[hml,ae,ae,bh];omega
    ·exact absurd C (dN.1 l2)
  ·have V:u= []:=by
    rw[P.len]at V;exact List.length_eq_zero_iff.1 (by omega)
   subst V;refine hk _ _ m (ai _) hm (fun y=>⟨fun j=>(d y j).2,?_⟩) o (hu.mono fun b hb=>hb)
   rintro⟨s1,X,hup⟩;have hup':∀a b,UpG L a b→a∈m.map (·.1)→b∈m.map (·.1):=by
    intro a b hab;induction hab with
    |refl _=>exact id
    |step c J h3 ih=>
     intro E;rcases F _ E _ J h3.left with Y|Y
     ·exact ih Y
     ·cases Y
   rcases f s1 X hup.left with Y|Y
   ·exact hup' _ _ hup Y
   ·cases Y
end Go.Proofs
