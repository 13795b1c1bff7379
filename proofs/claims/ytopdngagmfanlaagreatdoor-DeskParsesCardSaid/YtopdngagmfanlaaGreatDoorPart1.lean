/- A part of the proof that the named laws of this program answer true, whatever the input. -/
import Derived.Test.YtopdngagmfanlaaGreatDoorPart0
open BitVec renaming ofInt→aq,ofInt_natCast→mJ,getLsbD_ofNat→mK
open Go.IntKind renaming wrap→ac,bits→ag
open Int renaming fdiv→gi,toNat_natCast→ak
open List renaming length_append→ai,replicate→bC,replicate_succ→iK,flatMap_cons→bH,length_cons→ay,flatten_cons→jY,flatten_nil→qy,getElem?_eq_getElem→ax,length→kT,take_of_length_le→bD,length_drop→aS,length_take→aY,range→eI,range_add→uc,mem_range→ji,mem_cons_self→aN,mem_cons_of_mem→aI,filterMap_append→p7,take_left'→cR,drop_left'→cD,drop_drop→cS,append_assoc→aK,pairwise_cons→cc,mem_cons→ar,filter_cons→dF
open Nat renaming le_refl→au,zero_le→bc,le_trans→bv,testBit_and→lz,testBit_two_pow_sub_one→l8,shiftRight_eq_div_pow→np,lt_of_le_of_lt→fQ,min_eq_left→bR,shiftRight_le→pL,mod_eq_of_lt→jd,mod_lt→xw,testBit_lt_two_pow→pK,lt_of_lt_of_le→aO,pow_le_pow_right→mD,zero_add→aP,le_of_eq→gf,lt_irrefl→j4
open UInt8 renaming ofNat→cp
namespace Go.Proofs
open Go.Lift
theorem OwnS.zero{α:Type}{f:α→List Value}{c:Nat}{t:TypeId}{M:Nat→Prop}{h:ad}{s:SliceV}{xs:List α}(d:OwnS f c t M h s xs):OwnS f c t M h ⟨aV s.a 0 s.cap c,0-0,s.cap-0⟩ []:=by
 have e:∀x,(f x).length=c∧0<c:=d.ne;have i:=d.len;have g:=d.cap;refine⟨rfl,e,by simp only;omega,?_⟩
 rcases d.blk with n|⟨b,a,m,j,hc,k⟩
 ·exact .inl (by simp only;omega)
 ·refine .inr ⟨b,xs.flatMap f++a,by rw[m,sub_zero],j,hc,?_⟩
  rw[ai,jU e,k,←Nat.add_mul];simp only;congr 1;omega
def QV:Pr:=(⟨#[]⟩,⟨#[]⟩)
theorem QT(n:Nat):du n [.string (⟨#[]⟩:ByteArray),.string (⟨#[]⟩:ByteArray)]=(bC n QV).flatMap jz:=by
 unfold du;induction n with
 |zero=>rfl
 |succ n ih=>rw[iK,iK,bH,←ih];rfl
theorem W5{n:Nat}(d:n*32≤140737488355328){h:ad}{K:SliceV→ad→Prop}(a:∀s' h',OwnS jz 2 az (fun b=>h.size≤b) h' s' []→Upd No h h'→K s' h'):
  HC PG fJ [.slice none 0 0,.int .i64 n] [.c .slice] K h:=by
 refine nX ⟨none,0,0⟩ n ?_;unfold iX iA;have e:ac .i64 ((n:Int)-ac .i64 (((0:Nat):Int)-((0:Nat):Int)))=(n:Int):=by rw[kD (x:=((0:Nat):Int)-((0:Nat):Int)) (by omega),kD (by omega)];omega
 refine Join.plain (aF (fun h=>by omega) fun _=>?_)
 simp only[Bd];rw[e];refine aF (fun k=>?_) fun j=>a _ _ (OwnS.nil gy) (Upd.refl _ _)
 refine⟨by omega,⟨by omega,by omega,by omega,by omega⟩,?_⟩
 refine AppP.own (f:=jz) (M:=fun b=>h.size≤b) (xs:= []) (ys:=bC n QV) (OwnS.nil gy) (by simp) (QT _) (by rw[QT];exact zK _) rfl (by omega) (by simpa using d) (au _) fun s' h' c i=>?_
 exact⟨by omega,a _ _ (OwnS.zero c) (i.mono fun b g=>.inr g)⟩
abbrev ZZ(s:SliceV):List Value:= [.slice s.a s.len s.cap]
def ParS(h:ad):List SliceV→List (List Pr)→Prop
 | [],[]=>True
 |v::vs,l::ls=>Sl jz 2 No h v l∧ParS h vs ls
 |_,_=>False
theorem ParS.upd{h h':ad}(k:Upd No h h'):∀{vs:List SliceV} {ls:List (List Pr)},ParS h vs ls→ParS h' vs ls
 | [],[],_=>trivial
 |_::_,_::_,q=>⟨q.1.upd k fun _ h=>h.elim,ParS.upd k q.2⟩
 | [],_::_,q=>q.elim
 |_::_,[],q=>q.elim
theorem ParS.len{h:ad}:∀{vs:List SliceV} {ls:List (List Pr)},ParS h vs ls→vs.length=ls.length
 | [],[],_=>rfl
 |_::_,_::_,q=>by rw[ay,ay,ParS.len q.2]
 | [],_::_,q=>q.elim
 |_::_,[],q=>q.elim
theorem ParS.at{h:ad}:∀{vs:List SliceV} {ls:List (List Pr)},ParS h vs ls→∀{i:Nat} (h1:i<vs.length) (h2:i<ls.length),Sl jz 2 No h vs[i] ls[i]
 |_::_,_::_,q,0,_,_=>q.1
 |_::_,_::_,q,i+1,h1,h2=>ParS.at q.2 (by simpa using h1) (by simpa using h2)
theorem JZ(ls:List (List Pr)){i:Nat}(hi:i<ls.length):(ls.take (i+1)).flatten=(ls.take i).flatten++ls[i]:=by
 rw[List.take_succ_eq_append_getElem hi,List.flatten_append,jY,qy,List.append_nil]
theorem Rs(ls:List (List Pr))(i:Nat):(ls.take i).flatten.length≤ls.flatten.length:=by
 have:ls.flatten=(ls.take i).flatten++(ls.drop i).flatten:=by rw[←List.flatten_append,List.take_append_drop]
 rw[this,ai];omega
theorem Kf{h:ad}{s:SliceV}{vs:List SliceV}{ls:List (List Pr)}(B:Sl ZZ 1 No h s vs)(u:ParS h vs ls)(H:ls.flatten.length*32≤140737488355328)(Q:vs.length≤1000)
  {K:SliceV→ad→Prop}(G:∀s' h',OwnS jz 2 az (fun b=>h.size≤b) h' s' ls.flatten→Upd No h h'→K s' h'):HC PG dL [.slice s.a s.len s.cap] [.c .slice] K h:=by
 refine na s ?_;unfold iv bf cU iA;have D:=B.len;have e:=u.len;refine LoopP.ghost (fun(i:Nat) (t:Int×Int) h'=>t.2=(i:Int)∧i≤vs.length∧t.1=((ls.take i).flatten.length:Int)∧h'=h) (fun i=>vs.length-i) 0 ⟨rfl,bc _,by simp,rfl⟩ ?_
 rintro I i ⟨Y,S⟩ h' ⟨e1,hi,e2,rfl⟩ J;simp only at e1 e2;subst e1 e2;refine aF (fun c=>?_) fun v=>?_
 ·have c:i<vs.length:=by have:(i:Int)<(s.len:Int):=c;omega
  obtain⟨a,x,_,f⟩:=B.at (ax c);have N:=(u.at c (e▸c)).len;have d:=congrArg kT (JZ ls (e▸c));rw[ai]at d;have C:=Rs ls (i+1);refine Join.plain ⟨by simp only;omega,a,x,_,f 0 _ rfl,?_⟩;simp only;have F:ac .i64 (((ls.take i).flatten.length:Int)+((vs[i]).len:Int))=((ls.take (i+1)).flatten.length:Int):=by rw[kD (by omega)];omega
  rw[F];refine aF (fun h=>by omega) fun _=>?_
  rw[cM c (by omega)];exact J (i+1) _ _ ⟨rfl,c,rfl,rfl⟩ (by omega)
 ·have L:i=vs.length:=by have:¬(i:Int)<(s.len:Int):=v;omega
  rw[bD (by omega)];refine W5 H fun s0 R A y=>?_
  refine LoopP.ghost (fun(i:Nat) (t:SliceV×Int) q=>t.2=(i:Int)∧i≤vs.length∧OwnS jz 2 az (fun b=>h'.size≤b) q t.1 (ls.take i).flatten∧Upd No h' q) (fun i=>vs.length-i) 0 ⟨rfl,bc _,by simpa using A,y⟩ ?_
  rintro X j ⟨P,V⟩ q ⟨e1,U,o,k⟩ p;simp only at e1 o;subst e1;refine aF (fun c=>?_) fun g=>?_
  ·have c:j<vs.length:=by have:(j:Int)<(s.len:Int):=c;omega
   obtain⟨a,x,_,f⟩:=(B.upd k fun _ h=>h.elim).at (ax c)
   have n:=((u.upd k).at c (e▸c));have d:=JZ ls (e▸c);have m:=congrArg kT d;rw[ai]at m;have C:=Rs ls (j+1);refine Join.plain ⟨by simp only;omega,a,x,_,f 0 _ rfl,_,n.srow,?_⟩;refine AppP.own (ys:=ls[j]) o n.len rfl (zK _) rfl (by omega) (by omega) k.size fun T W z w=>?_
   simp only;rw[cM c (by omega)];exact p (j+1) _ _ ⟨rfl,c,d▸z,k.trans w fun b E=>.inr E⟩ (by omega)
  ·have O:j=vs.length:=by have:¬(j:Int)<(s.len:Int):=g;omega
   rw[bD (by omega)]at o;exact G _ _ o k
def Ld(l:List Pr)(p:Pr):List Pr:=l.take (pos l p.1)++p::l.drop (if cG l p.1 then pos l p.1+1 else pos l p.1)
def S5(l:List Pr)(k:ByteArray):List Pr:=if cG l k then l.take (pos l k)++l.drop (pos l k+1)else l
theorem KY{l:List Pr}(g:eY l){k:ByteArray}(c:cG l k=true):∃h:pos l k<l.length,l[pos l k].1=k:=by
 unfold cG at c;obtain⟨p,f,e⟩:=List.any_eq_true.1 c;have e:=of_decide_eq_true e;obtain⟨q,b,rfl⟩:=List.mem_iff_getElem.1 f;have:pos l k=q:=UF (by omega) (fun j d a=>by rw[←e];exact List.pairwise_iff_getElem.1 g j q d b a) fun h=>by rw[←e];exact fo _
 subst this;exact⟨b,e⟩
theorem KD{h:ad}{s:SliceV}{l:List Pr}(d:Sl jz 2 No h s l){i j m:Nat}(e:i≤j)(a:j≤l.length)(b:j≤m)(c:Nat):Sl jz 2 No h ⟨aV s.a i m 2,j-i,c⟩ ((l.drop i).take (j-i)):=Sl.sub d e a b
theorem PI{h:ad}{s:SliceV}{l:List Pr}(y:Sl jz 2 No h s l)(hc:s.len≤s.cap)(w:eY l)(O:l.length≤1000000000)(p:Pr)
  {K:SliceV→ad→Prop}(I:∀s' h',OwnS jz 2 az (fun b=>h.size≤b) h' s' (Ld l p)→Upd No h h'→K s' h'):HC PG Bj [.slice s.a s.len s.cap,.agg #[.string p.1,.string p.2]] [.c .slice] K h:=by
 refine QC s p ?_;unfold HZ ah Fl ez pW;have g:=y.len;have k1:=Upd.hnew No h [.string p.1,.string p.2] az;have b1:=bF h [.string p.1,.string p.2] az;refine bi ?_;simp only[df h];generalize hnew h [.string p.1,.string p.2] az=h1 at k1 b1;refine⟨p.1,by rw[ce,aW b1];rfl,Lo (y.upd k1 fun _ h=>h.elim) w O p.1 fun P d=>?_⟩
 have A:=UG l p.1;have a:=k1.tr d;refine⟨by simp only;omega,?_⟩;let q:=if cG l p.1 then pos l p.1+1 else pos l p.1
 have N:q≤l.length:=by
  show(if cG l p.1 then pos l p.1+1 else pos l p.1)≤l.length
  split
  ·rename_i ht;obtain⟨h,_⟩:=KY w ht;omega
  ·exact A
 refine Join.intro (fun t h'=>h'=P∧t=⟨aV s.a q s.cap 2,s.len-q,s.cap-q⟩) (fun R D=>?_) ?_
 ·refine CondP.intro (fun e=>?_) fun e=>D _ _ ⟨rfl,?_⟩
  ·have e:cG l p.1=true:=e
   obtain⟨L,_⟩:=KY w e;have G:ac .i64 ((pos l p.1:Int)+1)=((pos l p.1+1:Nat):Int):=by rw[kD (by omega)];omega
   simp only;rw[G];refine⟨by omega,D _ _ ⟨rfl,?_⟩⟩;have:q=pos l p.1+1:=by show(if cG l p.1 then _ else _)=_;rw[if_pos e]
   rw[this];rfl
  ·have e:cG l p.1=false:=e
   have:q=pos l p.1:=by show(if cG l p.1 then _ else _)=_;rw[if_neg (by rw[e];decide)]
   rw[this];rfl
 ·rintro t h' ⟨rfl,rfl⟩
  have b2:=d.get0 b1;refine⟨by simp only;omega,p.1,by rw[ce,aW b2];rfl,p.2,by rw[ce,aW b2];rfl,?_⟩
  have z:=Upd.hnew No h' [.string p.1,.string p.2] az;have b3:=bF h' [.string p.1,.string p.2] az;refine bi ?_;simp only[df h'];generalize hnew h' [.string p.1,.string p.2] az=h3 at z b3;refine bi ?_;have f:=(y.upd a fun _ h=>h.elim).upd z fun _ h=>h.elim
  have k:=Upd.hnew No h3 [.slice (aV s.a 0 s.cap 2) ((pos l p.1:Int).toNat-0) (s.cap-0),.slice (some ⟨h'.size,0,none⟩) 1 1,.slice (aV s.a q s.cap 2) (s.len-q) (s.cap-q)] gV;have F:=bF h3 [.slice (aV s.a 0 s.cap 2) ((pos l p.1:Int).toNat-0) (s.cap-0),.slice (some ⟨h'.size,0,none⟩) 1 1,.slice (aV s.a q s.cap 2) (s.len-q) (s.cap-q)] gV;have B:=KD f (i:=0) (j:=pos l p.1) (m:=s.cap) (bc _) A (by omega) (s.cap-0)
  have J:Sl jz 2 No h3 ⟨some ⟨h'.size,0,none⟩,1,1⟩ [p]:=⟨rfl,gy,fun _=>⟨_,rfl,fun h=>h.elim,pj b3 fun i v n=>by simpa using n⟩⟩
  have o:=KD f (i:=q) (j:=l.length) (m:=s.cap) N (au _) (by omega) (s.cap-q);rw[←g]at o;rw[List.drop_zero]at B;rw[bD (by rw[aS];omega)]at o;have H:Ld l p= [l.take (pos l p.1-0),[p],l.drop q].flatten:=by simp[Ld,q]
  refine Kf (s:=⟨some (aH h3),3,3⟩) (vs:= [⟨aV s.a 0 s.cap 2,(pos l p.1:Int).toNat-0,s.cap-0⟩,⟨some ⟨h'.size,0,none⟩,1,1⟩,⟨aV s.a q s.cap 2,s.len-q,s.cap-q⟩]) (ls:= [l.take (pos l p.1-0),[p],l.drop q])
   ⟨rfl,fun x=>⟨rfl,Nat.one_pos⟩,fun _=>⟨_,rfl,fun h=>h.elim,pj F fun i v n=>by simpa[ZZ]using n⟩⟩ ⟨B.upd k fun _ h=>h.elim,J.upd k fun _ h=>h.elim,o.upd k fun _ h=>h.elim,trivial⟩ ?_ (by simp) fun S Q c u=>?_
  ·simp only[jY,qy,ai,aY,aS,List.length_singleton,List.length_nil];omega
  ·rw[←H]at c
   have C:=((a.tr z).tr k);exact I _ _ (c.more fun b E=>bv C.size E) (C.tr u)
end Go.Proofs
namespace Go.Proofs
open Go.Lift
def wO(n d:Nat):Nat:=(eI n).countP (d.testBit ·)
theorem F5(m n d:Nat):wO (m+n) d=wO m d+wO n (d>>>m):=by
 unfold wO;rw[uc,List.countP_append,List.countP_map];congr 1
 refine List.countP_congr fun i _=>?_
 simp[Nat.testBit_shiftRight]
theorem Rx(d:Nat)(i:Nat):∀n,i≤n→wO n (d&&&(2^i-1))=wO i d:=by
 intro n a;obtain⟨m,rfl⟩:=Nat.exists_eq_add_of_le a;rw[F5];have e1:wO i (d&&&(2^i-1))=wO i d:=by
  unfold wO;refine List.countP_congr fun j b=>?_
  have:=ji.1 b;simp[lz,l8,this]
 have e2:wO m ((d&&&(2^i-1))>>>i)=0:=by
  unfold wO;rw[List.countP_eq_zero];intro j _;simp[Nat.testBit_shiftRight,lz,l8];intro h;omega
 omega
theorem Yq(d:Nat):wO 8 (d&&&255)=wO 8 d:=Rx d 8 8 (au _)
theorem Bs(n d:Nat):wO n d≤n:=by
 have:=List.countP_le_length (p:=(d.testBit ·)) (l:=eI n)
 simpa[wO]using this
theorem th(d n:Nat):gi (d:Int) (2^n)=((d>>>n:Nat):Int):=by
 rw[Int.fdiv_eq_ediv_of_nonneg _ (by exact Int.le_of_lt (Int.pow_pos (by decide))),np];simp
theorem VT(a b:Nat):(aq (ag .u32) (a:Int)&&&aq (ag .u32) (b:Int)).toNat=(a%4294967296)&&&(b%4294967296):=by
 simp[ag,BitVec.toNat_and,BitVec.toNat_ofInt];rfl
theorem BW{n:Nat}(h:n<4294967296):ac .u32 (n:Int)=(n:Int):=Go.IntWalk.u32_in _ (by omega)
theorem GC{i:Nat}(hi:i<32){h:ad}{K:Bool→ad→Prop}(a:K true h):HC PG nV [.int .i64 i] [.c .bool] K h:=by
 refine IT i ?_;unfold AR;refine aF (fun _=>?_) fun h=>absurd (Int.natCast_nonneg i) h
 rw[decide_eq_true (by omega)];exact a
theorem LH{a b:Nat}(h:b<4294967296):a&&&b<4294967296:=fQ Nat.and_le_right h
theorem D0{d i:Nat}(hd:d<4294967296)(hi:i<32){h:ad}{K:Bool→ad→Prop}(c:K (d.testBit i) h):HC PG fW [.int .u32 d,.int .i64 i] [.c .bool] K h:=by
 refine Em d i ?_;unfold wK;refine GC hi (aA.2 ⟨by omega,?_⟩);have e:min (i:Int).toNat (ag .u32)=i:=by rw[ak];exact bR (by show i≤32;omega)
 rw[e,th];have e2:=VT (d>>>i) 1;have a:d>>>i<4294967296:=fQ (pL d i) hd;rw[jd a,show(1:Nat)%4294967296=1 from rfl]at e2
 simp only[Bd];rw[show((1:Nat):Int)=(1:Int)from rfl]at e2
 rw[e2,BW (LH (by omega))];have b:(((d>>>i&&&1:Nat):Int)==(1:Int))=d.testBit i:=by
  rw[Bool.eq_iff_iff,beq_iff_eq,Nat.testBit,Nat.and_comm];simp only[bne_iff_ne,ne_eq,Nat.one_and_eq_mod_two];have:(d>>>i)%2<2:=xw _ (by omega);omega
 rw[b];exact c
theorem Ti{d i:Nat}(hd:d<4294967296)(hi:i<32):∃w:Nat,ac .u32 (aq (ag .u32) (d:Int)|||aq (ag .u32) (ac .u32 (1*2^(min (i:Int).toNat (ag .u32))))).toNat=(w:Int)∧w<4294967296∧∀j,w.testBit j=(d.testBit j||decide (j=i)):=by
 have e:min (i:Int).toNat (ag .u32)=i:=by rw[ak];exact bR (by show i≤32;omega)
 have c:2^i<4294967296:=Nat.pow_lt_pow_right (by omega) (show i<32 from hi)
 have e2:(1*2^i:Int)=((2^i:Nat):Int):=by simp
 rw[e,e2,BW c];refine⟨_,BW (BitVec.isLt _),BitVec.isLt _,fun j=>?_⟩
 rw[BitVec.testBit_toNat,BitVec.getLsbD_or,mJ,mJ,mK,mK,Nat.testBit_two_pow];by_cases a:j<32
 ·have:decide (j<ag .u32)=true:=decide_eq_true a
  rw[this];simp[eq_comm]
 ·have b:decide (j<ag .u32)=false:=decide_eq_false a
  have f:d.testBit j=false:=pK (aO hd (mD (n:=2) (by omega) (show 32≤j by omega)))
  rw[b,f];simp;omega
theorem QY{d i:Nat}(hd:d<4294967296)(hi:i<32){h:ad}{K:Int→ad→Prop}(b:∀w:Nat,w<4294967296→(∀j,w.testBit j=(d.testBit j||decide (j=i)))→K (w:Int) h):HC PG fF [.int .u32 d,.int .i64 i] [.c (.int .u32)] K h:=by
 refine C7 d i ?_;unfold ve;refine GC hi (af.2 ⟨by omega,?_⟩);obtain⟨w,e,c,a⟩:=Ti hd hi;simp only[Bd];rw[e];exact b w c a
theorem LD{d i:Nat}(hd:d<4294967296)(hi:i<32):∃w:Nat,ac .u32 (aq (ag .u32) (d:Int)&&& ~~~aq (ag .u32) (ac .u32 (1*2^(min (i:Int).toNat (ag .u32))))).toNat=(w:Int)∧w<4294967296∧∀j,w.testBit j=(d.testBit j&&decide (j≠i)):=by
 have e:min (i:Int).toNat (ag .u32)=i:=by rw[ak];exact bR (by show i≤32;omega)
 have c:2^i<4294967296:=Nat.pow_lt_pow_right (by omega) (show i<32 from hi)
 have e2:(1*2^i:Int)=((2^i:Nat):Int):=by simp
 rw[e,e2,BW c];refine⟨_,BW (BitVec.isLt _),BitVec.isLt _,fun j=>?_⟩
 rw[BitVec.testBit_toNat,BitVec.getLsbD_and,BitVec.getLsbD_not,mJ,mJ,mK,mK,Nat.testBit_two_pow];by_cases a:j<32
 ·have:decide (j<ag .u32)=true:=decide_eq_true a
  rw[this];simp[eq_comm]
 ·have b:decide (j<ag .u32)=false:=decide_eq_false a
  have f:d.testBit j=false:=pK (aO hd (mD (n:=2) (by omega) (show 32≤j by omega)))
  rw[b,f];simp
theorem Gb{d i:Nat}(hd:d<4294967296)(hi:i<32){h:ad}{K:Int→ad→Prop}(b:∀w:Nat,w<4294967296→(∀j,w.testBit j=(d.testBit j&&decide (j≠i)))→K (w:Int) h):HC PG jR [.int .u32 d,.int .i64 i] [.c (.int .u32)] K h:=by
 refine zx d i ?_;unfold rz;refine GC hi (af.2 ⟨by omega,?_⟩);obtain⟨w,e,c,a⟩:=LD hd hi;simp only[Bd];rw[e];exact b w c a
abbrev YT:ByteArray:=⟨#[0,1,1,2,1,2,2,3,1,2,2,3,2,3,3,4,1,2,2,3,2,3,3,4,2,3,3,4,3,4,4,5,1,2,2,3,2,3,3,4,2,3,3,4,3,4,4,5,2,3,3,4,3,4,4,5,3,4,4,5,4,5,5,6,1,2,2,3,2,3,3,4,2,3,3,4,3,4,4,5,2,3,3,4,3,4,4,5,3,4,4,5,4,5,5,6,2,3,3,4,3,4,4,5,3,4,4,5,4,5,5,6,3,4,4,5,4,5,5,6,4,5,5,6,5,6,6,7,1,2,2,3,2,3,3,4,2,3,3,4,3,4,4,5,2,3,3,4,3,4,4,5,3,4,4,5,4,5,5,6,2,3,3,4,3,4,4,5,3,4,4,5,4,5,5,6,3,4,4,5,4,5,5,6,4,5,5,6,5,6,6,7,2,3,3,4,3,4,4,5,3,4,4,5,4,5,5,6,3,4,4,5,4,5,5,6,4,5,5,6,5,6,6,7,3,4,4,5,4,5,5,6,4,5,5,6,5,6,6,7,4,5,5,6,5,6,6,7,5,6,6,7,6,7,7,8]⟩
theorem Wm:(eI 256).all (fun b=>decide (YT[b]? =some (cp (wO 8 b))))=true:=by decide+kernel
theorem Kz{b:Nat}(h:b<256):YT[b]? =some (cp (wO 8 b)):=of_decide_eq_true (List.all_eq_true.1 Wm b (ji.2 h))
theorem Ly(b:Nat):(cp (wO 8 b)).toNat=wO 8 b:=by
 have:=Bs 8 b;simp;omega
theorem aaL(d:Nat):wO 32 d=wO 8 (d>>>24)+wO 8 ((d>>>16)&&&255)+wO 8 ((d>>>8)&&&255)+wO 8 (d&&&255):=by
 rw[Yq,Yq,Yq,show(32:Nat)=8+(8+(8+8))from rfl,F5,F5,F5]
 simp only[←Nat.shiftRight_add,Nat.reduceAdd];omega
set_option maxRecDepth 100000 in
theorem WP{d:Nat}(hd:d<4294967296){h:ad}{K:Int→ad→Prop}(j:K (wO 32 d:Int) h):HC PG ko [.int .u32 d] [.c (.int .i64)] K h:=by
 refine wx d ?_;unfold oV;have c:gi (d:Int) (2^(min (24:Int).toNat (ag .u32)))=((d>>>24:Nat):Int):=th d 24;have g:gi (d:Int) (2^(min (16:Int).toNat (ag .u32)))=((d>>>16:Nat):Int):=th d 16;have m:gi (d:Int) (2^(min (8:Int).toNat (ag .u32)))=((d>>>8:Nat):Int):=th d 8;have b:∀x:Nat,x<4294967296→ac .u32 (aq (ag .u32) (x:Int)&&&aq (ag .u32) 255).toNat=((x&&&255:Nat):Int):=fun x hx=>by
  have:=VT x 255;rw[jd hx]at this;rw[show((255:Nat):Int)=(255:Int)from rfl]at this
  rw[this,BW (LH (by omega))]
 have a:d>>>24<256:=by rw[np];omega
 have e:∀x:Nat,x&&&255<256:=fun x=>fQ Nat.and_le_right (by omega)
 have i:d>>>16<4294967296:=fQ (pL d 16) hd;have k:d>>>8<4294967296:=fQ (pL d 8) hd;simp only[Bd];rw[c,g,m,b _ i,b _ k,b _ hd];refine⟨by decide,_,by omega,Kz (b:=d>>>24) a,by decide,_,by omega,Kz (e _),by decide,_,by omega,Kz (e _),_,by omega,Kz (e _),?_⟩
 rw[Ly,Ly,Ly,Ly];simp only[ak];have s:=Bs 8 (d>>>24);have q:=Bs 8 (d>>>16&&&255);have p:=Bs 8 (d>>>8&&&255);have q4:=Bs 8 (d&&&255);rw[aaL]at j;have f:∀n:Nat,n≤255→ac .u8 (n:Int)=(n:Int):=fun n o=>Go.IntWalk.u8_in _ (by omega)
 rw[←Int.natCast_add,f _ (by omega),←Int.natCast_add,f _ (by omega),←Int.natCast_add,f _ (by omega),kD (by omega)];exact j
theorem qE{d i:Nat}(hd:d<4294967296)(hi:i<32){h:ad}{K:Int→ad→Prop}(a:K (wO i d:Int) h):HC PG dt [.int .u32 d,.int .i64 i] [.c (.int .i64)] K h:=by
 refine C8 d i ?_;unfold vf;refine aF (fun b=>?_) fun b=>?_
 ·have:i=0:=by omega
  subst this;exact a
 ·refine aF (fun h=>by omega) fun _=>⟨by omega,?_⟩
  have e:min (i:Int).toNat (ag .u32)=i:=by rw[ak];exact bR (by show i≤32;omega)
  have c:2^i<4294967296:=Nat.pow_lt_pow_right (by omega) (show i<32 from hi)
  have f:0<2^i:=Nat.pow_pos (by omega);have e2:(1*2^i:Int)=((2^i:Nat):Int):=by simp
  have g:(((2^i:Nat):Int)-1)=((2^i-1:Nat):Int):=by omega
  simp only[Bd];rw[e,e2,BW c,g,BW (show 2^i-1<4294967296 by omega),VT,jd hd,jd (show 2^i-1<4294967296 by omega),BW (LH (by omega))]
  refine BK _ ?_;unfold tZ;refine WP (LH (by omega)) ?_;rw[Rx d i 32 (by omega)];exact a
end Go.Proofs
namespace Go.Proofs
open Go.Lift
def fm{β:Type}(g:Nat→Option β)(n:Nat):List β:=(eI n).filterMap g
def upd{β:Type}(g:Nat→Option β)(i:Nat)(x:Option β)(j:Nat):Option β:=if j=i then x else g j
theorem Zq{β:Type}{f g:Nat→Option β}:∀l:List Nat,(∀j∈l,f j=g j)→l.filterMap f=l.filterMap g
 | [],_=>rfl
 |j::l,h=>by
  rw[List.filterMap_cons,List.filterMap_cons,h j (aN ..),Zq l fun k a=>h k (aI _ a)]
section
variable {β:Type} {g:Nat→Option β} {d:Nat}
theorem G9(hd:∀c,c<32→d.testBit c=(g c).isSome){i:Nat}(hi:i≤32):(fm g i).length=wO i d:=by
 unfold fm wO;rw[List.length_filterMap_eq_countP];exact List.countP_congr fun j a=>by rw[hd j (by have:=ji.1 a;omega)]
theorem qV{i n:Nat}(hi:i<n):fm g n=fm g i++((g i).toList++(eI (n-(i+1))).filterMap fun j=>g (i+1+j)):=by
 unfold fm;have e:n=i+(1+(n-(i+1))):=by omega
 rw[e,uc,p7,uc];have e2:i+(1+(n-(i+1)))-(i+1)=n-(i+1):=by omega
 rw[e2];congr 1
 rw[List.map_append,p7,List.map_map];congr 1
 rw[List.filterMap_map];refine Zq _ fun j _=>?_
 show g (i+(1+j))=_
 rw[Nat.add_assoc]
theorem Be{i:Nat}{x:Option β}:fm (upd g i x) i=fm g i:=by
 unfold fm;refine Zq _ fun j a=>?_
 have:=ji.1 a;unfold upd;rw[if_neg (by omega)]
theorem yC{i m:Nat}{x:Option β}:((eI m).filterMap fun j=>upd g i x (i+1+j))=(eI m).filterMap fun j=>g (i+1+j):=by
 refine Zq _ fun j _=>?_
 unfold upd;rw[if_neg (by omega)]
theorem Va{i:Nat}(hi:i<32)(hd:∀c,c<32→d.testBit c=(g c).isSome)(b:g i=none)(x:β):fm (upd g i (some x)) 32=(fm g 32).take (wO i d)++x::(fm g 32).drop (wO i d):=by
 have a:=G9 hd (i:=i) (by omega);rw[qV (g:=upd g i (some x)) hi,qV (g:=g) hi,Be,yC,b,cR a,cD a];simp[upd]
theorem U9{i:Nat}(hi:i<32)(hd:∀c,c<32→d.testBit c=(g c).isSome){y:β}(b:g i=some y)(x:β):fm (upd g i (some x)) 32=(fm g 32).take (wO i d)++x::(fm g 32).drop (wO i d+1):=by
 have a:=G9 hd (i:=i) (by omega);rw[qV (g:=upd g i (some x)) hi,qV (g:=g) hi,Be,yC,b,cR a,←cS,cD a];simp[upd]
theorem Vb{i:Nat}(hi:i<32)(hd:∀c,c<32→d.testBit c=(g c).isSome){y:β}(b:g i=some y):fm (upd g i none) 32=(fm g 32).take (wO i d)++(fm g 32).drop (wO i d+1):=by
 have a:=G9 hd (i:=i) (by omega);rw[qV (g:=upd g i none) hi,qV (g:=g) hi,Be,yC,b,cR a,←cS,cD a];simp[upd]
theorem Vc{i:Nat}(hi:i<32)(hd:∀c,c<32→d.testBit c=(g c).isSome){y:β}(a:g i=some y):(fm g 32)[wO i d]? =some y:=by
 have b:=G9 hd (i:=i) (by omega);rw[qV (g:=g) hi,a,List.getElem?_append_right (by omega),b,Nat.sub_self];rfl
theorem JY{i:Nat}(hi:i<32)(hd:∀c,c<32→d.testBit c=(g c).isSome){y:β}(a:g i=some y):wO i d<(fm g 32).length:=(List.getElem?_eq_some_iff.1 (Vc hi hd a)).1
theorem XF{i:Nat}(hi:i<32)(hd:∀c,c<32→d.testBit c=(g c).isSome):wO i d≤(fm g 32).length:=by
 have a:=G9 hd (i:=i) (by omega);rw[qV (g:=g) hi,ai];omega
theorem EL:(fm g 32).length≤32:=by
 have:=List.length_filterMap_le g (eI 32);simpa[fm]using this
end
end Go.Proofs
namespace Go.Proofs
open Go.Lift
abbrev sv(s:SliceV):Value:=.slice s.a s.len s.cap
structure Slots where
 p:Nat→Option Pr
 k:Nat→Option (Option Addr)
def fZ(d n:Nat)(sp sk:SliceV)(a:Bool)(ow:Option Addr):Array Value:= #[.int .u32 (d:Int),.int .u32 (n:Int),sv sp,sv sk,.bool a,.pointer ow]
structure BitsOf(d n:Nat)(s:Slots):Prop where
 d32:d<4294967296
 n32:n<4294967296
 dp:∀c,c<32→d.testBit c=(s.p c).isSome
 nk:∀c,c<32→n.testBit c=(s.k c).isSome
structure NodeAt(W:Nat→Prop)(h:ad)(b:Nat)(s:Slots):Prop where
 ex:∃d n sp sk ow,h[b]? =some (.cells (fZ d n sp sk false ow) bE (0,0))∧BitsOf d n s∧Sl jz 2 W h sp (fm s.p 32)∧Sl uk 1 W h sk (fm s.k 32)∧sp.len≤sp.cap∧sk.len≤sk.cap
 nw:¬W b
theorem NodeAt.upd{W M:Nat→Prop}{h h':ad}{b:Nat}{s:Slots}(n:NodeAt W h b s)(k:Upd M h h')(hm:∀b,M b→W b∨h.size≤b):NodeAt W h' b s:=by
 obtain⟨d,m,sp,sk,ow,a,f,g,i,c,j⟩:=n.ex;exact⟨⟨d,m,sp,sk,ow,k.get a (fun e=>(hm _ e).elim n.nw fun h=>by have:=bB a;omega),f,g.upd k hm,i.upd k hm,c,j⟩,n.nw⟩
structure OwnN(M:Nat→Prop)(h:ad)(b d n:Nat)(sp sk:SliceV)(s:Slots)(ow:Option Addr):Prop where
 blk:h[b]? =some (.cells (fZ d n sp sk false ow) bE (0,0))
 bits:BitsOf d n s
 ex:∃A B:Nat→Prop,OwnS jz 2 az A h sp (fm s.p 32)∧OwnS uk 1 bO B h sk (fm s.k 32)∧(∀x,A x→M x∧¬B x∧x≠b∧x<h.size)∧(∀x,B x→M x∧x≠b∧x<h.size)
 mb:M b
theorem yx{h:ad}{K:Bool→ad→Prop}(a:K false h):HC PG gL [.pointer none] [.c .bool] K h:=by
 refine Bw none ?_;unfold tL cJ;exact af.2 a
theorem Jz{b:Nat}{h:ad}{K:Bool→ad→Prop}(a:K false h):HC PG py [.pointer (some ⟨b,0,none⟩),.pointer none] [.c .bool] K h:=by
 refine CY _ none ?_;unfold uT iE;exact aA.2 (yx (af.2 a))
theorem OwnN.upd{M M':Nat→Prop}{h h':ad}{b d n:Nat}{sp sk:SliceV}{s:Slots}{ow:Option Addr}(o:OwnN M h b d n sp sk s ow)(k:Upd M' h h')(hm:∀x,M' x→¬M x):OwnN M h' b d n sp sk s ow:=by
 obtain⟨A,B,g,i,a,c⟩:=o.ex;have z:=k.size;exact⟨k.get o.blk fun f=>hm _ f o.mb,o.bits,⟨A,B,g.upd k fun x hx e=>hm _ e (a x hx).1,i.upd k fun x hx e=>hm _ e (c x hx).1,fun x hx=>⟨(a x hx).1,(a x hx).2.1,(a x hx).2.2.1,by have:=(a x hx).2.2.2;omega⟩,fun x hx=>⟨(c x hx).1,(c x hx).2.1,by have:=(c x hx).2.2;omega⟩⟩,o.mb⟩
set_option maxRecDepth 4000 in
theorem PJ{W:Nat→Prop}{h:ad}{b:Nat}{s:Slots}(nd:NodeAt W h b s){K:Option Addr→ad→Prop}
  (D:∀h' d n sp sk,OwnN (fun x=>h.size≤x) h' h.size d n sp sk s none→Upd No h h'→K (some ⟨h.size,0,none⟩) h'):
  HC PG gr [.pointer (some ⟨b,0,none⟩),.pointer none] [.c .ptr] K h:=by
 obtain⟨d,n,sp,sk,ow,a,bits,C,G,U,Z⟩:=nd.ex;refine xI _ none ?_;unfold rM nv cJ bM bT iY iE gn TI XO;refine Jz (af.2 ?_);have c:∀{h:ad} {b:Nat} {c:Array Value} {i:Nat},h[b]? =some (.cells c bE (0,0))→aD h ⟨b,0+i,none⟩=c[i]?:=fun a=>by rw[aP];exact aW a
 refine⟨_,rfl,_,c (i:=0) a,_,c (i:=1) a,sp,c (i:=2) a,sk,c (i:=3) a,_,c (i:=4) a,_,c (i:=5) a,?_⟩;have k1:=Upd.hnew No h [.int .u32 0,.int .u32 0,.slice none 0 0,.slice none 0 0,.bool false,.pointer none] bE;have b1:=bF h [.int .u32 0,.int .u32 0,.slice none 0 0,.slice none 0 0,.bool false,.pointer none] bE;refine bi ?_;simp only[df h];generalize hnew h [.int .u32 0,.int .u32 0,.slice none 0 0,.slice none 0 0,.bool false,.pointer none] bE=h1 at k1 b1
 have B:ib h1 ⟨h.size,0,none⟩ 0 [.int .u32 (d:Int),.int .u32 (n:Int),.slice sp.a sp.len sp.cap,.slice sk.a sk.len sk.cap,.bool false,.pointer ow]=_:=jA _ h1 0 0 _ b1 (by simp);refine⟨.inr ⟨_,rfl,fun j X=>by rw[ce];exact iM b1 (by simp at X⊢;omega)⟩,bi ?_⟩
 rw[B];have b2:=jo (o:=.cells (fZ d n sp sk false ow) bE (0,0)) b1;have u:Upd No h _:=k1.trans (M':=(· =h.size)) (Upd.set h1 (.cells (fZ d n sp sk false ow) bE (0,0)) rfl) fun x hx=>.inr (gf hx.symm)
 have N:h.size<(h1.setIfInBounds h.size (.cells (fZ d n sp sk false ow) bE (0,0))).size:=bB b2;have S:h.size≠b:=fun e=>by have:=bB a;omega
 have e2:(Obj.cells (List.take (0+0) [Value.int .u32 0,.int .u32 0,.slice none 0 0,.slice none 0 0,.bool false,.pointer none]++ [Value.int .u32 (d:Int),.int .u32 (n:Int),.slice sp.a sp.len sp.cap,.slice sk.a sk.len sk.cap,.bool false,.pointer ow]++List.drop (0+0+ [Value.int .u32 (d:Int),.int .u32 (n:Int),.slice sp.a sp.len sp.cap,.slice sk.a sk.len sk.cap,.bool false,.pointer ow].length) [Value.int .u32 0,.int .u32 0,.slice none 0 0,.slice none 0 0,.bool false,.pointer none]).toArray bE (0,0))=.cells (fZ d n sp sk false ow) bE (0,0):=rfl
 rw[e2];generalize h1.setIfInBounds h.size (.cells (fZ d n sp sk false ow) bE (0,0))=h2 at b2 u N;have q:=u.get0 a;refine⟨_,rfl,sp,c (i:=2) q,_,rfl,sk,c (i:=3) q,?_⟩;refine zS (C.upd u fun _ h=>h.elim) (by have:=EL (g:=s.p);omega) fun z Q H m=>?_
 refine⟨c (i:=3) (m.get0 q),?_⟩;refine Kh ((G.upd u fun _ h=>h.elim).upd m fun _ h=>h.elim) (by have:=EL (g:=s.k);omega) fun L Y E p=>?_
 have O:=p.get0 (m.get0 b2);have t:=H.within.upd p fun _ _ h=>h
 have y:=E.within;have z3:=m.size;have z4:=p.size;have w:∀{h:ad} {c:Array Value} {x i:Nat},h[x]? =some (.cells c bE (0,0))→i<c.size→Wr h ⟨x,0+i,none⟩:=fun a hi=>by rw[aP];exact iM a hi
 have st:∀{h:ad} {c c':Array Value} {x i:Nat} {v:Value} {k:ad→Prop},h[x]? =some (.cells c bE (0,0))→c.setIfInBounds i v=c'→(∀h',h'[x]? =some (.cells c' bE (0,0))→Upd (· =x) h h'→k h')→At (hset h ⟨x,i,none⟩ v) k:=fun a e D=>vC a fun h' J T=>D h' (e▸J) T
 refine⟨w (i:=2) O (show 2<6 by decide),st (i:=2) (c':=fZ d n z sk false ow) O rfl fun h5 R F=>?_⟩
 refine⟨w (i:=3) R (show 3<6 by decide),st (i:=3) (c':=fZ d n z L false ow) R rfl fun h6 P A=>?_⟩
 refine⟨w (i:=5) P (show 5<6 by decide),st (i:=5) (c':=fZ d n z L false none) P rfl fun h7 V I=>?_⟩
 refine yx (af.2 ?_);have f:=F.tr (A.tr I);have z7:=f.size;refine D _ d n z L ⟨V,bits,⟨fun x=>h2.size≤x∧x<Q.size,fun x=>Q.size≤x∧x<Y.size,t.upd f fun x hx e=>by have e:x=h.size:=e;omega,y.upd f fun x hx e=>by have e:x=h.size:=e;omega,fun x hx=>⟨by omega,by omega,by omega,by omega⟩,fun x hx=>⟨by omega,by omega,by omega⟩⟩,au _⟩ ?_
 exact((u.tr m).tr p).trans f fun x hx=>.inr (gf hx.symm)
end Go.Proofs
namespace Go.Proofs
open Go.Lift
theorem vT{β:Type}{g:Nat→Option β}{i:Nat}(h:g i=none):upd g i none=g:=by
 funext j;unfold upd;split
 ·rename_i e;rw[e,h]
 ·rfl
theorem eM{h:ad}{b:Nat}{c:Array Value}{t:TypeId}{i:Nat}(a:h[b]? =some (.cells c t (0,0))):aD h ⟨b,0+i,none⟩=c[i]?:=by rw[aP];exact aW a
theorem Wa{h:ad}{b:Nat}{c:Array Value}{t:TypeId}{i:Nat}(a:h[b]? =some (.cells c t (0,0))) (hi:i<c.size):Wr h ⟨b,0+i,none⟩:=by rw[aP];exact iM a hi
theorem Ij{h:ad}{b:Nat}{c c':Array Value}{t:TypeId}{i:Nat}{v:Value}{k:ad→Prop}(d:h[b]? =some (.cells c t (0,0))) (e:c.setIfInBounds i v=c')
 (g:∀h',h'[b]? =some (.cells c' t (0,0))→Upd (· =b) h h'→k h'):At (hset h ⟨b,i,none⟩ v) k:=vC d fun h' a f=>g h' (e▸a) f
theorem Lu{M:Nat→Prop}{h:ad}{b d n:Nat}{sp sk:SliceV}{s:Slots}{ow:Option Addr}(o:OwnN M h b d n sp sk s ow){i:Nat}(hi:i<32){K:Unit→ad→Prop}
  (V:∀h' d' F sp' sk',OwnN M h' b d' F sp' sk' ⟨upd s.p i none,upd s.k i none⟩ ow→Upd M h h'→K () h'):HC PG jP [.pointer (some ⟨b,0,none⟩),.int .i64 i] [] K h:=by
 obtain⟨A,B,U,W,a,m⟩:=o.ex;have bits:=o.bits;refine CV _ i ?_;unfold uQ bM bT nL Mf gn;have T:∀k:Nat,k≤100→ac .i64 ((k:Int)+1)=((k+1:Nat):Int):=fun k V=>by rw[kD (by omega)];omega
 have hc1:=Bs i d;have hc2:=Bs i n;have O:∀x,A x→M x∨h.size≤x:=fun x hx=>.inl (a x hx).1
 refine Join.intro (fun _ h'=>∃sp',h'[b]? =some (.cells (fZ d n sp' sk false ow) bE (0,0))∧OwnS jz 2 az A h' sp' (fm (upd s.p i none) 32)∧OwnS uk 1 bO B h' sk (fm s.k 32)∧Upd M h h') (fun R E=>?_) ?_
 ·refine⟨_,rfl,_,eM (i:=0) o.blk,D0 bits.d32 hi ?_⟩
  rw[bits.dp i hi];cases hp:s.p i with
  |none=>exact af.2 (E _ _ ⟨sp,o.blk,by rw[vT hp];exact U,W,Upd.refl _ _⟩)
  |some y=>
   refine aA.2 ⟨_,rfl,_,eM (i:=0) o.blk,qE bits.d32 hi ⟨_,rfl,sp,eM (i:=2) o.blk,?_⟩⟩;rw[T _ (by omega)];refine Qi U (JY hi bits.dp hp) (by have:=EL (g:=s.p);omega) fun v Y t f=>?_
   rw[←Vb hi bits.dp hp]at t;have b2:=f.get o.blk fun G=>(a b G).2.2.1 rfl
   refine⟨_,rfl,Wa (i:=2) b2 (show 2<6 by decide),Ij (i:=2) (c':=fZ d n v sk false ow) b2 rfl fun X b3 j=>?_⟩
   refine E _ _ ⟨v,b3,t.upd j fun x hx e=>(a x hx).2.2.1 e,(W.upd f fun x hx S=>(a x S).2.1 hx).upd j fun x hx e=>(m x hx).2.1 e,(f.mono O).tr (j.mono fun x e=>.inl (e▸o.mb))⟩
 rintro _ Z ⟨q,b1,C,w,D⟩;refine Join.intro (fun _ h'=>∃sk',h'[b]? =some (.cells (fZ d n q sk' false ow) bE (0,0))∧OwnS jz 2 az A h' q (fm (upd s.p i none) 32)∧OwnS uk 1 bO B h' sk' (fm (upd s.k i none) 32)∧Upd M Z h') (fun R E=>?_) ?_
 ·refine⟨_,rfl,_,eM (i:=1) b1,D0 bits.n32 hi ?_⟩
  rw[bits.nk i hi];cases hp:s.k i with
  |none=>exact af.2 (E _ _ ⟨sk,b1,C,by rw[vT hp];exact w,Upd.refl _ _⟩)
  |some y=>
   refine aA.2 ⟨_,rfl,_,eM (i:=1) b1,qE bits.n32 hi ⟨_,rfl,sk,eM (i:=3) b1,?_⟩⟩;rw[T _ (by omega)];refine Qj w (JY hi bits.nk hp) (by have:=EL (g:=s.k);omega) fun v Y t f=>?_
   rw[←Vb hi bits.nk hp]at t;have b2:=f.get b1 fun G=>(m b G).2.1 rfl
   refine⟨_,rfl,Wa (i:=3) b2 (show 3<6 by decide),Ij (i:=3) (c':=fZ d n q v false ow) b2 rfl fun X b3 j=>?_⟩
   refine E _ _ ⟨v,b3,(C.upd f fun x hx S=>(a x hx).2.1 S).upd j fun x hx e=>(a x hx).2.2.1 e,t.upd j fun x hx e=>(m x hx).2.1 e,(f.mono fun x hx=>.inl (m x hx).1).tr (j.mono fun x e=>.inl (e▸o.mb))⟩
 rintro _ Y ⟨u,b2,I,P,f⟩;refine⟨_,rfl,_,eM (i:=0) b2,_,rfl,_,eM (i:=1) b2,?_⟩;refine Gb bits.d32 hi fun d' Q J=>⟨eM (i:=1) b2,?_⟩
 refine Gb bits.n32 hi fun F N L=>?_
 refine⟨_,rfl,Wa (i:=0) b2 (show 0<6 by decide),Ij (i:=0) (c':=fZ d' n q u false ow) b2 rfl fun X b3 j=>?_⟩
 refine⟨_,rfl,Wa (i:=1) b3 (show 1<6 by decide),Ij (i:=1) (c':=fZ d' F q u false ow) b3 rfl fun h4 b4 H=>?_⟩
 have p:=j.tr H;have z:=(D.tr (f.tr (p.mono (M':=M) fun x e=>.inl (e▸o.mb)))).size
 refine V h4 d' F q u ⟨b4,⟨Q,N,fun c hc=>?_,fun c hc=>?_⟩,⟨A,B,I.upd p fun x hx e=>(a x hx).2.2.1 e,P.upd p fun x hx e=>(m x hx).2.1 e,fun x hx=>⟨(a x hx).1,(a x hx).2.1,(a x hx).2.2.1,by have:=(a x hx).2.2.2;omega⟩,fun x hx=>⟨(m x hx).1,(m x hx).2.1,by have:=(m x hx).2.2;omega⟩⟩,o.mb⟩ (D.tr (f.tr (p.mono fun x e=>.inl (e▸o.mb))))
 ·rw[J,bits.dp c hc];simp only[upd];split<;>simp[*]
 ·rw[L,bits.nk c hc];simp only[upd];split<;>simp[*]
end Go.Proofs
namespace Go.Proofs
open Go.Lift
theorem OwnS.setAt{α:Type}{f:α→List Value}{c:Nat}{t:TypeId}{M:Nat→Prop}{h:ad}{s:SliceV}{xs:List α}(m:OwnS f c t M h s xs){k:Nat}(p:k<xs.length)(x:α):
  ∃a,s.a=some a∧M a.block∧sN h (some (adr a (k*c))) 0 (f x)∧OwnS f c t M (ib h (adr a (k*c)) 0 (f x)) s (xs.take k++x::xs.drop (k+1))∧Upd (· =a.block) h (ib h (adr a (k*c)) 0 (f x)):=by
 have i:∀x,(f x).length=c∧0<c:=m.ne;have v:=m.len;have g:=m.cap;rcases m.blk with D|⟨b,e,w,q,hc,y⟩
 ·omega
 have o:((xs.take k).flatMap f).length=k*c:=by rw[jU i,aY,bR (by omega)]
 have e1:xs.flatMap f=(xs.take k).flatMap f++(f xs[k]++(xs.drop (k+1)).flatMap f):=by
  rw[←bH,←List.drop_eq_getElem_cons p];exact yY xs k
 rw[e1]at hc;have z:=(i xs[k]).1;have E:=(i x).1;have d:(xs.take k++x::xs.drop (k+1)).flatMap f=(xs.take k).flatMap f++(f x++(xs.drop (k+1)).flatMap f):=by rw[List.flatMap_append,bH]
 generalize (xs.take k).flatMap f=A at o hc d;generalize (xs.drop (k+1)).flatMap f=B at hc d;generalize f xs[k]=X at z hc;have u:k*c+0+(f x).length≤(A++(X++B)++e).length:=by simp only[ai];omega
 have n:adr ⟨b,0,none⟩ (k*c)=⟨b,k*c,none⟩:=by rw[ce,aP]
 refine⟨⟨b,0,none⟩,w,q,?_,?_,?_⟩
 ·rw[n]
  refine .inr ⟨_,rfl,fun j C=>?_⟩
  rw[ce];exact iM hc (by rw[List.size_toArray];omega)
 ·rw[n,jA (f x) h 0 (k*c) _ hc u]
  refine⟨by simp;omega,i,g,.inr ⟨b,e,w,q,?_,?_⟩⟩
  ·rw[jo hc,d]
   congr 3
   rw[Nat.add_zero,aK A,cR o,←cS,cD o,aK X,cD (by omega)];simp only[aK]
  ·exact y
 ·rw[n,jA (f x) h 0 (k*c) _ hc u]
  exact Upd.set h _ rfl
theorem OwnN.node{M W:Nat→Prop}{h:ad}{b d n:Nat}{sp sk:SliceV}{s:Slots}{ow:Option Addr}(o:OwnN M h b d n sp sk s ow)(a:∀x,M x→¬W x):NodeAt W h b s:=by
 obtain⟨A,B,c,e,f,g⟩:=o.ex;exact⟨⟨d,n,sp,sk,ow,o.blk,o.bits,c.sl fun x hx _=>a _ (f x hx).1,e.sl fun x hx _=>a _ (g x hx).1,c.cap,e.cap⟩,a _ o.mb⟩
theorem G2{W:Nat→Prop}{h:ad}{b:Nat}{s:Slots}(nd:NodeAt W h b s){i:Nat}(hi:i<32){K:Bool→ad→Prop}(a:K true h):HC PG jQ [.pointer (some ⟨b,0,none⟩),.int .i64 i] [.c .bool] K h:=by
 obtain⟨d,n,sp,sk,ow,c,_⟩:=nd.ex;refine CW _ i ?_;unfold uR cJ;refine aA.2 ⟨_,rfl,_,eM (i:=4) c,aA.2 ?_⟩;refine aF (fun _=>?_) fun h=>absurd (Int.natCast_nonneg i) h
 rw[decide_eq_true (by omega)];exact a
theorem Q2{β:Type}{g:Nat→Option β}{i:Nat}{x y:Option β}:upd (upd g i x) i y=upd g i y:=by
 funext j;unfold upd;split<;>rfl
theorem gZ{β:Type}{g:Nat→Option β}{i:Nat}{x:Option β}:upd g i x i=x:=by simp[upd]
theorem sW{W:Nat→Prop}{h:ad}{b:Nat}{s:Slots}(nd:NodeAt W h b s)(hW:∀x,W x→x<h.size){i:Nat}(hi:i<32)(hx:∀y,s.p i=some y→s.k i=none)(p:Pr){K:Option Addr→ad→Prop}
  (hk:∀h' b',NodeAt W h' b' ⟨upd s.p i (some p),upd s.k i none⟩→Upd No h h'→K (some ⟨b',0,none⟩) h'):
  HC PG fE [.pointer (some ⟨b,0,none⟩),.pointer none,.int .i64 i,.agg #[.string p.1,.string p.2]] [.c .ptr] K h:=by
 refine Aj _ none i p ?_;unfold su cU ah ez bM bT iY pW nL pf gn Fi;have k1:=Upd.hnew No h [.string p.1,.string p.2] az;have b1:=bF h [.string p.1,.string p.2] az;refine bi ?_;simp only[df h];generalize hnew h [.string p.1,.string p.2] az=h1 at k1 b1;have z1:=bB b1;have V:=nd.upd k1 fun _ h=>h.elim
 refine G2 V hi (af.2 ?_);refine PJ V fun h2 d n sp sk o G=>?_
 have bits:=o.bits;obtain⟨A,B,hA,hB,q,H⟩:=o.ex;have F:=k1.tr G;have u:=G.get0 b1;have Y:∀x,h1.size≤x→¬W x:=fun x hx U=>by have:=hW x U;omega
 refine⟨_,rfl,_,eM (i:=0) o.blk,D0 bits.d32 hi ?_⟩;rw[bits.dp i hi];cases hp:s.p i with
 |some y=>
  refine aA.2 ⟨_,rfl,sp,eM (i:=2) o.blk,_,rfl,_,eM (i:=0) o.blk,p.1,by rw[ce,aW u];rfl,p.2,by rw[ce,aW u];rfl,?_⟩
  refine qE bits.d32 hi ⟨⟨by rw[ce,aW u];rfl,by rw[ce,aW u];rfl⟩,eM (i:=2) o.blk,?_⟩
  have hlt:=JY hi bits.dp hp;obtain⟨a,ha,J,U,ho3,m⟩:=OwnS.setAt hA hlt p;have hlen:=hA.len;refine⟨by omega,a,ha,?_⟩;rw[ak];refine⟨U,bi ?_⟩;rw[←U9 hi bits.dp hp]at ho3;have ob:=m.get o.blk fun e=>(q _ J).2.2.1 e.symm
  have z3:=m.size;have v:OwnN (fun x=>h1.size≤x) _ h1.size d n sp sk ⟨upd s.p i (some p),upd s.k i none⟩ none:=⟨ob,⟨bits.d32,bits.n32,fun c hc=>by
    rw[bits.dp c hc];simp only[upd];split
    ·rename_i e;rw[e,hp];rfl
    ·rfl,fun c hc=>by rw[bits.nk c hc,vT (hx y hp)]⟩,
   ⟨A,B,ho3,by rw[vT (hx y hp)];exact hB.upd m fun x hx e=>(q _ J).2.1 (e▸hx),fun x hx=>⟨(q x hx).1,(q x hx).2.1,(q x hx).2.2.1,by have:=(q x hx).2.2.2;omega⟩,fun x hx=>⟨(H x hx).1,(H x hx).2.1,by have:=(H x hx).2.2;omega⟩⟩,o.mb⟩
  refine hk _ _ (v.node Y) (F.trans m fun x hx=>.inr ?_)
  have:=(q _ J).1;have hx:x=a.block:=hx;omega
 |none=>
  refine af.2 ⟨_,rfl,Lu o hi fun D d3 n3 C I v m=>?_⟩
  have f:=v.bits;obtain⟨A3,B3,hA3,hB3,j,k⟩:=v.ex;have z2:=G.size;have z3:=m.size;have E:=m.get u (show ¬h1.size≤h.size by omega)
  have Q:Upd No h D:=F.trans m fun x hx=>.inr (bv (Nat.le_of_lt z1) hx)
  refine⟨_,rfl,C,eM (i:=2) v.blk,_,rfl,_,eM (i:=0) v.blk,p.1,by rw[ce,aW E];rfl,p.2,by rw[ce,aW E];rfl,?_⟩
  have P:=Upd.hnew No D [.string p.1,.string p.2] az;have b4:=bF D [.string p.1,.string p.2] az;have z4:=eN D [.string p.1,.string p.2] az;have N:=v.upd P fun _ h=>h.elim
  have S:HC PG cV [.slice C.a C.len C.cap,.int .i64 (wO i d3),.slice (some (aH D)) 1 1] [.c .slice] (fun(L:SliceV) R=>
       ∃a34:Addr,some (⟨h1.size,0,none⟩:Addr)=some a34∧
       (Wr R (adr (adr a34 0) 2)∧
        At (hset R (adr (adr a34 0) 2) (.slice L.a L.len L.cap)) (fun Z=>
         ∃a36:Addr,some (⟨h1.size,0,none⟩:Addr)=some a36∧
         ∃v37:Int,aD Z (adr (adr a36 0) 0)=some (.int .u32 v37)∧
         HC PG fF [.int .u32 v37,.int .i64 i] [.c (.int .u32)] (fun(e38:Int) T=>
          ∃a40:Addr,some (⟨h1.size,0,none⟩:Addr)=some a40∧
          (Wr T (adr (adr a40 0) 0)∧
           At (hset T (adr (adr a40 0) 0) (.int .u32 e38)) (fun h41=>
            K (some ⟨h1.size,0,none⟩) h41))) Z))) (hnew D [.string p.1,.string p.2] az):=by
   generalize hnew D [.string p.1,.string p.2] az=h4 at P b4 z4 N;rw[df D];have hA4:=(hA3.upd P fun _ _ h=>h).more (M':=fun x=>A3 x∨h4.size≤x) fun x hx=>.inl hx
   have hpn:(⟨upd s.p i none,upd s.k i none⟩:Slots).p i=none:=gZ;refine P0 hA4 (XF hi f.dp) (by have:=EL (g:=(⟨upd s.p i none,upd s.k i none⟩:Slots).p);omega) (x:=p) b4 (fun e=>e.elim (fun e=>by have:=(j _ e).2.2.2;omega) fun e=>by omega) (fun x hx=>.inr hx) fun s5 h5 O z=>?_
   rw[←Va hi f.dp hpn p]at O;have hbl:h1.size<D.size:=bB v.blk;have b5:=z.get N.blk fun e=>e.elim (fun e=>(j _ e).2.2.1 rfl) fun e=>by omega
   refine⟨_,rfl,Wa (i:=2) b5 (show 2<6 by decide),Ij (i:=2) (c':=fZ d3 n3 s5 I false none) b5 rfl fun h6 b6 hu6=>?_⟩
   refine⟨_,rfl,_,eM (i:=0) b6,QY f.d32 hi fun w U hwt=>?_⟩
   refine⟨_,rfl,Wa (i:=0) b6 (show 0<6 by decide),Ij (i:=0) (c':=fZ w n3 s5 I false none) b6 rfl fun h7 b7 hu7=>?_⟩
   have t:=hu6.tr hu7;have z5:=z.size;have z7:=t.size;have X:=O.within;have e1:(⟨upd (⟨upd s.p i none,upd s.k i none⟩:Slots).p i (some p),upd s.k i none⟩:Slots)=⟨upd s.p i (some p),upd s.k i none⟩:=by rw[Q2]
   have o7:OwnN (fun x=>h1.size≤x) h7 h1.size w n3 s5 I ⟨upd s.p i (some p),upd s.k i none⟩ none:=by
    rw[←e1];refine⟨b7,⟨U,f.n32,fun c hc=>?_,f.nk⟩,⟨fun x=>(A3 x∨h4.size≤x)∧x<h5.size,B3,X.upd t fun x hx e=>?_,((hB3.upd P fun _ _ h=>h).upd z fun x hx e=>?_).upd t fun x hx e=>(k x hx).2.1 e,fun x hx=>⟨?_,?_,?_,by omega⟩,fun x hx=>⟨(k x hx).1,(k x hx).2.1,by have:=(k x hx).2.2;omega⟩⟩,o.mb⟩
    ·rw[hwt,f.dp c hc];simp only[upd];split<;>simp[*]
    ·have e:x=h1.size:=e
     rcases hx.1 with h|h
     ·exact(j x h).2.2.1 e
     ·omega
    ·rcases e with e|e
     ·exact(j x e).2.1 hx
     ·have:=(k x hx).2.2;omega
    ·rcases hx.1 with h|h
     ·exact(j x h).1
     ·omega
    ·rcases hx.1 with h|h
     ·exact(j x h).2.1
     ·exact fun hb=>by have:=(k x hb).2.2;omega
    ·rcases hx.1 with h|h
     ·exact(j x h).2.2.1
     ·omega
   refine hk _ _ (o7.node Y) (((Q.tr P).trans z fun x hx=>.inr ?_).trans t fun x hx=>.inr ?_)
   ·rcases hx with h|h
    ·have:=(j x h).1;omega
    ·omega
   ·have hx:x=h1.size:=hx
    omega
  refine⟨qE f.d32 hi ⟨⟨by rw[ce,aW E];rfl,by rw[ce,aW E];rfl⟩,eM (i:=2) v.blk,bi ⟨eM (i:=2) N.blk,S⟩⟩,bi ⟨eM (i:=0) N.blk,eM (i:=2) N.blk,qE f.d32 hi ⟨eM (i:=2) N.blk,S⟩⟩⟩
end Go.Proofs
namespace Go.Proofs
open Go.Lift
theorem Vy{W:Nat→Prop}{h:ad}{b:Nat}{s:Slots}(nd:NodeAt W h b s)(k:∀x,W x→x<h.size){i:Nat}(hi:i<32){K:Option Addr→ad→Prop}
  (j:∀h' b',NodeAt W h' b' ⟨upd s.p i none,upd s.k i none⟩→Upd No h h'→K (some ⟨b',0,none⟩) h'):
  HC PG lW [.pointer (some ⟨b,0,none⟩),.pointer none,.int .i64 i] [.c .ptr] K h:=by
 refine C0 _ none i ?_;unfold uV iY pf;refine G2 nd hi (af.2 ?_);refine PJ nd fun q d n sp sk o a=>⟨_,rfl,Lu o hi fun p u t f m e c=>?_⟩
 exact j _ _ (e.node fun x hx g=>by have:=k x g;omega) (a.trans c fun x hx=>.inr hx)
theorem zH{W:Nat→Prop}{h:ad}{b:Nat}{s:Slots}(nd:NodeAt W h b s)(hW:∀x,W x→x<h.size){i:Nat}(hi:i<32)(hx:∀y,s.k i=some y→s.p i=none)(j:Addr){K:Option Addr→ad→Prop}
  (hk:∀h' b',NodeAt W h' b' ⟨upd s.p i none,upd s.k i (some (some j))⟩→Upd No h h'→K (some ⟨b',0,none⟩) h'):
  HC PG gP [.pointer (some ⟨b,0,none⟩),.pointer none,.int .i64 i,.pointer (some j)] [.c .ptr] K h:=by
 refine BE _ none i (some j) ?_;unfold tS cU bM bT iY nL pf Kw gn;refine af.2 ?_;refine G2 nd hi (af.2 ?_);refine PJ nd fun h2 d n sp sk o F=>?_
 have bits:=o.bits;obtain⟨A,B,hA,hB,u,t⟩:=o.ex;have T:∀x,h.size≤x→¬W x:=fun x hx z=>by have:=hW x z;omega
 refine⟨_,rfl,_,eM (i:=1) o.blk,D0 bits.n32 hi ?_⟩;rw[bits.nk i hi];cases hp:s.k i with
 |some y=>
  refine aA.2 ⟨_,rfl,sk,eM (i:=3) o.blk,_,rfl,_,eM (i:=1) o.blk,?_⟩;refine qE bits.n32 hi ⟨eM (i:=3) o.blk,?_⟩;have hlt:=JY hi bits.nk hp;obtain⟨a,ha,G,z,V,p⟩:=OwnS.setAt hB hlt (some j);have hlen:=hB.len;refine⟨by omega,a,ha,?_⟩;rw[ak];have Y:Wr h2 (adr a (wO i n*1)):=by
   rcases z with z|⟨b',hb',z⟩
   ·cases z
   ·cases hb';exact z 0 (by simp)
  refine⟨Y,bi ?_⟩;rw[←U9 hi bits.nk hp]at V;have ob:=p.get o.blk fun e=>(t _ G).2.1 e.symm
  have z3:=p.size;have v:OwnN (fun x=>h.size≤x) _ h.size d n sp sk ⟨upd s.p i none,upd s.k i (some (some j))⟩ none:=⟨ob,⟨bits.d32,bits.n32,fun c hc=>by rw[bits.dp c hc,vT (hx y hp)],fun c hc=>by
    rw[bits.nk c hc];simp only[upd];split
    ·rename_i e;rw[e,hp];rfl
    ·rfl⟩,
   ⟨A,B,by rw[vT (hx y hp)];exact hA.upd p fun x hx e=>(u _ hx).2.1 (e▸G),V,fun x hx=>⟨(u x hx).1,(u x hx).2.1,(u x hx).2.2.1,by have:=(u x hx).2.2.2;omega⟩,fun x hx=>⟨(t x hx).1,(t x hx).2.1,by have:=(t x hx).2.2;omega⟩⟩,o.mb⟩
  refine hk _ _ (v.node T) (F.trans p fun x hx=>.inr ?_)
  have:=(t _ G).1;have hx:x=a.block:=hx;omega
 |none=>
  refine af.2 ⟨_,rfl,Lu o hi fun E d3 n3 H C v p=>?_⟩
  have f:=v.bits;obtain⟨A3,B3,hA3,hB3,k,m⟩:=v.ex;have z2:=F.size;have z3:=p.size;have O:Upd No h E:=F.trans p fun x hx=>.inr hx
  refine⟨_,rfl,C,eM (i:=3) v.blk,_,rfl,_,eM (i:=1) v.blk,?_⟩;have N:=Upd.hnew No E [.pointer (some j)] bO;have b4:=bF E [.pointer (some j)] bO;have z4:=eN E [.pointer (some j)] bO;have J:=v.upd N fun _ h=>h.elim
  have Q:HC PG cK [.slice C.a C.len C.cap,.int .i64 (wO i n3),.slice (some (aH E)) 1 1] [.c .slice] (fun(I:SliceV) P=>
       ∃a34:Addr,some (⟨h.size,0,none⟩:Addr)=some a34∧
       (Wr P (adr (adr a34 0) 3)∧
        At (hset P (adr (adr a34 0) 3) (.slice I.a I.len I.cap)) (fun U=>
         ∃a36:Addr,some (⟨h.size,0,none⟩:Addr)=some a36∧
         ∃v37:Int,aD U (adr (adr a36 0) 1)=some (.int .u32 v37)∧
         HC PG fF [.int .u32 v37,.int .i64 i] [.c (.int .u32)] (fun(e38:Int) R=>
          ∃a40:Addr,some (⟨h.size,0,none⟩:Addr)=some a40∧
          (Wr R (adr (adr a40 0) 1)∧
           At (hset R (adr (adr a40 0) 1) (.int .u32 e38)) (fun Z=>
            K (some ⟨h.size,0,none⟩) Z))) U))) (hnew E [.pointer (some j)] bO):=by
   generalize hnew E [.pointer (some j)] bO=h4 at N b4 z4 J;rw[df E];have hB4:=(hB3.upd N fun _ _ h=>h).more (M':=fun x=>B3 x∨h4.size≤x) fun x hx=>.inl hx
   have hpn:(⟨upd s.p i none,upd s.k i none⟩:Slots).k i=none:=gZ;refine P1 hB4 (XF hi f.nk) (by have:=EL (g:=(⟨upd s.p i none,upd s.k i none⟩:Slots).k);omega) (x:=some j) b4 (fun e=>e.elim (fun e=>by have:=(m _ e).2.2;omega) fun e=>by omega) (fun x hx=>.inr hx) fun s5 h5 L D=>?_
   rw[←Va hi f.nk hpn (some j)]at L;have hbl:h.size<E.size:=bB v.blk;have b5:=D.get J.blk fun e=>e.elim (fun e=>(m _ e).2.1 rfl) fun e=>by omega
   refine⟨_,rfl,Wa (i:=3) b5 (show 3<6 by decide),Ij (i:=3) (c':=fZ d3 n3 H s5 false none) b5 rfl fun h6 b6 X=>?_⟩
   refine⟨_,rfl,_,eM (i:=1) b6,QY f.n32 hi fun w z hwt=>?_⟩
   refine⟨_,rfl,Wa (i:=1) b6 (show 1<6 by decide),Ij (i:=1) (c':=fZ d3 w H s5 false none) b6 rfl fun h7 b7 hu7=>?_⟩
   have q:=X.tr hu7;have z5:=D.size;have z7:=q.size;have S:=L.within;have e1:(⟨upd s.p i none,upd (⟨upd s.p i none,upd s.k i none⟩:Slots).k i (some (some j))⟩:Slots)=⟨upd s.p i none,upd s.k i (some (some j))⟩:=by rw[Q2]
   have o7:OwnN (fun x=>h.size≤x) h7 h.size d3 w H s5 ⟨upd s.p i none,upd s.k i (some (some j))⟩ none:=by
    rw[←e1];refine⟨b7,⟨f.d32,z,f.dp,fun c hc=>?_⟩,⟨A3,fun x=>(B3 x∨h4.size≤x)∧x<h5.size,((hA3.upd N fun _ _ h=>h).upd D fun x hx e=>?_).upd q fun x hx e=>(k x hx).2.2.1 e,S.upd q fun x hx e=>?_,fun x hx=>⟨(k x hx).1,?_,(k x hx).2.2.1,by have:=(k x hx).2.2.2;omega⟩,fun x hx=>⟨?_,?_,by omega⟩⟩,o.mb⟩
    ·rw[hwt,f.nk c hc];simp only[upd];split<;>simp[*]
    ·rcases e with e|e
     ·exact(k x hx).2.1 e
     ·have:=(k x hx).2.2.2;omega
    ·have e:x=h.size:=e
     rcases hx.1 with h|h
     ·exact(m x h).2.1 e
     ·omega
    ·rintro⟨h|h,_⟩
     ·exact(k x hx).2.1 h
     ·have:=(k x hx).2.2.2;omega
    ·rcases hx.1 with h|h
     ·exact(m x h).1
     ·omega
    ·rcases hx.1 with h|h
     ·exact(m x h).2.1
     ·omega
   refine hk _ _ (o7.node T) (((O.tr N).trans D fun x hx=>.inr ?_).trans q fun x hx=>.inr ?_)
   ·rcases hx with h|h
    ·exact(m x h).1
    ·omega
   ·have hx:x=h.size:=hx
    omega
  refine⟨qE f.n32 hi ⟨eM (i:=3) v.blk,bi ⟨eM (i:=3) J.blk,Q⟩⟩,bi ⟨eM (i:=1) J.blk,eM (i:=3) J.blk,qE f.n32 hi ⟨eM (i:=3) J.blk,Q⟩⟩⟩
end Go.Proofs
namespace Go.Proofs
open Go.Lift
theorem Xf{h:ad}{b d n:Nat}{sp sk:SliceV}{a:Bool}{ow:Option Addr}(e:h[b]? =some (.cells (fZ d n sp sk a ow) bE (0,0))) {K:Int→ad→Prop} (c:K (d:Int) h):HC PG qo [.pointer (some ⟨b,0,none⟩)] [.c (.int .u32)] K h:=by
 refine Ek _ ?_;unfold wI gn;exact af.2 ⟨_,rfl,_,eM (i:=0) e,c⟩
theorem Nf{h:ad}{b d n:Nat}{sp sk:SliceV}{a:Bool}{ow:Option Addr}(e:h[b]? =some (.cells (fZ d n sp sk a ow) bE (0,0))) {K:Int→ad→Prop} (c:K (n:Int) h):HC PG lV [.pointer (some ⟨b,0,none⟩)] [.c (.int .u32)] K h:=by
 refine CZ _ ?_;unfold uU gn;exact af.2 ⟨_,rfl,_,eM (i:=1) e,c⟩
theorem kM{h:ad}{b d n:Nat}{sp sk:SliceV}{a:Bool}{ow:Option Addr}(e:h[b]? =some (.cells (fZ d n sp sk a ow) bE (0,0))) {K:Bool→ad→Prop} (c:K a h):HC PG eV [.pointer (some ⟨b,0,none⟩)] [.c .bool] K h:=by
 refine zl _ ?_;unfold rv cJ;exact aA.2 ⟨_,rfl,_,eM (i:=4) e,c⟩
def U4(o:Option Pr):Pr:=o.getD (⟨#[]⟩,⟨#[]⟩)
theorem GK{h:ad}{b:Nat}{q p:Pr}(a:h[b]? =some (.cells #[.string q.1,.string q.2] az (0,0))) {k:ad→Prop}
  (c:∀h',h'[b]? =some (.cells #[.string p.1,.string p.2] az (0,0))→Upd (· =b) h h'→k h'):sN h (some ⟨b,0,none⟩) 0 [.string p.1,.string p.2]∧At (ib h ⟨b,0,none⟩ 0 [.string p.1,.string p.2]) k:=by
 have e:=jA [.string p.1,.string p.2] h 0 0 [.string q.1,.string q.2] a (by simp);refine⟨.inr ⟨_,rfl,fun j d=>by rw[ce];exact iM a (by simp at d⊢;omega)⟩,bi ?_⟩
 rw[e];refine c _ ?_ (Upd.set h _ rfl);rw[jo a];rfl
theorem GQ{W:Nat→Prop}{h:ad}{b:Nat}{s:Slots}(nd:NodeAt W h b s){i:Nat}(hi:i<32){K:Pr×Bool→ad→Prop}(k:∀h',Upd No h h'→K (U4 (s.p i),(s.p i).isSome) h'):
  HC PG km [.pointer (some ⟨b,0,none⟩),.int .i64 i] [.agg [.str,.str],.c .bool] K h:=by
 refine Ei _ i ?_;unfold wG cU ah fx bP iA ez bT nL gn;obtain⟨d,n,sp,sk,ow,t,bits,f,q,w,u⟩:=nd.ex;have k1:=Upd.hnew No h [.string (⟨#[]⟩:ByteArray),.string (⟨#[]⟩:ByteArray)] az;have b1:=bF h [.string (⟨#[]⟩:ByteArray),.string (⟨#[]⟩:ByteArray)] az;refine bi ?_;simp only[df h];generalize hnew h [.string (⟨#[]⟩:ByteArray),.string (⟨#[]⟩:ByteArray)] az=h1 at k1 b1
 have c:=k1.get0 t;have j:h1[h.size]? =some (.cells #[.string QV.1,.string QV.2] az (0,0)):=b1;refine Xf c (D0 bits.d32 hi ?_);rw[bits.dp i hi];cases hp:s.p i with
 |none=>
  rw[hp]at k;refine aA.2 (GK (p:=QV) j fun v b2 e=>⟨_,by rw[ce,aW b2];rfl,_,by rw[ce,aW b2];rfl,k _ (k1.trans e fun x hx=>.inr (gf hx.symm))⟩)
 |some y=>
  rw[hp]at k;refine af.2 ⟨_,rfl,sp,eM (i:=2) c,_,rfl,_,eM (i:=0) c,qE bits.d32 hi ⟨eM (i:=2) c,?_⟩⟩;have A:=JY hi bits.dp hp;have g:=f.upd k1 fun _ h=>h.elim
  obtain⟨a,z,_,m⟩:=g.at (Vc hi bits.dp hp);have o:=f.len;refine⟨by omega,a,z,y.1,m 0 _ rfl,y.2,m 1 _ rfl,?_⟩;refine GK (p:=y) j fun v b2 e=>⟨_,by rw[ce,aW b2];rfl,_,by rw[ce,aW b2];rfl,k _ (k1.trans e fun x hx=>.inr (gf hx.symm))⟩
theorem FT{W:Nat→Prop}{h:ad}{b:Nat}{s:Slots}(nd:NodeAt W h b s){i:Nat}(hi:i<32){K:Option Addr×Bool→ad→Prop}(f:K ((s.k i).getD none,(s.k i).isSome) h):
  HC PG ln [.pointer (some ⟨b,0,none⟩),.int .i64 i] [.c .ptr,.c .bool] K h:=by
 refine FG _ i ?_;unfold xQ bf cU bT nL gn;obtain⟨d,n,sp,sk,ow,e,bits,m,c,o,k⟩:=nd.ex;refine Nf e (D0 bits.n32 hi ?_);rw[bits.nk i hi];cases hp:s.k i with
 |none=>rw[hp]at f;exact aA.2 f
 |some y=>
  rw[hp]at f;refine af.2 ⟨_,rfl,sk,eM (i:=3) e,_,rfl,_,eM (i:=1) e,qE bits.n32 hi ⟨eM (i:=3) e,?_⟩⟩;have q:=JY hi bits.nk hp;obtain⟨a,p,_,j⟩:=c.at (Vc hi bits.nk hp);have g:=c.len;exact⟨by omega,a,p,y,j 0 _ rfl,f⟩
theorem M8{W:Nat→Prop}{h:ad}{b d n:Nat}{sp sk:SliceV}{c:Bool}{ow:Option Addr}{l:List Pr}(a:h[b]? =some (.cells (fZ d n sp sk c ow) bE (0,0))) (f:Sl jz 2 W h sp l) (g:l.length≤1000000000) {K:SliceV→ad→Prop}
  (e:∀s' h',OwnS jz 2 az (fun x=>h.size≤x) h' s' l→Upd No h h'→K s' h'):HC PG lU [.pointer (some ⟨b,0,none⟩)] [.c .slice] K h:=by
 refine CX _ ?_;unfold uS bT;exact af.2 ⟨_,rfl,sp,eM (i:=2) a,zS f (by omega) e⟩
structure BuckAt(W:Nat→Prop)(h:ad)(b:Nat)(l:List Pr):Prop where
 ex:∃sp sk ow,h[b]? =some (.cells (fZ 0 0 sp sk true ow) bE (0,0))∧Sl jz 2 W h sp l∧Sl uk 1 W h sk []∧sp.len≤sp.cap∧sk.len≤sk.cap
 nw:¬W b
theorem BuckAt.upd{W M:Nat→Prop}{h h':ad}{b:Nat}{l:List Pr}(n:BuckAt W h b l)(k:Upd M h h')(hm:∀b,M b→W b∨h.size≤b):BuckAt W h' b l:=by
 obtain⟨sp,sk,ow,a,e,f,c,g⟩:=n.ex;exact⟨⟨sp,sk,ow,k.get a (fun d=>(hm _ d).elim n.nw fun h=>by have:=bB a;omega),e.upd k hm,f.upd k hm,c,g⟩,n.nw⟩
theorem U1{W:Nat→Prop}{h:ad}{b:Nat}{l:List Pr}(w:BuckAt W h b l)(o:eY l)(n:l.length≤1000000000)(k:ByteArray){K:ByteArray×Bool→ad→Prop}
  (i:∀h' v,Upd No h h'→(cG l k=true→(k,v)∈l)→(cG l k=false→v=⟨#[]⟩)→K (v,cG l k) h'):HC PG qp [.pointer (some ⟨b,0,none⟩),.string k] [.c .str,.c .bool] K h:=by
 refine QI _ k ?_;unfold H5 cU bP Fl;obtain⟨sp,sk,ow,q,j,z,x,A⟩:=w.ex;refine M8 q j n fun y t m g=>?_
 have d:Sl jz 2 No t y l:=m.sl fun _ _ _ h=>h
 refine Lo d o n k fun B c=>?_
 cases ht:cG l k with
 |false=>rw[ht]at i;exact aA.2 (i _ _ (g.tr c) (fun h=>by cases h) fun _=>rfl)
 |true=>
  rw[ht]at i;obtain⟨f,e⟩:=KY o ht;obtain⟨a,u,_,s⟩:=(d.upd c fun _ h=>h.elim).at (ax f)
  have p:=d.len;refine af.2 ⟨by simp only;omega,a,u,_,s 1 _ rfl,i _ _ (g.tr c) (fun _=>?_) fun h=>by cases h⟩
  have:(k,l[pos l k].2)=l[pos l k]:=Prod.ext e.symm rfl;rw[this];exact List.getElem_mem f
theorem XD{W:Nat→Prop}{h:ad}{b:Nat}{l:List Pr}(f:BuckAt W h b l)(e:eY l)(a:l.length≤1000000000)(k:ByteArray){K:ByteArray×Bool→ad→Prop}
 (g:∀h' v,Upd No h h'→(cG l k=true→(k,v)∈l)→K (v,cG l k) h'):HC PG qp [.pointer (some ⟨b,0,none⟩),.string k] [.c .str,.c .bool] K h:=U1 f e a k fun h' v c d _=>g h' v c d
end Go.Proofs
namespace Go.Proofs
open Go.Lift
set_option maxRecDepth 4000 in
theorem Rg{W:Nat→Prop}{h:ad}{b:Nat}{l:List Pr}(nd:BuckAt W h b l)(X:l.length≤1000000000){K:Option Addr→ad→Prop}
  (z:∀h' sp sk,h'[h.size]? =some (.cells (fZ 0 0 sp sk true none) bE (0,0))→OwnS jz 2 az (fun x=>h.size<x∧x<h'.size) h' sp l→OwnS uk 1 bO (fun x=>h.size<x∧x<h'.size) h' sk []→Upd No h h'→K (some ⟨h.size,0,none⟩) h'):
  HC PG gr [.pointer (some ⟨b,0,none⟩),.pointer none] [.c .ptr] K h:=by
 obtain⟨sp,sk,ow,a,y,C,P,S⟩:=nd.ex;refine xI _ none ?_;unfold rM nv cJ bM bT iY iE gn TI XO;refine Jz (af.2 ?_);have c:∀{h:ad} {b:Nat} {c:Array Value} {i:Nat},h[b]? =some (.cells c bE (0,0))→aD h ⟨b,0+i,none⟩=c[i]?:=fun a=>by rw[aP];exact aW a
 refine⟨_,rfl,_,c (i:=0) a,_,c (i:=1) a,sp,c (i:=2) a,sk,c (i:=3) a,_,c (i:=4) a,_,c (i:=5) a,?_⟩;have k1:=Upd.hnew No h [.int .u32 0,.int .u32 0,.slice none 0 0,.slice none 0 0,.bool false,.pointer none] bE;have b1:=bF h [.int .u32 0,.int .u32 0,.slice none 0 0,.slice none 0 0,.bool false,.pointer none] bE;refine bi ?_;simp only[df h];generalize hnew h [.int .u32 0,.int .u32 0,.slice none 0 0,.slice none 0 0,.bool false,.pointer none] bE=h1 at k1 b1
 have u:ib h1 ⟨h.size,0,none⟩ 0 [.int .u32 ((0:Nat):Int),.int .u32 ((0:Nat):Int),.slice sp.a sp.len sp.cap,.slice sk.a sk.len sk.cap,.bool true,.pointer ow]=_:=jA _ h1 0 0 _ b1 (by simp);refine⟨.inr ⟨_,rfl,fun j R=>by rw[ce];exact iM b1 (by simp at R⊢;omega)⟩,bi ?_⟩
 rw[u];have b2:=jo (o:=.cells (fZ 0 0 sp sk true ow) bE (0,0)) b1;have p:Upd No h _:=k1.trans (M':=(· =h.size)) (Upd.set h1 (.cells (fZ 0 0 sp sk true ow) bE (0,0)) rfl) fun x hx=>.inr (gf hx.symm)
 have H:h.size<(h1.setIfInBounds h.size (.cells (fZ 0 0 sp sk true ow) bE (0,0))).size:=bB b2;have N:h.size≠b:=fun e=>by have:=bB a;omega
 have e2:(Obj.cells (List.take (0+0) [Value.int .u32 0,.int .u32 0,.slice none 0 0,.slice none 0 0,.bool false,.pointer none]++ [Value.int .u32 ((0:Nat):Int),.int .u32 ((0:Nat):Int),.slice sp.a sp.len sp.cap,.slice sk.a sk.len sk.cap,.bool true,.pointer ow]++List.drop (0+0+ [Value.int .u32 ((0:Nat):Int),.int .u32 ((0:Nat):Int),.slice sp.a sp.len sp.cap,.slice sk.a sk.len sk.cap,.bool true,.pointer ow].length) [Value.int .u32 0,.int .u32 0,.slice none 0 0,.slice none 0 0,.bool false,.pointer none]).toArray bE (0,0))=.cells (fZ 0 0 sp sk true ow) bE (0,0):=rfl
 rw[e2];generalize h1.setIfInBounds h.size (.cells (fZ 0 0 sp sk true ow) bE (0,0))=h2 at b2 p H;have m:=p.get0 a;refine⟨_,rfl,sp,c (i:=2) m,_,rfl,sk,c (i:=3) m,?_⟩;refine zS (y.upd p fun _ h=>h.elim) (by omega) fun s h3 D f=>?_
 refine⟨c (i:=3) (f.get0 m),?_⟩;refine Kh ((C.upd p fun _ h=>h.elim).upd f fun _ h=>h.elim) (by simp) fun G h4 A g=>?_
 have I:=g.get0 (f.get0 b2);have n:=D.within.upd g fun _ _ h=>h
 have q:=A.within;have z3:=f.size;have Y:=g.size;have w:∀{h:ad} {c:Array Value} {x i:Nat},h[x]? =some (.cells c bE (0,0))→i<c.size→Wr h ⟨x,0+i,none⟩:=fun a hi=>by rw[aP];exact iM a hi
 have st:∀{h:ad} {c c':Array Value} {x i:Nat} {v:Value} {k:ad→Prop},h[x]? =some (.cells c bE (0,0))→c.setIfInBounds i v=c'→(∀h',h'[x]? =some (.cells c' bE (0,0))→Upd (· =x) h h'→k h')→At (hset h ⟨x,i,none⟩ v) k:=fun a e z=>vC a fun h' F O=>z h' (e▸F) O
 refine⟨w (i:=2) I (show 2<6 by decide),st (i:=2) (c':=fZ 0 0 s sk true ow) I rfl fun V L B=>?_⟩
 refine⟨w (i:=3) L (show 3<6 by decide),st (i:=3) (c':=fZ 0 0 s G true ow) L rfl fun T J t=>?_⟩
 refine⟨w (i:=5) J (show 5<6 by decide),st (i:=5) (c':=fZ 0 0 s G true none) J rfl fun Z Q E=>?_⟩
 refine yx (af.2 ?_);have d:=B.tr (t.tr E);have U:=d.size;refine z _ s G Q ((n.upd d fun x hx e=>?_).more fun x hx=>?_) ((q.upd d fun x hx e=>?_).more fun x hx=>?_) ?_
 ·have e:x=h.size:=e;omega
 ·omega
 ·have e:x=h.size:=e;omega
 ·omega
 ·exact((p.tr f).tr g).trans d fun x hx=>.inr (gf hx.symm)
theorem LG{W:Nat→Prop}{h:ad}{b:Nat}{l:List Pr}(A:BuckAt W h b l)(n:∀x,W x→x<h.size)(E:eY l)(v:l.length≤1000000000)(p:Pr){K:Option Addr→ad→Prop}
  (B:∀h' b',BuckAt W h' b' (Ld l p)→Upd No h h'→K (some ⟨b',0,none⟩) h'):
  HC PG jC [.pointer (some ⟨b,0,none⟩),.pointer none,.agg #[.string p.1,.string p.2]] [.c .ptr] K h:=by
 refine FE _ none p ?_;unfold xO ah bM bT iY mL pW;have k1:=Upd.hnew No h [.string p.1,.string p.2] az;have b1:=bF h [.string p.1,.string p.2] az;refine bi ?_;simp only[df h];generalize hnew h [.string p.1,.string p.2] az=h1 at k1 b1;have I:=bB b1;have g:=A.upd k1 fun _ h=>h.elim
 obtain⟨sp,sk,ow,w,z,F,D,H⟩:=g.ex;refine kM w (af.2 ?_);refine Rg g v fun L C q b2 s u c=>?_
 have k:=c.get0 b1;refine⟨_,rfl,C,eM (i:=2) b2,p.1,by rw[ce,aW k];rfl,p.2,by rw[ce,aW k];rfl,?_⟩
 refine PI (s.sl fun _ _ _ h=>h) s.cap E v p fun t N j a=>?_
 have b3:=a.get0 b2;refine⟨_,rfl,Wa (i:=2) b3 (show 2<6 by decide),Ij (i:=2) (c':=fZ 0 0 t q true none) b3 rfl fun G y d=>?_⟩
 have J:=bB b2;have m:=j.upd d fun x hx e=>by have e:x=h1.size:=e;omega
 have o:=(u.upd a fun _ _ h=>h).upd d fun x hx e=>by have e:x=h1.size:=e;omega
 refine B G h1.size ⟨⟨t,q,none,y,m.sl fun x hx _ f=>?_,o.sl fun x hx _ f=>?_,j.cap,u.cap⟩,fun f=>?_⟩ (((k1.tr c).tr a).trans d fun x hx=>.inr ?_)
 ·have:=n x f;have:=c.size;omega
 ·have:=n x f;omega
 ·have:=n _ f;omega
 ·have hx:x=h1.size:=hx
  omega
theorem Th{W:Nat→Prop}{h:ad}(b:∀x,W x→x<h.size){K:Option Addr→ad→Prop}(a:∀h' b',BuckAt W h' b' []→Upd No h h'→K (some ⟨b',0,none⟩) h'):HC PG vy [] [.c .ptr] K h:=by
 refine IM ?_;unfold AM;exact a _ _ ⟨⟨⟨none,0,0⟩,⟨none,0,0⟩,none,bF h _ _,Sl.nil gy,Sl.nil ta,au _,au _⟩,fun hx=>j4 _ (b _ hx)⟩ (Upd.hnew No h _ _)
theorem sB{W:Nat→Prop}{h:ad}(b:∀x,W x→x<h.size){K:Option Addr→ad→Prop}(a:∀h' b',NodeAt W h' b' ⟨fun _=>none,fun _=>none⟩→Upd No h h'→K (some ⟨b',0,none⟩) h'):HC PG pz [] [.c .ptr] K h:=by
 refine LS ?_;unfold Dh TI;have e1:fm (fun _=>(none:Option Pr)) 32= []:=by simp[fm]
 have e2:fm (fun _=>(none:Option (Option Addr))) 32= []:=by simp[fm]
 refine a _ _ ⟨⟨0,0,⟨none,0,0⟩,⟨none,0,0⟩,none,bF h _ _,⟨by decide,by decide,fun c _=>by simp,fun c _=>by simp⟩,?_,?_,au _,au _⟩,fun hx=>j4 _ (b _ hx)⟩ (Upd.hnew No h _ _)
 ·show Sl jz 2 W _ _ (fm (fun _=>none) 32)
  rw[e1];exact Sl.nil gy
 ·show Sl uk 1 W _ _ (fm (fun _=>none) 32)
  rw[e2];exact Sl.nil ta
end Go.Proofs
namespace Go.Proofs
open Go.Lift
def j8(p:Pr):List Pr→List Pr
 | []=> [p]
 |q::l=>if kl q.1 p.1 then q::j8 p l else if q.1=p.1 then p::l else p::q::l
theorem mS(p q:Pr)(l:List Pr):j8 p (q::l)=if kl q.1 p.1 then q::j8 p l else if q.1=p.1 then p::l else p::q::l:=rfl
theorem F0(p:Pr):∀{l:List Pr},eY l→Ld l p=j8 p l
 | [],_=>by simp[Ld,j8,pos,cG]
 |q::l,d=>by
  have d:=cc.1 d;unfold j8;have a:pos (q::l) p.1=if kl q.1 p.1 then pos l p.1+1 else 0:=by
   unfold pos;rw[List.takeWhile_cons];by_cases h:kl q.1 p.1
   ·rw[if_pos (by simpa using h),if_pos h];rfl
   ·rw[if_neg (by simpa using h),if_neg h];rfl
  have c:cG (q::l) p.1=(decide (q.1=p.1)||cG l p.1):=by unfold cG;rw[List.any_cons]
  by_cases h:kl q.1 p.1
  ·have g:q.1≠p.1:=fun e=>by rw[e]at h;exact fo _ h
   rw[if_pos h,←F0 p d.2];unfold Ld;rw[c,a,if_pos h,decide_eq_false g,Bool.false_or];by_cases b:cG l p.1=true
   ·rw[if_pos b,if_pos b];rfl
   ·rw[if_neg b,if_neg b];rfl
  ·rw[if_neg h]
   unfold Ld;rw[c,a,if_neg h];by_cases e:q.1=p.1
   ·rw[if_pos e,decide_eq_true e,Bool.true_or,if_pos rfl];rfl
   ·have i:=GY h e
    have b:cG l p.1=false:=by
     unfold cG;rw[List.any_eq_false];intro r f e2;have e2:=of_decide_eq_true e2;have:=d.1 r f;rw[e2]at this;exact fo _ (qT i this)
    rw[if_neg e,decide_eq_false e,b];rfl
theorem Cl{p q:Pr}:∀{l:List Pr},q∈j8 p l→q=p∨q∈l
 | [],h=>by simp[j8]at h;exact .inl h
 |r::l,h=>by
  unfold j8 at h;split at h
  ·rcases ar.1 h with h|h
   ·exact .inr (h▸aN ..)
   ·exact(Cl h).imp id fun h=>aI _ h
  ·split at h
   ·rcases ar.1 h with h|h
    ·exact .inl h
    ·exact .inr (aI _ h)
   ·rcases ar.1 h with h|h
    ·exact .inl h
    ·exact .inr h
theorem Jm(p:Pr):∀{l:List Pr},eY l→eY (j8 p l)
 | [],_=>List.pairwise_singleton ..
 |q::l,a=>by
  have c:=a;have a:=cc.1 a;unfold j8;split
  ·rename_i h
   refine cc.2 ⟨fun r hm=>?_,Jm p a.2⟩
   rcases Cl hm with rfl|hm
   ·exact h
   ·exact a.1 r hm
  ·rename_i h
   split
   ·rename_i e
    exact cc.2 ⟨fun r hm=>e▸a.1 r hm,a.2⟩
   ·rename_i e
    have b:=GY h e;refine cc.2 ⟨fun r hm=>?_,c⟩
    rcases ar.1 hm with rfl|hm
    ·exact b
    ·exact qT b (a.1 r hm)
theorem Hc(p:Pr)(g:ByteArray→Bool):∀{l:List Pr},eY l→(j8 p l).filter (fun q=>g q.1)=if g p.1 then j8 p (l.filter fun q=>g q.1)else l.filter fun q=>g q.1
 | [],_=>by
  unfold j8;rw[dF,List.filter_nil]
 |q::l,c=>by
  have i:=c;have c:=cc.1 c;have k:=Hc p g c.2;rw[mS];by_cases h:kl q.1 p.1
  ·rw[if_pos h,dF,dF,k]
   by_cases f:g q.1=true
   ·rw[if_pos f,if_pos f]
    split
    ·rw[mS,if_pos h]
    ·rfl
   ·rw[if_neg f,if_neg f]
  ·rw[if_neg h]
   by_cases e:q.1=p.1
   ·rw[if_pos e,dF,dF,e]
    by_cases a:g p.1=true
    ·rw[if_pos a,if_pos a,if_pos a,mS,if_neg h,if_pos e]
    ·rw[if_neg a,if_neg a,if_neg a]
   ·rw[if_neg e]
    have d:=GY h e;rw[dF];by_cases a:g p.1=true
    ·rw[if_pos a,if_pos a]
     have:∀r∈(q::l).filter (fun q=>g q.1),kl p.1 r.1:=fun r hm=>by
      rcases ar.1 (List.mem_filter.1 hm).1 with rfl|hm
      ·exact d
      ·exact qT d (c.1 r hm)
     cases hf:(q::l).filter (fun q=>g q.1)with
     |nil=>rfl
     |cons r rs=>
      have b:=this r (by rw[hf];exact aN ..);rw[mS,if_neg fun j=>fo _ (qT b j),if_neg fun e=>by rw[e]at b;exact fo _ b]
    ·rw[if_neg a,if_neg a]
theorem FZ{p:Pr}:∀{l:List Pr},eY l→p∈l→j8 p l=l
 |q::l,a,hm=>by
  have a:=cc.1 a;unfold j8;rcases ar.1 hm with rfl|hm
  ·rw[if_neg (fo _),if_pos rfl]
  ·rw[if_pos (a.1 p hm),FZ a.2 hm]
def ck(x:Hs)(lev:Nat)(k:ByteArray):Nat:=((jL x k).toNat>>>(5*lev))%32
theorem Hv(x:Hs)(lev:Nat)(k:ByteArray):ck x lev k<32:=xw _ (by omega)
def part(x:Hs)(lev c:Nat)(l:List Pr):List Pr:=l.filter fun p=>decide (ck x lev p.1=c)
def TrieAt(W:Nat→Prop)(x:Hs)(h:ad):Nat→Nat→List Pr→Prop
 |0,b,l=>BuckAt W h b l
 |m+1,b,l=>∃s,NodeAt W h b s∧∀c,c<32→
  ((part x (12-m) c l= []∧s.p c=none∧s.k c=none)∨(∃p,part x (12-m) c l= [p]∧s.p c=some p∧s.k c=none)∨
   (2≤(part x (12-m) c l).length∧s.p c=none∧∃kb,s.k c=some (some ⟨kb,0,none⟩)∧TrieAt W x h m kb (part x (12-m) c l)))
theorem TrieAt.upd0{W:Nat→Prop}{x:Hs}{h h':ad}(k:Upd No h h'):∀{m b:Nat} {l:List Pr},TrieAt W x h m b l→TrieAt W x h' m b l
 |0,_,_,t=>BuckAt.upd t k fun _ h=>h.elim
 |m+1,_,_,⟨s,nd,hc⟩=>⟨s,nd.upd k fun _ h=>h.elim,fun c a=>(hc c a).imp id fun o=>o.imp id fun⟨d,e,i,f,g⟩=>⟨d,e,i,f,TrieAt.upd0 k g⟩⟩
theorem NodeAt.less{W W':Nat→Prop}{h:ad}{b:Nat}{s:Slots}(n:NodeAt W h b s)(hm:∀b,W' b→W b∨h.size≤b):NodeAt W' h b s:=by
 obtain⟨d,m,sp,sk,ow,a,e,f,g,c,i⟩:=n.ex;exact⟨⟨d,m,sp,sk,ow,a,e,f.less hm,g.less hm,c,i⟩,fun hx=>(hm _ hx).elim n.nw fun h=>by have:=bB a;omega⟩
theorem BuckAt.less{W W':Nat→Prop}{h:ad}{b:Nat}{l:List Pr}(n:BuckAt W h b l)(hm:∀b,W' b→W b∨h.size≤b):BuckAt W' h b l:=by
 obtain⟨sp,sk,ow,a,d,e,c,f⟩:=n.ex;exact⟨⟨sp,sk,ow,a,d.less hm,e.less hm,c,f⟩,fun hx=>(hm _ hx).elim n.nw fun h=>by have:=bB a;omega⟩
theorem TrieAt.less{W W':Nat→Prop}{x:Hs}{h:ad}(hm:∀b,W' b→W b∨h.size≤b):∀{m b:Nat} {l:List Pr},TrieAt W x h m b l→TrieAt W' x h m b l
 |0,_,_,t=>BuckAt.less t hm
 |m+1,_,_,⟨s,nd,hc⟩=>⟨s,nd.less hm,fun c a=>(hc c a).imp id fun o=>o.imp id fun⟨d,e,i,f,g⟩=>⟨d,e,i,f,TrieAt.less hm g⟩⟩
theorem TrieAt.updM{W M:Nat→Prop}{x:Hs}{h h':ad}(k:Upd M h h')(hm:∀b,M b→W b∨h.size≤b):∀{m b:Nat} {l:List Pr},TrieAt W x h m b l→TrieAt W x h' m b l
 |0,_,_,t=>BuckAt.upd t k hm
 |m+1,_,_,⟨s,nd,hc⟩=>⟨s,nd.upd k hm,fun c a=>(hc c a).imp id fun o=>o.imp id fun⟨d,e,i,f,g⟩=>⟨d,e,i,f,TrieAt.updM k hm g⟩⟩
end Go.Proofs
