/- A part of the proof that the named laws of this program answer true, whatever the input. -/
import Derived.Test.YtcpiahjlddmfiaaGreatPart0
import Derived.Test.YtcpiahjlddmfiaaGreatLift3
import Derived.IntWalk
open BitVec renaming ofInt→ak,ofInt_natCast→mw,getLsbD_ofNat→my
open Bool renaming eq_iff_iff→lr
open Int renaming fdiv→dW,toNat_natCast→aY,le_refl→pe
open List renaming length_append→ad,replicate→fR,replicate_succ→nF,flatMap_cons→aK,length_cons→ao,take_succ_eq_append_getElem→bF,flatten_append→nH,flatten_cons→jH,flatten_nil→qs,append_nil→aX,getElem?_eq_getElem→aj,length→jG,take_of_length_le→bj,any_eq_true→bP,length_drop→aM,length_singleton→bd,range→fq,range_add→tD,mem_range→fS,mem_cons_self→au,mem_cons_of_mem→az,filterMap_append→p6,take_left'→cF,drop_left'→cj,drop_drop→cG,getElem_mem→bX,mem_append→aN,mem_singleton→av,mem_map→bG,nodup_cons→il,mem_append_left→bU,mem_append_right→cD
open Nat renaming le_refl→al,zero_le→bS,testBit_and→lj,testBit_two_pow_sub_one→lS,shiftRight_eq_div_pow→mZ,lt_of_le_of_lt→gH,min_eq_left→bH,shiftRight_le→pP,mod_eq_of_lt→jY,testBit_lt_two_pow→pN,lt_of_lt_of_le→aC,zero_add→aH,le_of_eq→di,not_lt→oU
open UInt8 renaming ofNat→uz
namespace Go.Proofs
open Go.Lift
theorem OwnS.zero{α:Type}{f:α→List Value}{c:Nat}{t:TypeId}{M:Nat→Prop}{h:ac}{s:SliceV}{xs:List α}(d:OwnS f c t M h s xs):OwnS f c t M h ⟨aJ s.a 0 s.cap c,0-0,s.cap-0⟩ []:=by
 have g:∀x,(f x).length=c∧0<c:=d.ne;have e:=d.len;have i:=d.cap;refine⟨rfl,g,by simp only;omega,?_⟩
 rcases d.blk with n|⟨b,a,j,m,hc,k⟩
 ·exact .inl (by simp only;omega)
 ·refine .inr ⟨b,xs.flatMap f++a,by rw[j,sub_zero],m,hc,?_⟩
  rw[ad,jC g,k,←Nat.add_mul];simp only;congr 1;omega
def MZ:Pr:=(⟨#[]⟩,⟨#[]⟩)
theorem MX(n:Nat):dq n [.string (⟨#[]⟩:ByteArray),.string (⟨#[]⟩:ByteArray)]=(fR n MZ).flatMap eJ:=by
 unfold dq;induction n with
 |zero=>rfl
 |succ n ih=>rw[nF,nF,aK,←ih];rfl
theorem Sc{n:Nat}(d:n*32≤140737488355328){h:ac}{K:SliceV→ac→Prop}(a:∀s' h',OwnS eJ 2 ag (fun b=>h.size≤b) h' s' []→Upd No h h'→K s' h'):
  HC PG ff [.slice none 0 0,.int .i64 n] [.c .slice] K h:=by
 refine nW ⟨none,0,0⟩ n ?_;unfold iL rp;have e:IntKind.wrap .i64 ((n:Int)-IntKind.wrap .i64 (((0:Nat):Int)-((0:Nat):Int)))=(n:Int):=by rw[d8 (x:=((0:Nat):Int)-((0:Nat):Int)) (by omega),d8 (by omega)];omega
 refine Join.plain (aD (fun h=>by omega) fun _=>?_)
 simp only[Bd];rw[e];refine aD (fun k=>?_) fun j=>a _ _ (OwnS.nil gS) (Upd.refl _ _)
 refine⟨by omega,⟨by omega,by omega,by omega,by omega⟩,?_⟩
 refine AppP.own (f:=eJ) (M:=fun b=>h.size≤b) (xs:= []) (ys:=fR n MZ) (OwnS.nil gS) (by simp) (MX _) (by rw[MX];exact vS _) rfl (by omega) (by simpa using d) (al _) fun s' h' c i=>?_
 exact⟨by omega,a _ _ (OwnS.zero c) (i.mono fun b g=>.inr g)⟩
abbrev Ve(s:SliceV):List Value:= [.slice s.a s.len s.cap]
def ParS(h:ac):List SliceV→List (List Pr)→Prop
 | [],[]=>True
 |v::vs,l::ls=>Sl eJ 2 No h v l∧ParS h vs ls
 |_,_=>False
theorem ParS.upd{h h':ac}(k:Upd No h h'):∀{vs:List SliceV} {ls:List (List Pr)},ParS h vs ls→ParS h' vs ls
 | [],[],_=>trivial
 |_::_,_::_,q=>⟨q.1.upd k fun _ h=>h.elim,ParS.upd k q.2⟩
 | [],_::_,q=>q.elim
 |_::_,[],q=>q.elim
theorem ParS.len{h:ac}:∀{vs:List SliceV} {ls:List (List Pr)},ParS h vs ls→vs.length=ls.length
 | [],[],_=>rfl
 |_::_,_::_,q=>by rw[ao,ao,ParS.len q.2]
 | [],_::_,q=>q.elim
 |_::_,[],q=>q.elim
theorem ParS.at{h:ac}:∀{vs:List SliceV} {ls:List (List Pr)},ParS h vs ls→∀{i:Nat} (h1:i<vs.length) (h2:i<ls.length),Sl eJ 2 No h vs[i] ls[i]
 |_::_,_::_,q,0,_,_=>q.1
 |_::_,_::_,q,i+1,h1,h2=>ParS.at q.2 (by simpa using h1) (by simpa using h2)
theorem Ht(ls:List (List Pr)){i:Nat}(hi:i<ls.length):(ls.take (i+1)).flatten=(ls.take i).flatten++ls[i]:=by
 rw[bF hi,nH,jH,qs,aX]
theorem NA(ls:List (List Pr))(i:Nat):(ls.take i).flatten.length≤ls.flatten.length:=by
 have:ls.flatten=(ls.take i).flatten++(ls.drop i).flatten:=by rw[←nH,List.take_append_drop]
 rw[this,ad];omega
theorem Hy{h:ac}{s:SliceV}{vs:List SliceV}{ls:List (List Pr)}(C:Sl Ve 1 No h s vs)(v:ParS h vs ls)(H:ls.flatten.length*32≤140737488355328)(Y:vs.length≤1000)
  {K:SliceV→ac→Prop}(Q:∀s' h',OwnS eJ 2 ag (fun b=>h.size≤b) h' s' ls.flatten→Upd No h h'→K s' h'):HC PG dA [.slice s.a s.len s.cap] [.c .slice] K h:=by
 refine mO s ?_;unfold ie aZ cp rp;have F:=C.len;have d:=v.len;refine LoopP.ghost (fun(i:Nat) (t:Int×Int) h'=>t.2=(i:Int)∧i≤vs.length∧t.1=((ls.take i).flatten.length:Int)∧h'=h) (fun i=>vs.length-i) 0 ⟨rfl,bS _,by simp,rfl⟩ ?_
 rintro I i ⟨tz,V⟩ h' ⟨m,hi,E,rfl⟩ G;simp only at m E;subst m E;refine aD (fun c=>?_) fun D=>?_
 ·have c:i<vs.length:=by have:(i:Int)<(s.len:Int):=c;omega
  obtain⟨a,q,_,f⟩:=C.at (aj c);have J:=(v.at c (d▸c)).len;have e:=congrArg jG (Ht ls (d▸c));rw[ad]at e;have B:=NA ls (i+1);refine Join.plain ⟨by simp only;omega,a,q,_,f 0 _ rfl,?_⟩;simp only;have O:IntKind.wrap .i64 (((ls.take i).flatten.length:Int)+((vs[i]).len:Int))=((ls.take (i+1)).flatten.length:Int):=by rw[d8 (by omega)];omega
  rw[O];refine aD (fun h=>by omega) fun _=>?_
  rw[jm c (by omega)];exact G (i+1) _ _ ⟨rfl,c,rfl,rfl⟩ (by omega)
 ·have P:i=vs.length:=by have:¬(i:Int)<(s.len:Int):=D;omega
  rw[bj (by omega)];refine Sc H fun W U y u=>?_
  refine LoopP.ghost (fun(i:Nat) (t:SliceV×Int) w=>t.2=(i:Int)∧i≤vs.length∧OwnS eJ 2 ag (fun b=>h'.size≤b) w t.1 (ls.take i).flatten∧Upd No h' w) (fun i=>vs.length-i) 0 ⟨rfl,bS _,by simpa using y,u⟩ ?_
  rintro Z j ⟨R,T⟩ w ⟨m,S,p,n⟩ x;simp only at m p;subst m;refine aD (fun c=>?_) fun g=>?_
  ·have c:j<vs.length:=by have:(j:Int)<(s.len:Int):=c;omega
   obtain⟨a,q,_,f⟩:=(C.upd n fun _ h=>h.elim).at (aj c)
   have o:=((v.upd n).at c (d▸c));have e:=Ht ls (d▸c);have k:=congrArg jG e;rw[ad]at k;have B:=NA ls (j+1);refine Join.plain ⟨by simp only;omega,a,q,_,f 0 _ rfl,_,o.srow,?_⟩;refine AppP.own (ys:=ls[j]) p o.len rfl (vS _) rfl (by omega) (by omega) n.size fun X h2 z A=>?_
   simp only;rw[jm c (by omega)];exact x (j+1) _ _ ⟨rfl,c,e▸z,n.trans A fun b L=>.inr L⟩ (by omega)
  ·have N:j=vs.length:=by have:¬(j:Int)<(s.len:Int):=g;omega
   rw[bj (by omega)]at p;exact Q _ _ p n
def Is(l:List Pr)(p:Pr):List Pr:=l.take (pos l p.1)++p::l.drop (if cq l p.1 then pos l p.1+1 else pos l p.1)
def OF(l:List Pr)(k:ByteArray):List Pr:=if cq l k then l.take (pos l k)++l.drop (pos l k+1)else l
theorem Ie{l:List Pr}(g:bV l){k:ByteArray}(b:cq l k=true):∃h:pos l k<l.length,l[pos l k].1=k:=by
 unfold cq at b;obtain⟨p,d,e⟩:=bP.1 b;have e:=of_decide_eq_true e;obtain⟨q,c,rfl⟩:=List.mem_iff_getElem.1 d;have:pos l k=q:=PR (by omega) (fun j f a=>by rw[←e];exact List.pairwise_iff_getElem.1 g j q f c a) fun h=>by rw[←e];exact cn _
 subst this;exact⟨c,e⟩
theorem H2{h:ac}{s:SliceV}{l:List Pr}(a:Sl eJ 2 No h s l){i j m:Nat}(e:i≤j)(b:j≤l.length)(d:j≤m)(c:Nat):Sl eJ 2 No h ⟨aJ s.a i m 2,j-i,c⟩ ((l.drop i).take (j-i)):=Sl.sub a e b d
theorem LV{h:ac}{s:SliceV}{l:List Pr}(y:Sl eJ 2 No h s l)(hc:s.len≤s.cap)(n:bV l)(F:l.length≤1000000000)(p:Pr)
  {K:SliceV→ac→Prop}(P:∀s' h',OwnS eJ 2 ag (fun b=>h.size≤b) h' s' (Is l p)→Upd No h h'→K s' h'):HC PG zC [.slice s.a s.len s.cap,.agg #[.string p.1,.string p.2]] [.c .slice] K h:=by
 refine MK s p ?_;unfold FT ay m8 vR F6;have d:=y.len;have k1:=Upd.hnew No h [.string p.1,.string p.2] ag;have b1:=bE h [.string p.1,.string p.2] ag;refine bw ?_;simp only[cr h];generalize hnew h [.string p.1,.string p.2] ag=h1 at k1 b1;refine⟨p.1,by rw[bW,aL b1];rfl,IB (y.upd k1 fun _ h=>h.elim) n F p.1 fun O f=>?_⟩
 have A:=PS l p.1;have a:=k1.tr f;refine⟨by simp only;omega,?_⟩;let q:=if cq l p.1 then pos l p.1+1 else pos l p.1
 have L:q≤l.length:=by
  show(if cq l p.1 then pos l p.1+1 else pos l p.1)≤l.length
  split
  ·rename_i ht;obtain⟨h,_⟩:=Ie n ht;omega
  ·exact A
 refine Join.intro (fun t h'=>h'=O∧t=⟨aJ s.a q s.cap 2,s.len-q,s.cap-q⟩) (fun R B=>?_) ?_
 ·refine CondP.intro (fun e=>?_) fun e=>B _ _ ⟨rfl,?_⟩
  ·have e:cq l p.1=true:=e
   obtain⟨I,_⟩:=Ie n e;have N:IntKind.wrap .i64 ((pos l p.1:Int)+1)=((pos l p.1+1:Nat):Int):=by rw[d8 (by omega)];omega
   simp only;rw[N];refine⟨by omega,B _ _ ⟨rfl,?_⟩⟩;have:q=pos l p.1+1:=by show(if cq l p.1 then _ else _)=_;rw[if_pos e]
   rw[this];rfl
  ·have e:cq l p.1=false:=e
   have:q=pos l p.1:=by show(if cq l p.1 then _ else _)=_;rw[if_neg (by rw[e];decide)]
   rw[this];rfl
 ·rintro t h' ⟨rfl,rfl⟩
  have b2:=f.get0 b1;refine⟨by simp only;omega,p.1,by rw[bW,aL b2];rfl,p.2,by rw[bW,aL b2];rfl,?_⟩
  have o:=Upd.hnew No h' [.string p.1,.string p.2] ag;have b3:=bE h' [.string p.1,.string p.2] ag;refine bw ?_;simp only[cr h'];generalize hnew h' [.string p.1,.string p.2] ag=h3 at o b3;refine bw ?_;have c:=(y.upd a fun _ h=>h.elim).upd o fun _ h=>h.elim
  have k:=Upd.hnew No h3 [.slice (aJ s.a 0 s.cap 2) ((pos l p.1:Int).toNat-0) (s.cap-0),.slice (some ⟨h'.size,0,none⟩) 1 1,.slice (aJ s.a q s.cap 2) (s.len-q) (s.cap-q)] cf;have E:=bE h3 [.slice (aJ s.a 0 s.cap 2) ((pos l p.1:Int).toNat-0) (s.cap-0),.slice (some ⟨h'.size,0,none⟩) 1 1,.slice (aJ s.a q s.cap 2) (s.len-q) (s.cap-q)] cf;have C:=H2 c (i:=0) (j:=pos l p.1) (m:=s.cap) (bS _) A (by omega) (s.cap-0)
  have G:Sl eJ 2 No h3 ⟨some ⟨h'.size,0,none⟩,1,1⟩ [p]:=⟨rfl,gS,fun _=>⟨_,rfl,fun h=>h.elim,rZ b3 fun i v w=>by simpa using w⟩⟩
  have z:=H2 c (i:=q) (j:=l.length) (m:=s.cap) L (al _) (by omega) (s.cap-q);rw[←d]at z;rw[List.drop_zero]at C;rw[bj (by rw[aM];omega)]at z;have H:Is l p= [l.take (pos l p.1-0),[p],l.drop q].flatten:=by simp[Is,q]
  refine Hy (s:=⟨some (aO h3),3,3⟩) (vs:= [⟨aJ s.a 0 s.cap 2,(pos l p.1:Int).toNat-0,s.cap-0⟩,⟨some ⟨h'.size,0,none⟩,1,1⟩,⟨aJ s.a q s.cap 2,s.len-q,s.cap-q⟩]) (ls:= [l.take (pos l p.1-0),[p],l.drop q])
   ⟨rfl,fun x=>⟨rfl,Nat.one_pos⟩,fun _=>⟨_,rfl,fun h=>h.elim,rZ E fun i v w=>by simpa[Ve]using w⟩⟩ ⟨C.upd k fun _ h=>h.elim,G.upd k fun _ h=>h.elim,z.upd k fun _ h=>h.elim,trivial⟩ ?_ (by simp) fun S Q g u=>?_
  ·simp only[jH,qs,ad,List.length_take,aM,bd,List.length_nil];omega
  ·rw[←H]at g
   have D:=((a.tr o).tr k);exact P _ _ (g.more fun b J=>Nat.le_trans D.size J) (D.tr u)
end Go.Proofs
namespace Go.Proofs
open Go.Lift
def vI(n d:Nat):Nat:=(fq n).countP (d.testBit ·)
theorem Ei(m n d:Nat):vI (m+n) d=vI m d+vI n (d>>>m):=by
 unfold vI;rw[tD,List.countP_append,List.countP_map];congr 1
 refine List.countP_congr fun i _=>?_
 simp[Nat.testBit_shiftRight]
theorem NF(d:Nat)(i:Nat):∀n,i≤n→vI n (d&&&(2^i-1))=vI i d:=by
 intro n a;obtain⟨m,rfl⟩:=Nat.exists_eq_add_of_le a;rw[Ei];have e:vI i (d&&&(2^i-1))=vI i d:=by
  unfold vI;refine List.countP_congr fun j b=>?_
  have:=fS.1 b;simp[lj,lS,this]
 have c:vI m ((d&&&(2^i-1))>>>i)=0:=by
  unfold vI;rw[List.countP_eq_zero];intro j _;simp[Nat.testBit_shiftRight,lj,lS];intro h;omega
 omega
theorem TH(d:Nat):vI 8 (d&&&255)=vI 8 d:=NF d 8 8 (al _)
theorem zI(n d:Nat):vI n d≤n:=by
 have:=List.countP_le_length (p:=(d.testBit ·)) (l:=fq n)
 simpa[vI]using this
theorem sJ(d n:Nat):dW (d:Int) (2^n)=((d>>>n:Nat):Int):=by
 rw[Int.fdiv_eq_ediv_of_nonneg _ (by exact Int.le_of_lt (Int.pow_pos (by decide))),mZ];simp
theorem QU(a b:Nat):(ak (IntKind.bits .u32) (a:Int)&&&ak (IntKind.bits .u32) (b:Int)).toNat=(a%4294967296)&&&(b%4294967296):=by
 simp[IntKind.bits,BitVec.toNat_and,BitVec.toNat_ofInt];rfl
theorem Ag{n:Nat}(h:n<4294967296):IntKind.wrap .u32 (n:Int)=(n:Int):=Go.IntWalk.u32_in _ (by omega)
theorem ET{i:Nat}(hi:i<32){h:ac}{K:Bool→ac→Prop}(a:K true h):HC PG nN [.int .i64 i] [.c .bool] K h:=by
 refine Gy i ?_;unfold y7;refine aD (fun _=>?_) fun h=>absurd (Int.natCast_nonneg i) h
 rw[decide_eq_true (by omega)];exact a
theorem IU{a b:Nat}(h:b<4294967296):a&&&b<4294967296:=gH Nat.and_le_right h
theorem Cd{d i:Nat}(hd:d<4294967296)(hi:i<32){h:ac}{K:Bool→ac→Prop}(c:K (d.testBit i) h):HC PG fu [.int .u32 d,.int .i64 i] [.c .bool] K h:=by
 refine CM d i ?_;unfold vF;refine ET hi (ar.2 ⟨by omega,?_⟩);have e:min (i:Int).toNat (IntKind.bits .u32)=i:=by rw[aY];exact bH (by show i≤32;omega)
 rw[e,sJ];have a:=QU (d>>>i) 1;have b:d>>>i<4294967296:=gH (pP d i) hd;rw[jY b,show(1:Nat)%4294967296=1 from rfl]at a
 simp only[Bd];rw[show((1:Nat):Int)=(1:Int)from rfl]at a
 rw[a,Ag (IU (by omega))];have f:(((d>>>i&&&1:Nat):Int)==(1:Int))=d.testBit i:=by
  rw[lr,beq_iff_eq,Nat.testBit,Nat.and_comm];simp only[bne_iff_ne,ne_eq,Nat.one_and_eq_mod_two];have:(d>>>i)%2<2:=Nat.mod_lt _ (by omega);omega
 rw[f];exact c
theorem ON{d i:Nat}(hd:d<4294967296)(hi:i<32):∃w:Nat,IntKind.wrap .u32 (ak (IntKind.bits .u32) (d:Int)|||ak (IntKind.bits .u32) (IntKind.wrap .u32 (1*2^(min (i:Int).toNat (IntKind.bits .u32))))).toNat=(w:Int)∧w<4294967296∧∀j,w.testBit j=(d.testBit j||decide (j=i)):=by
 have e:min (i:Int).toNat (IntKind.bits .u32)=i:=by rw[aY];exact bH (by show i≤32;omega)
 have c:2^i<4294967296:=Nat.pow_lt_pow_right (by omega) (show i<32 from hi)
 have f:(1*2^i:Int)=((2^i:Nat):Int):=by simp
 rw[e,f,Ag c];refine⟨_,Ag (BitVec.isLt _),BitVec.isLt _,fun j=>?_⟩
 rw[BitVec.testBit_toNat,BitVec.getLsbD_or,mw,mw,my,my,Nat.testBit_two_pow];by_cases a:j<32
 ·have:decide (j<IntKind.bits .u32)=true:=decide_eq_true a
  rw[this];simp[eq_comm]
 ·have g:decide (j<IntKind.bits .u32)=false:=decide_eq_false a
  have b:d.testBit j=false:=pN (aC hd (Nat.pow_le_pow_right (n:=2) (by omega) (show 32≤j by omega)))
  rw[g,b];simp;omega
theorem M2{d i:Nat}(hd:d<4294967296)(hi:i<32){h:ac}{K:Int→ac→Prop}(a:∀w:Nat,w<4294967296→(∀j,w.testBit j=(d.testBit j||decide (j=i)))→K (w:Int) h):HC PG eT [.int .u32 d,.int .i64 i] [.c (.int .u32)] K h:=by
 refine Bo d i ?_;unfold uw;refine ET hi (ai.2 ⟨by omega,?_⟩);obtain⟨w,e,c,b⟩:=ON hd hi;simp only[Bd];rw[e];exact a w c b
theorem IQ{d i:Nat}(hd:d<4294967296)(hi:i<32):∃w:Nat,IntKind.wrap .u32 (ak (IntKind.bits .u32) (d:Int)&&& ~~~ak (IntKind.bits .u32) (IntKind.wrap .u32 (1*2^(min (i:Int).toNat (IntKind.bits .u32))))).toNat=(w:Int)∧w<4294967296∧∀j,w.testBit j=(d.testBit j&&decide (j≠i)):=by
 have e:min (i:Int).toNat (IntKind.bits .u32)=i:=by rw[aY];exact bH (by show i≤32;omega)
 have c:2^i<4294967296:=Nat.pow_lt_pow_right (by omega) (show i<32 from hi)
 have f:(1*2^i:Int)=((2^i:Nat):Int):=by simp
 rw[e,f,Ag c];refine⟨_,Ag (BitVec.isLt _),BitVec.isLt _,fun j=>?_⟩
 rw[BitVec.testBit_toNat,BitVec.getLsbD_and,BitVec.getLsbD_not,mw,mw,my,my,Nat.testBit_two_pow];by_cases a:j<32
 ·have:decide (j<IntKind.bits .u32)=true:=decide_eq_true a
  rw[this];simp[eq_comm]
 ·have g:decide (j<IntKind.bits .u32)=false:=decide_eq_false a
  have b:d.testBit j=false:=pN (aC hd (Nat.pow_le_pow_right (n:=2) (by omega) (show 32≤j by omega)))
  rw[g,b];simp
theorem En{d i:Nat}(hd:d<4294967296)(hi:i<32){h:ac}{K:Int→ac→Prop}(a:∀w:Nat,w<4294967296→(∀j,w.testBit j=(d.testBit j&&decide (j≠i)))→K (w:Int) h):HC PG jB [.int .u32 d,.int .i64 i] [.c (.int .u32)] K h:=by
 refine xV d i ?_;unfold rk;refine ET hi (ai.2 ⟨by omega,?_⟩);obtain⟨w,e,c,b⟩:=IQ hd hi;simp only[Bd];rw[e];exact a w c b
abbrev T3:ByteArray:=⟨#[0,1,1,2,1,2,2,3,1,2,2,3,2,3,3,4,1,2,2,3,2,3,3,4,2,3,3,4,3,4,4,5,1,2,2,3,2,3,3,4,2,3,3,4,3,4,4,5,2,3,3,4,3,4,4,5,3,4,4,5,4,5,5,6,1,2,2,3,2,3,3,4,2,3,3,4,3,4,4,5,2,3,3,4,3,4,4,5,3,4,4,5,4,5,5,6,2,3,3,4,3,4,4,5,3,4,4,5,4,5,5,6,3,4,4,5,4,5,5,6,4,5,5,6,5,6,6,7,1,2,2,3,2,3,3,4,2,3,3,4,3,4,4,5,2,3,3,4,3,4,4,5,3,4,4,5,4,5,5,6,2,3,3,4,3,4,4,5,3,4,4,5,4,5,5,6,3,4,4,5,4,5,5,6,4,5,5,6,5,6,6,7,2,3,3,4,3,4,4,5,3,4,4,5,4,5,5,6,3,4,4,5,4,5,5,6,4,5,5,6,5,6,6,7,3,4,4,5,4,5,5,6,4,5,5,6,5,6,6,7,4,5,5,6,5,6,6,7,5,6,6,7,6,7,7,8]⟩
theorem Rp:(fq 256).all (fun b=>decide (T3[b]? =some (uz (vI 8 b))))=true:=by decide+kernel
theorem HW{b:Nat}(h:b<256):T3[b]? =some (uz (vI 8 b)):=of_decide_eq_true (List.all_eq_true.1 Rp b (fS.2 h))
theorem IK(b:Nat):(uz (vI 8 b)).toNat=vI 8 b:=by
 have:=zI 8 b;simp;omega
theorem VB(d:Nat):vI 32 d=vI 8 (d>>>24)+vI 8 ((d>>>16)&&&255)+vI 8 ((d>>>8)&&&255)+vI 8 (d&&&255):=by
 rw[TH,TH,TH,show(32:Nat)=8+(8+(8+8))from rfl,Ei,Ei,Ei]
 simp only[←Nat.shiftRight_add,Nat.reduceAdd];omega
set_option maxRecDepth 100000 in
theorem RN{d:Nat}(hd:d<4294967296){h:ac}{K:Int→ac→Prop}(j:K (vI 32 d:Int) h):HC PG jW [.int .u32 d] [.c (.int .i64)] K h:=by
 refine vm d ?_;unfold pa;have g:dW (d:Int) (2^(min (24:Int).toNat (IntKind.bits .u32)))=((d>>>24:Nat):Int):=sJ d 24;have a:dW (d:Int) (2^(min (16:Int).toNat (IntKind.bits .u32)))=((d>>>16:Nat):Int):=sJ d 16;have k:dW (d:Int) (2^(min (8:Int).toNat (IntKind.bits .u32)))=((d>>>8:Nat):Int):=sJ d 8;have b:∀x:Nat,x<4294967296→IntKind.wrap .u32 (ak (IntKind.bits .u32) (x:Int)&&&ak (IntKind.bits .u32) 255).toNat=((x&&&255:Nat):Int):=fun x hx=>by
  have:=QU x 255;rw[jY hx]at this;rw[show((255:Nat):Int)=(255:Int)from rfl]at this
  rw[this,Ag (IU (by omega))]
 have i:d>>>24<256:=by rw[mZ];omega
 have e:∀x:Nat,x&&&255<256:=fun x=>gH Nat.and_le_right (by omega)
 have f:d>>>16<4294967296:=gH (pP d 16) hd;have m:d>>>8<4294967296:=gH (pP d 8) hd;simp only[Bd];rw[g,a,k,b _ f,b _ m,b _ hd];refine⟨by decide,_,by omega,HW (b:=d>>>24) i,by decide,_,by omega,HW (e _),by decide,_,by omega,HW (e _),_,by omega,HW (e _),?_⟩
 rw[IK,IK,IK,IK];simp only[aY];have p:=zI 8 (d>>>24);have o:=zI 8 (d>>>16&&&255);have s:=zI 8 (d>>>8&&&255);have q4:=zI 8 (d&&&255);rw[VB]at j;have c:∀n:Nat,n≤255→IntKind.wrap .u8 (n:Int)=(n:Int):=fun n q=>Go.IntWalk.u8_in _ (by omega)
 rw[←Int.natCast_add,c _ (by omega),←Int.natCast_add,c _ (by omega),←Int.natCast_add,c _ (by omega),d8 (by omega)];exact j
theorem qx{d i:Nat}(hd:d<4294967296)(hi:i<32){h:ac}{K:Int→ac→Prop}(a:K (vI i d:Int) h):HC PG cX [.int .u32 d,.int .i64 i] [.c (.int .i64)] K h:=by
 refine Bp d i ?_;unfold ux;refine aD (fun f=>?_) fun f=>?_
 ·have:i=0:=by omega
  subst this;exact a
 ·refine aD (fun h=>by omega) fun _=>⟨by omega,?_⟩
  have e:min (i:Int).toNat (IntKind.bits .u32)=i:=by rw[aY];exact bH (by show i≤32;omega)
  have g:2^i<4294967296:=Nat.pow_lt_pow_right (by omega) (show i<32 from hi)
  have b:0<2^i:=Nat.pow_pos (by omega);have j:(1*2^i:Int)=((2^i:Nat):Int):=by simp
  have c:(((2^i:Nat):Int)-1)=((2^i-1:Nat):Int):=by omega
  simp only[Bd];rw[e,j,Ag g,c,Ag (show 2^i-1<4294967296 by omega),QU,jY hd,jY (show 2^i-1<4294967296 by omega),Ag (IU (by omega))]
  refine z9 _ ?_;unfold tx;refine RN (IU (by omega)) ?_;rw[NF d i 32 (by omega)];exact a
end Go.Proofs
namespace Go.Proofs
open Go.Lift
def fm{β:Type}(g:Nat→Option β)(n:Nat):List β:=(fq n).filterMap g
def upd{β:Type}(g:Nat→Option β)(i:Nat)(x:Option β)(j:Nat):Option β:=if j=i then x else g j
theorem UG{β:Type}{f g:Nat→Option β}:∀l:List Nat,(∀j∈l,f j=g j)→l.filterMap f=l.filterMap g
 | [],_=>rfl
 |j::l,h=>by
  rw[List.filterMap_cons,List.filterMap_cons,h j (au ..),UG l fun k a=>h k (az _ a)]
section
variable {β:Type} {g:Nat→Option β} {d:Nat}
theorem Fb(hd:∀c,c<32→d.testBit c=(g c).isSome){i:Nat}(hi:i≤32):(fm g i).length=vI i d:=by
 unfold fm vI;rw[List.length_filterMap_eq_countP];exact List.countP_congr fun j a=>by rw[hd j (by have:=fS.1 a;omega)]
theorem qR{i n:Nat}(hi:i<n):fm g n=fm g i++((g i).toList++(fq (n-(i+1))).filterMap fun j=>g (i+1+j)):=by
 unfold fm;have e:n=i+(1+(n-(i+1))):=by omega
 rw[e,tD,p6,tD];have a:i+(1+(n-(i+1)))-(i+1)=n-(i+1):=by omega
 rw[a];congr 1
 rw[List.map_append,p6,List.map_map];congr 1
 rw[List.filterMap_map];refine UG _ fun j _=>?_
 show g (i+(1+j))=_
 rw[Nat.add_assoc]
theorem zx{i:Nat}{x:Option β}:fm (upd g i x) i=fm g i:=by
 unfold fm;refine UG _ fun j a=>?_
 have:=fS.1 a;unfold upd;rw[if_neg (by omega)]
theorem xz{i m:Nat}{x:Option β}:((fq m).filterMap fun j=>upd g i x (i+1+j))=(fq m).filterMap fun j=>g (i+1+j):=by
 refine UG _ fun j _=>?_
 unfold upd;rw[if_neg (by omega)]
theorem Qg{i:Nat}(hi:i<32)(hd:∀c,c<32→d.testBit c=(g c).isSome)(b:g i=none)(x:β):fm (upd g i (some x)) 32=(fm g 32).take (vI i d)++x::(fm g 32).drop (vI i d):=by
 have a:=Fb hd (i:=i) (by omega);rw[qR (g:=upd g i (some x)) hi,qR (g:=g) hi,zx,xz,b,cF a,cj a];simp[upd]
theorem Qf{i:Nat}(hi:i<32)(hd:∀c,c<32→d.testBit c=(g c).isSome){y:β}(b:g i=some y)(x:β):fm (upd g i (some x)) 32=(fm g 32).take (vI i d)++x::(fm g 32).drop (vI i d+1):=by
 have a:=Fb hd (i:=i) (by omega);rw[qR (g:=upd g i (some x)) hi,qR (g:=g) hi,zx,xz,b,cF a,←cG,cj a];simp[upd]
theorem Qh{i:Nat}(hi:i<32)(hd:∀c,c<32→d.testBit c=(g c).isSome){y:β}(b:g i=some y):fm (upd g i none) 32=(fm g 32).take (vI i d)++(fm g 32).drop (vI i d+1):=by
 have a:=Fb hd (i:=i) (by omega);rw[qR (g:=upd g i none) hi,qR (g:=g) hi,zx,xz,b,cF a,←cG,cj a];simp[upd]
theorem Qi{i:Nat}(hi:i<32)(hd:∀c,c<32→d.testBit c=(g c).isSome){y:β}(a:g i=some y):(fm g 32)[vI i d]? =some y:=by
 have b:=Fb hd (i:=i) (by omega);rw[qR (g:=g) hi,a,List.getElem?_append_right (by omega),b,Nat.sub_self];rfl
theorem Hr{i:Nat}(hi:i<32)(hd:∀c,c<32→d.testBit c=(g c).isSome){y:β}(a:g i=some y):vI i d<(fm g 32).length:=(List.getElem?_eq_some_iff.1 (Qi hi hd a)).1
theorem SP{i:Nat}(hi:i<32)(hd:∀c,c<32→d.testBit c=(g c).isSome):vI i d≤(fm g 32).length:=by
 have a:=Fb hd (i:=i) (by omega);rw[qR (g:=g) hi,ad];omega
theorem AM:(fm g 32).length≤32:=by
 have:=List.length_filterMap_le g (fq 32);simpa[fm]using this
end
end Go.Proofs
namespace Go.Proofs
open Go.Lift
abbrev sv(s:SliceV):Value:=.slice s.a s.len s.cap
structure Slots where
 p:Nat→Option Pr
 k:Nat→Option (Option Addr)
def eK(d n:Nat)(sp sk:SliceV)(a:Bool)(ow:Option Addr):Array Value:= #[.int .u32 (d:Int),.int .u32 (n:Int),sv sp,sv sk,.bool a,.pointer ow]
structure BitsOf(d n:Nat)(s:Slots):Prop where
 d32:d<4294967296
 n32:n<4294967296
 dp:∀c,c<32→d.testBit c=(s.p c).isSome
 nk:∀c,c<32→n.testBit c=(s.k c).isSome
structure NodeAt(W:Nat→Prop)(h:ac)(b:Nat)(s:Slots):Prop where
 ex:∃d n sp sk ow,h[b]? =some (.cells (eK d n sp sk false ow) be (0,0))∧BitsOf d n s∧Sl eJ 2 W h sp (fm s.p 32)∧Sl rA 1 W h sk (fm s.k 32)∧sp.len≤sp.cap∧sk.len≤sk.cap
 nw:¬W b
theorem NodeAt.upd{W M:Nat→Prop}{h h':ac}{b:Nat}{s:Slots}(n:NodeAt W h b s)(k:Upd M h h')(hm:∀b,M b→W b∨h.size≤b):NodeAt W h' b s:=by
 obtain⟨d,m,sp,sk,ow,a,c,j,e,f,g⟩:=n.ex;exact⟨⟨d,m,sp,sk,ow,k.get a (fun i=>(hm _ i).elim n.nw fun h=>by have:=bo a;omega),c,j.upd k hm,e.upd k hm,f,g⟩,n.nw⟩
structure OwnN(M:Nat→Prop)(h:ac)(b d n:Nat)(sp sk:SliceV)(s:Slots)(ow:Option Addr):Prop where
 blk:h[b]? =some (.cells (eK d n sp sk false ow) be (0,0))
 bits:BitsOf d n s
 ex:∃A B:Nat→Prop,OwnS eJ 2 ag A h sp (fm s.p 32)∧OwnS rA 1 bC B h sk (fm s.k 32)∧(∀x,A x→M x∧¬B x∧x≠b∧x<h.size)∧(∀x,B x→M x∧x≠b∧x<h.size)
 mb:M b
theorem xt{h:ac}{K:Bool→ac→Prop}(a:K false h):HC PG gu [.pointer none] [.c .bool] K h:=by
 refine zQ none ?_;unfold td bh;exact ai.2 a
theorem G6{b:Nat}{h:ac}{K:Bool→ac→Prop}(a:K false h):HC PG pw [.pointer (some ⟨b,0,none⟩),.pointer none] [.c .bool] K h:=by
 refine Be _ none ?_;unfold ul eZ;exact ar.2 (xt (ai.2 a))
theorem OwnN.upd{M M':Nat→Prop}{h h':ac}{b d n:Nat}{sp sk:SliceV}{s:Slots}{ow:Option Addr}(o:OwnN M h b d n sp sk s ow)(k:Upd M' h h')(hm:∀x,M' x→¬M x):OwnN M h' b d n sp sk s ow:=by
 obtain⟨A,B,i,f,a,c⟩:=o.ex;have z:=k.size;exact⟨k.get o.blk fun g=>hm _ g o.mb,o.bits,⟨A,B,i.upd k fun x hx e=>hm _ e (a x hx).1,f.upd k fun x hx e=>hm _ e (c x hx).1,fun x hx=>⟨(a x hx).1,(a x hx).2.1,(a x hx).2.2.1,by have:=(a x hx).2.2.2;omega⟩,fun x hx=>⟨(c x hx).1,(c x hx).2.1,by have:=(c x hx).2.2;omega⟩⟩,o.mb⟩
set_option maxRecDepth 4000 in
theorem LW{W:Nat→Prop}{h:ac}{b:Nat}{s:Slots}(nd:NodeAt W h b s){K:Option Addr→ac→Prop}
  (N:∀h' d n sp sk,OwnN (fun x=>h.size≤x) h' h.size d n sp sk s none→Upd No h h'→K (some ⟨h.size,0,none⟩) h'):
  HC PG fY [.pointer (some ⟨b,0,none⟩),.pointer none] [.c .ptr] K h:=by
 obtain⟨d,n,sp,sk,ow,a,bits,A,J,V,hck⟩:=nd.ex;refine wQ _ none ?_;unfold rI eZ nv w7 dI bh fj bR Pf SW;refine G6 (ai.2 ?_);have c:∀{h:ac} {b:Nat} {c:Array Value} {i:Nat},h[b]? =some (.cells c be (0,0))→aI h ⟨b,0+i,none⟩=c[i]?:=fun a=>by rw[aH];exact aL a
 refine⟨_,rfl,_,c (i:=0) a,_,c (i:=1) a,sp,c (i:=2) a,sk,c (i:=3) a,_,c (i:=4) a,_,c (i:=5) a,?_⟩;have k1:=Upd.hnew No h [.int .u32 0,.int .u32 0,.slice none 0 0,.slice none 0 0,.bool false,.pointer none] be;have b1:=bE h [.int .u32 0,.int .u32 0,.slice none 0 0,.slice none 0 0,.bool false,.pointer none] be;refine bw ?_;simp only[cr h];generalize hnew h [.int .u32 0,.int .u32 0,.slice none 0 0,.slice none 0 0,.bool false,.pointer none] be=h1 at k1 b1
 have F:hH h1 ⟨h.size,0,none⟩ 0 [.int .u32 (d:Int),.int .u32 (n:Int),.slice sp.a sp.len sp.cap,.slice sk.a sk.len sk.cap,.bool false,.pointer ow]=_:=jo _ h1 0 0 _ b1 (by simp);refine⟨.inr ⟨_,rfl,fun j S=>by rw[bW];exact gn b1 (by simp at S⊢;omega)⟩,bw ?_⟩
 rw[F];have b2:=fF (o:=.cells (eK d n sp sk false ow) be (0,0)) b1;have t:Upd No h _:=k1.trans (M':=(· =h.size)) (Upd.set h1 (.cells (eK d n sp sk false ow) be (0,0)) rfl) fun x hx=>.inr (di hx.symm)
 have C:h.size<(h1.setIfInBounds h.size (.cells (eK d n sp sk false ow) be (0,0))).size:=bo b2;have Y:h.size≠b:=fun e=>by have:=bo a;omega
 have T:(Obj.cells (List.take (0+0) [Value.int .u32 0,.int .u32 0,.slice none 0 0,.slice none 0 0,.bool false,.pointer none]++ [Value.int .u32 (d:Int),.int .u32 (n:Int),.slice sp.a sp.len sp.cap,.slice sk.a sk.len sk.cap,.bool false,.pointer ow]++List.drop (0+0+ [Value.int .u32 (d:Int),.int .u32 (n:Int),.slice sp.a sp.len sp.cap,.slice sk.a sk.len sk.cap,.bool false,.pointer ow].length) [Value.int .u32 0,.int .u32 0,.slice none 0 0,.slice none 0 0,.bool false,.pointer none]).toArray be (0,0))=.cells (eK d n sp sk false ow) be (0,0):=rfl
 rw[T];generalize h1.setIfInBounds h.size (.cells (eK d n sp sk false ow) be (0,0))=h2 at b2 t C;have q:=t.get0 a;refine⟨_,rfl,sp,c (i:=2) q,_,rfl,sk,c (i:=3) q,?_⟩;refine vf (A.upd t fun _ h=>h.elim) (by have:=AM (g:=s.p);omega) fun z P L m=>?_
 refine⟨c (i:=3) (m.get0 q),?_⟩;refine Cq ((J.upd t fun _ h=>h.elim).upd m fun _ h=>h.elim) (by have:=AM (g:=s.k);omega) fun I X B p=>?_
 have O:=p.get0 (m.get0 b2);have u:=L.within.upd p fun _ _ h=>h
 have y:=B.within;have z3:=m.size;have z4:=p.size;have w:∀{h:ac} {c:Array Value} {x i:Nat},h[x]? =some (.cells c be (0,0))→i<c.size→Wr h ⟨x,0+i,none⟩:=fun a hi=>by rw[aH];exact gn a hi
 have st:∀{h:ac} {c c':Array Value} {x i:Nat} {v:Value} {k:ac→Prop},h[x]? =some (.cells c be (0,0))→c.setIfInBounds i v=c'→(∀h',h'[x]? =some (.cells c' be (0,0))→Upd (· =x) h h'→k h')→At (hset h ⟨x,i,none⟩ v) k:=fun a e N=>xP a fun h' G Z=>N h' (e▸G) Z
 refine⟨w (i:=2) O (show 2<6 by decide),st (i:=2) (c':=eK d n z sk false ow) O rfl fun h5 R H=>?_⟩
 refine⟨w (i:=3) R (show 3<6 by decide),st (i:=3) (c':=eK d n z I false ow) R rfl fun h6 Q E=>?_⟩
 refine⟨w (i:=5) Q (show 5<6 by decide),st (i:=5) (c':=eK d n z I false none) Q rfl fun h7 U D=>?_⟩
 refine xt (ai.2 ?_);have f:=H.tr (E.tr D);have z7:=f.size;refine N _ d n z I ⟨U,bits,⟨fun x=>h2.size≤x∧x<P.size,fun x=>P.size≤x∧x<X.size,u.upd f fun x hx e=>by have e:x=h.size:=e;omega,y.upd f fun x hx e=>by have e:x=h.size:=e;omega,fun x hx=>⟨by omega,by omega,by omega,by omega⟩,fun x hx=>⟨by omega,by omega,by omega⟩⟩,al _⟩ ?_
 exact((t.tr m).tr p).trans f fun x hx=>.inr (di hx.symm)
end Go.Proofs
namespace Go.Proofs
open Go.Lift
abbrev u32(x:Int):List Value:= [.int .u32 x]
theorem vL(x:Int):(u32 x).length=1∧0<1:=⟨rfl,Nat.one_pos⟩
abbrev Nums(W:Nat→Prop)(h:ac)(s:SliceV)(xs:List Int):Prop:=Sl u32 1 W h s xs
theorem Nums.at{W:Nat→Prop}{h:ac}{s:SliceV}{xs:List Int}(b:Nums W h s xs){i:Nat}(hi:i<xs.length):∃a,s.a=some a∧¬W a.block∧aI h (adr a (((i:Int)).toNat*1))=some (.int .u32 xs[i]):=
 b.at0 (g:=fun x=>.int .u32 x) (aj hi)
theorem Iu{W:Nat→Prop}{s:SliceV}{xs:List Int}{m:Value}{p:Int→Bool}(St:ac→Prop)(e:∀h,St h→Nums W h s xs)
  (v:∀h x (K:Bool→ac→Prop),St h→x∈xs→(∀h',St h'→K (p x) h')→HV PG m [.int .u32 x] [.c .bool] K h)
  (w:xs.length≤4611686018427387904){h:ac}(y:St h){K:Int→ac→Prop}(o:∀(n:Int) h',St h'→(n≥0↔∃x∈xs,p x=true)→K n h'):
  HC PG fi [.slice s.a s.len s.cap,m] [.c (.int .i64)] K h:=by
 refine kY s m ?_;unfold ik aZ cp;refine LoopP.ghost (fun(i:Nat) (t:Int) h'=>t=(i:Int)∧St h'∧i≤xs.length∧∀x∈xs.take i,p x=false) (fun i=>xs.length-i) 0 ⟨rfl,y,bS _,by simp⟩ ?_
 rintro I i t h' ⟨rfl,g,hi,k⟩ q;have d:=e _ g;refine aD (fun b=>?_) (fun j=>?_)
 ·rw[d.len]at b
  have b:i<xs.length:=by omega
  obtain⟨a,u,_,hx⟩:=Nums.at d b;refine⟨by rw[d.len];omega,a,u,_,hx,?_⟩;refine v _ _ _ g (bX b) fun A c=>?_
  refine CondP.intro (fun z=>?_) (fun f=>?_)
  ·exact o _ _ c ⟨fun _=>⟨_,bX b,z⟩,fun _=>by omega⟩
  ·rw[jm b w]
   refine q (i+1) _ _ ⟨rfl,c,b,?_⟩ (by omega);rw[bF b];intro x hx;rcases aN.1 hx with h|h
   ·exact k x h
   ·rw[av.1 h];exact f
 ·rw[d.len]at j
  have:i=xs.length:=by omega
  subst this;rw[List.take_length]at k;exact o _ _ g ⟨fun h=>by omega,fun⟨x,hx,h⟩=>by rw[k x hx]at h;cases h⟩
theorem DX{W:Nat→Prop}{s:SliceV}{xs:List Int}{c:Value}{p:Int→Bool}(St:ac→Prop)(a:∀h,St h→Nums W h s xs)
  (d:∀h x (K:Bool→ac→Prop),St h→x∈xs→(∀h',St h'→K (p x) h')→HV PG c [.int .u32 x] [.c .bool] K h)
  (b:xs.length≤4611686018427387904){h:ac}(g:St h){K:Bool→ac→Prop}(f:∀h',St h'→K (xs.any p) h'):
  HC PG gg [.slice s.a s.len s.cap,c] [.c .bool] K h:=by
 refine pY s c ?_;unfold jL;refine Iu St a d b g fun n h' e b=>?_
 have:decide (n≥0)=xs.any p:=by
  rw[lr,decide_eq_true_iff,b,bP]
 rw[this];exact f _ e
theorem QA{W:Nat→Prop}{h:ac}{s:SliceV}{xs:List Int}(d:Nums W h s xs)(m:xs.length*4≤140737488355328){K:SliceV→ac→Prop}
  (g:∀s' h',OwnS u32 1 jf (fun b=>h.size≤b) h' s' xs→Upd No h h'→(s.a=none→xs= [])→K s' h'):HC PG jJ [.slice s.a s.len s.cap] [.c .slice] K h:=by
 refine uR s ?_;unfold nY;refine CondP.intro (fun i=>?_) (fun c=>?_)
 ·have i:s.a=none:=by simpa using i
  have hx:xs= []:=by
   by_cases hx:xs= []
   ·exact hx
   ·obtain⟨a,k,_⟩:=d.row hx
    rw[i]at k;cases k
  subst hx;exact g _ _ (OwnS.nil vL) (Upd.refl _ _) fun _=>rfl
 ·have j:=d.upd (Upd.hnew No h [] jf) (fun _ h=>h.elim)
  refine⟨_,j.srow,?_⟩;refine AppP.own (f:=u32) (M:=fun b=>h.size≤b) (xs:= []) (ys:=xs) ⟨rfl,vL,al _,.inl rfl⟩ d.len rfl ?_ rfl (by omega) (by simpa using m) (by rw[gt];omega) fun s' h' n p=>?_
  ·clear g d j m
   induction xs with
   |nil=>rfl
   |cons x xs ih=>rw[aK];exact ih
  ·refine g _ _ n ((Upd.hnew No h [] jf).trans p fun b o=>.inr o) fun e=>?_
   rw[e]at c;cases c
end Go.Proofs
namespace Go.Proofs
open Go.Lift
abbrev KE:KeyE Int:=Vv .u32
abbrev fp:=List (Int×List Int)
def Rep(W:Nat→Prop)(h:ac)(m:List (Int×SliceV))(L:fp):Prop:=
 ∀id,(∃s ps,bQ m id=some s∧bQ L id=some ps∧Nums W h s ps)∨(bQ m id=none∧bQ L id=none)
structure GraphAt(W:Nat→Prop)(h:ac)(gp gm:Nat)(L:fp)(nx:Int):Prop where
 blk:h[gp]? =some (.cells #[.map (some gm),.int .u32 nx] gM (0,0))
 map:∃m,MapAt KE sv h gm m∧Rep W h m L
 wp:W gp
 wm:W gm
 lt:∀b,W b→b<h.size
 nd:(L.map (·.1)).Nodup
theorem Rep.upd{W M:Nat→Prop}{h h':ac}{m:List (Int×SliceV)}{L:fp}(r:Rep W h m L)(k:Upd M h h')(hm:∀b,M b→W b∨h.size≤b):Rep W h' m L:=fun id=>by
 rcases r id with⟨s,ps,e,c,d⟩|a
 ·exact .inl ⟨s,ps,e,c,d.upd k hm⟩
 ·exact .inr a
theorem GraphAt.upd{W M:Nat→Prop}{h h':ac}{gp gm:Nat}{L:fp}{nx:Int}(g:GraphAt W h gp gm L nx)(k:Upd M h h')(hm:∀b,M b→(W b∧b≠gp∧b≠gm)∨h.size≤b):GraphAt W h' gp gm L nx:=by
 have a:=g.lt;have j:¬M gp:=fun e=>(hm _ e).elim (fun e=>e.2.1 rfl) fun e=>absurd (a _ g.wp) (oU.2 e)
 have f:¬M gm:=fun e=>(hm _ e).elim (fun e=>e.2.2 rfl) fun e=>absurd (a _ g.wm) (oU.2 e)
 obtain⟨m,d,i⟩:=g.map;exact⟨k.get g.blk j,⟨m,d.upd k f,i.upd k fun b c=>(hm b c).imp (·.1) id⟩,g.wp,g.wm,fun b c=>aC (a b c) k.size,g.nd⟩
theorem GraphAt.upd0{W:Nat→Prop}{h h':ac}{gp gm:Nat}{L:fp}{nx:Int}(g:GraphAt W h gp gm L nx)(k:Upd No h h'):GraphAt W h' gp gm L nx:=g.upd k fun _ h=>h.elim
theorem GraphAt.c0{W:Nat→Prop}{h:ac}{gp gm:Nat}{L:fp}{nx:Int}(g:GraphAt W h gp gm L nx):aI h ⟨gp,0,none⟩=some (.map (some gm)):=by rw[aL g.blk];rfl
theorem GraphAt.c1{W:Nat→Prop}{h:ac}{gp gm:Nat}{L:fp}{nx:Int}(g:GraphAt W h gp gm L nx):aI h ⟨gp,1,none⟩=some (.int .u32 nx):=by rw[aL g.blk];rfl
abbrev oY(L:fp):List Int:=L.map (·.1)
theorem P7{L:fp}{id:Int}:(bQ L id).isSome=decide (id∈oY L):=by
 cases h:bQ L id with
 |none=>rw[decide_eq_false (ij.1 h)];rfl
 |some v=>
  have:id∈oY L:=by
   by_cases hm:id∈oY L
   ·exact hm
   ·rw[ij.2 hm]at h;cases h
  rw[decide_eq_true this];rfl
theorem Rep.some{W:Nat→Prop}{h:ac}{m:List (Int×SliceV)}{L:fp}(r:Rep W h m L)(id:Int):(bQ m id).isSome=decide (id∈oY L):=by
 rw[←P7];rcases r id with⟨s,ps,b,a,_⟩|⟨b,a⟩<;>rw[b,a]<;>rfl
theorem Rep.len{W:Nat→Prop}{h:ac}{m:List (Int×SliceV)}{L:fp}(r:Rep W h m L)(c:(m.map (·.1)).Nodup)(a:(oY L).Nodup):m.length=L.length:=by
 have:(m.map (·.1)).Perm (oY L):=by
  rw[List.perm_ext_iff_of_nodup c a];intro id;have:=r.some id;have b:id∈m.map (·.1)↔(bQ m id).isSome=true:=by
   cases hl:bQ m id with
   |none=>simp[ij.1 hl]
   |some v=>
    simp only[Option.isSome_some,iff_true];by_cases hm:id∈m.map (·.1)
    ·exact hm
    ·rw[ij.2 hm]at hl;cases hl
  rw[b,this,decide_eq_true_iff]
 have:=this.length_eq;simpa using this
def Vz:List Int→Bool
 | [a,b]=>a==b
 |_=>false
def AA(ps:List Int):Int:=if ps.length>2∨Vz ps=true then 1 else 0
def tL(L:fp)(ps:List Int):Int:=if ps.any (fun p=> !decide (p∈oY L))then 4 else if L.length≥1024 then 6 else 0
theorem IA{W:Nat→Prop}{h:ac}{gp gm:Nat}{L:fp}{nx:Int}(g:GraphAt W h gp gm L nx)(id:Int){K:Bool→ac→Prop}(a:K (decide (id∈oY L)) h):
  HC PG jz [.pointer (some ⟨gp,0,none⟩),.int .u32 id] [.c .bool] K h:=by
 refine Bk (some ⟨gp,0,none⟩) id ?_;unfold ut aZ;obtain⟨m,hm,b⟩:=g.map;refine CondP.intro (fun e=>by cases e) fun _=>⟨_,rfl,_,g.c0,_,_,hm.get id ⟨none,0,0⟩,?_⟩
 rw[b.some id];exact a
theorem Sg{W:Nat→Prop}{h:ac}{gp gm:Nat}{L:fp}{nx:Int}(g:GraphAt W h gp gm L nx){K:Int→ac→Prop}(a:K (L.length:Int) h):
  HC PG pA [.pointer (some ⟨gp,0,none⟩)] [.c (.int .i64)] K h:=by
 refine Bj (some ⟨gp,0,none⟩) ?_;unfold ur aZ;obtain⟨m,hm,b⟩:=g.map;refine CondP.intro (fun e=>by cases e) fun _=>⟨_,rfl,_,g.c0,_,hm.len,?_⟩
 rw[b.len hm.nodup g.nd];exact a
theorem Sf{W:Nat→Prop}{h:ac}{p:Option Addr}{s:SliceV}{ps:List Int}(d:Nums W h s ps){K:Int→ac→Prop}(c:K (AA ps) h):
  HC PG pz [.pointer p,.slice s.a s.len s.cap] [.c (.int .i64)] K h:=by
 refine Bi p s ?_;unfold uq aZ cp;refine Join.plain (aD (fun k=>?_) fun j=>CondP.intro (fun f=>?_) fun b=>?_)
 ·rw[d.len]at k
  rw[show AA ps=1 from if_pos (.inl (by omega))]at c
  exact ar.2 c
 ·rw[d.len]at f
  have f:ps.length=2:=by
   have:(ps.length:Int)=2:=by simpa using f
   omega
  obtain⟨a,o,_,hx⟩:=Nums.at d (i:=0) (by omega);obtain⟨a',g,_,n⟩:=Nums.at d (i:=1) (by omega);refine⟨by rw[d.len];omega,a,o,_,hx,by rw[d.len];omega,a',g,_,n,?_⟩
  have e:AA ps=if(ps[0]==ps[1])=true then 1 else 0:=by
   match ps,f with
   | [x,y],_=>simp[AA,Vz]
  rw[e]at c;exact CondP.intro (fun m=>by rw[if_pos m]at c;exact c) fun m=>by rw[if_neg (by rw[m];decide)]at c;exact c
 ·rw[d.len]at j b
  have b:ps.length≠2:=fun e=>by rw[e]at b;exact absurd b (by decide)
  have hd:Vz ps=false:=by
   match ps,b with
   | [],_=>rfl
   | [_],_=>rfl
   | [_,_],h=>exact absurd rfl h
   |_::_::_::_,_=>rfl
  rw[show AA ps=0 from if_neg (by rw[hd];simp;omega)]at c
  exact ai.2 c
theorem Qc{W:Nat→Prop}{h:ac}{gp gm:Nat}{L:fp}{nx:Int}(g:GraphAt W h gp gm L nx){s:SliceV}{ps:List Int}(o:Nums W h s ps)(t:ps.length≤4611686018427387904)
  {K:Int→ac→Prop}(c:∀h',Upd No h h'→K (tL L ps) h'):HC PG oE [.pointer (some ⟨gp,0,none⟩),.slice s.a s.len s.cap] [.c (.int .i64)] K h:=by
 refine zY (some ⟨gp,0,none⟩) s ?_;unfold tq aZ;have k:=Upd.hnew No h [.pointer (some ⟨gp,0,none⟩)] rv;refine DX (p:=fun p=> !decide (p∈oY L)) (fun h'=>GraphAt W h' gp gm L nx∧Nums W h' s ps∧h'[h.size]? =some (.cells #[.pointer (some ⟨gp,0,none⟩)] rv (0,0))∧Upd No h h') (fun h' i=>i.2.1) ?_ t ⟨g.upd0 k,o.upd k fun _ h=>h.elim,bE h _ _,k⟩ ?_
 ·rintro h' x K ⟨b,e,f,a⟩ _ j
  refine HV.mk' (xT x ⟨h.size,0,none⟩ ?_);unfold ri K7;refine⟨_,by rw[aL f];rfl,?_⟩
  exact IA b x (j h' ⟨b,e,f,a⟩)
 ·rintro h' ⟨b,e,f,a⟩
  obtain⟨m,hm,q⟩:=b.map;refine CondP.intro (fun v=>?_) fun d=>?_
  ·rw[show tL L ps=4 from if_pos v]at c
   exact c h' a
  ·refine⟨_,by rw[cr,aL f];rfl,_,rfl,_,b.c0,_,hm.len,?_⟩
   rw[q.len hm.nodup b.nd];refine aD (fun u=>?_) fun n=>?_
   ·rw[show tL L ps=6 from(if_neg (by rw[d];decide)).trans (if_pos (by omega))]at c
    exact c h' a
   ·rw[show tL L ps=0 from(if_neg (by rw[d];decide)).trans (if_neg (by omega))]at c
    exact c h' a
end Go.Proofs
namespace Go.Proofs
open Go.Lift
def AF(L:fp)(id:Int)(ps:List Int):fp:=L.takeWhile (fun v=>decide (v.1<id))++(id,ps)::L.dropWhile (fun v=>decide (v.1<id))
def oJ(L:fp)(nx:Int)(ps:List Int):(Int×Int)×fp×Int:=
 if AA ps≠0 then((0,AA ps),L,nx)else if tL L ps≠0 then((0,tL L ps),L,nx)else if nx≥2147483648 then((0,6),L,nx)else((nx,0),AF L nx ps,nx+1)
def Tk(L:fp)(nx:Int)(id:Int)(ps:List Int):Int×fp×Int:=
 if AA ps≠0∨id=0∨id≥2147483648∨ps.any (fun p=>decide (p≥id))=true then(1,L,nx)else if id∈oY L then(7,L,nx)else if tL L ps≠0 then(tL L ps,L,nx)else(0,AF L id ps,if id+1>nx then id+1 else nx)
abbrev FI(a b:Nat):Nat→Prop:=fun x=>x=a∨x=b
theorem HF{κ β:Type}[DecidableEq κ](l l':List (κ×β))(k:κ):bQ (l++l') k=(bQ l k).or (bQ l' k):=by
 induction l with
 |nil=>simp[bQ]
 |cons p l ih=>
  obtain⟨k',u⟩:=p;simp only[List.cons_append,bQ,ih];split<;>simp
theorem Ot{L:fp}{id:Int}{ps:List Int}(b:id∉oY L)(j:Int):bQ (AF L id ps) j=if j=id then some ps else bQ L j:=by
 have c:∀p:Int×List Int→Bool,bQ L j=(bQ (L.takeWhile p) j).or (bQ (L.dropWhile p) j):=fun p=>by rw[←HF,List.takeWhile_append_dropWhile]
 unfold AF;rw[HF];simp only[bQ];by_cases a:j=id
 ·subst a
  have:bQ (L.takeWhile fun v=>decide (v.1<j)) j=none:=ij.2 fun hm=>b (by
   obtain⟨x,hx,e⟩:=bG.1 hm
   exact bG.2 ⟨x,List.takeWhile_subset _ hx,e⟩)
  rw[this];simp
 ·simp only[a,if_false]
  exact(c _).symm
theorem yj(L:fp)(id:Int)(ps:List Int):(AF L id ps).Perm ((id,ps)::L):=by
 unfold AF;refine List.perm_middle.trans ?_;rw[List.takeWhile_append_dropWhile]
theorem insV_ids{L:fp}{id:Int}{ps:List Int}:(oY (AF L id ps)).Perm (id::oY L):=(yj L id ps).map _
theorem Me{L:fp}{id:Int}{ps:List Int}(h:(oY L).Nodup)(a:id∉oY L):(oY (AF L id ps)).Nodup:=by
 rw[insV_ids.nodup_iff];exact il.2 ⟨a,h⟩
theorem Rep.put{W:Nat→Prop}{h h':ac}{m:List (Int×SliceV)}{L:fp}(r:Rep W h m L){id:Int}{s:SliceV}{ps:List Int}(f:∀s xs,Nums W h s xs→Nums W h' s xs)(c:Nums W h' s ps)(d:id∉oY L):Rep W h' (pC m id s) (AF L id ps):=fun j=>by
 rw[HB,Ot d];by_cases a:j=id
 ·simp only[a,if_true];exact .inl ⟨s,ps,rfl,rfl,c⟩
 ·simp only[a,if_false]
  rcases r j with⟨s,ps,i,b,g⟩|e
  ·exact .inl ⟨s,ps,i,b,f s ps g⟩
  ·exact .inr e
theorem GraphAt.ne{W:Nat→Prop}{h:ac}{gp gm:Nat}{L:fp}{nx:Int}(g:GraphAt W h gp gm L nx):gm≠gp:=fun e=>by
 obtain⟨m,⟨ms,c,hm,_⟩,_⟩:=g.map;have:=hm.here;rw[e,g.blk]at this;cases this
theorem GraphAt.put{W:Nat→Prop}{h:ac}{gp gm:Nat}{L:fp}{nx:Int}(g:GraphAt W h gp gm L nx){id:Int}{s:SliceV}{ps:List Int}(j:Nums W h s ps)(o:id∉oY L)(n':Int):
  GraphAt W (hset (oz h gm (.int .u32 id) (sv s)) ⟨gp,1,none⟩ (.int .u32 n')) gp gm (AF L id ps) n'∧Upd (FI gp gm) h (hset (oz h gm (.int .u32 id) (sv s)) ⟨gp,1,none⟩ (.int .u32 n'))∧
   Wr (oz h gm (.int .u32 id) (sv s)) ⟨gp,1,none⟩∧aI (oz h gm (.int .u32 id) (sv s)) ⟨gp,1,none⟩=some (.int .u32 nx)∧Upd (FI gp gm) h (oz h gm (.int .u32 id) (sv s)):=by
 obtain⟨m,hm,p⟩:=g.map;have i:=g.ne;have k1:Upd (· =gm) h (oz h gm (.int .u32 id) (sv s)):=sy h _ _ rfl
 have a:=k1.get g.blk (Ne.symm i);have n:Upd (· =gp) (oz h gm (.int .u32 id) (sv s)) (hset (oz h gm (.int .u32 id) (sv s)) ⟨gp,1,none⟩ (.int .u32 n')):=Upd.hset _ _ rfl
 have f:Upd (FI gp gm) h (oz h gm (.int .u32 id) (sv s)):=k1.mono fun b d=>.inl (.inr d)
 have k:Upd (FI gp gm) h (hset (oz h gm (.int .u32 id) (sv s)) ⟨gp,1,none⟩ (.int .u32 n')):=f.trans n fun b d=>.inl (.inl d)
 have c:∀b,FI gp gm b→W b∨h.size≤b:=fun b d=>.inl (d.elim (fun e=>e▸g.wp) fun e=>e▸g.wm)
 refine⟨⟨?_,⟨_,(MapAt.put hm id s).upd n i,p.put (fun s xs j=>j.upd k c) (j.upd k c) o⟩,g.wp,g.wm,fun b d=>aC (g.lt b d) k.size,Me g.nd o⟩,k,gn a (by simp),by rw[aL a];rfl,f⟩
 rw[qP a,fF a];rfl
theorem Sh{W:Nat→Prop}{h:ac}{gp gm:Nat}{L:fp}{nx:Int}(g:GraphAt W h gp gm L nx)(D:0≤nx)(o:nx∉oY L){s:SliceV}{ps:List Int}(t:Nums W h s ps)(w:ps.length*4≤140737488355328)
  {K:Int×Int→ac→Prop}(d:∀h',Upd (FI gp gm) h h'→GraphAt W h' gp gm (oJ L nx ps).2.1 (oJ L nx ps).2.2→K (oJ L nx ps).1 h'):
  HC PG pB [.pointer (some ⟨gp,0,none⟩),.slice s.a s.len s.cap] [.c (.int .u32),.c (.int .i64)] K h:=by
 refine Bl (some ⟨gp,0,none⟩) s ?_;unfold uu aZ dI HT fj;refine CondP.intro (fun e=>by cases e) fun _=>Sf t ?_
 refine CondP.intro (fun a=>?_) fun a=>?_
 ·have a:AA ps≠0:=by simpa using a
  rw[show oJ L nx ps=_ from if_pos a]at d
  exact d h (Upd.refl _ _) g
 ·have a:¬AA ps≠0:=by simpa using a
  refine Qc g t (by omega) fun h' i=>?_
  refine CondP.intro (fun c=>?_) fun c=>?_
  ·have c:tL L ps≠0:=by simpa using c
   rw[show oJ L nx ps=_ from(if_neg a).trans (if_pos c)]at d
   exact d h' i.wide (g.upd0 i)
  ·have c:¬tL L ps≠0:=by simpa using c
   have f:=g.upd0 i;have p:=t.upd i fun _ h=>h.elim
   refine⟨_,rfl,_,f.c1,aD (fun n=>?_) fun n=>?_⟩
   ·rw[show oJ L nx ps=_ from(if_neg a).trans ((if_neg c).trans (if_pos n))]at d
    exact d h' i.wide f
   ·refine⟨_,rfl,_,f.c1,_,rfl,_,f.c0,QA p w fun s' k y j _=>?_⟩
    have u:=f.upd0 j;obtain⟨m,hm,E⟩:=u.map;have q:Nums W k s' ps:=y.sl fun b A _ v=>absurd (f.lt b v) (oU.2 A)
    obtain⟨B,C,x,z,_⟩:=u.put q o (nx+1);refine⟨u.c0,_,rfl,hm.isMap,_,rfl,_,z,_,rfl,x,?_⟩;rw[show IntKind.wrap .u32 (nx+1)=nx+1 from Go.IntWalk.u32_in _ (by omega)]
    rw[show oJ L nx ps=_ from(if_neg a).trans ((if_neg c).trans (if_neg n))]at d
    exact d _ ((i.wide.tr j.wide).tr C) B
end Go.Proofs
namespace Go.Proofs
open Go.Lift
theorem Se{h:ac}{K:Option Addr→ac→Prop}(d:∀h',Upd No h h'→GraphAt (FI (h.size+1) h.size) h' (h.size+1) h.size [] 1→K (some ⟨h.size+1,0,none⟩) h'):
  HC PG dx [] [.c .ptr] K h:=by
 refine KT ?_;unfold DI;have k1:=Upd.push No h (.map #[] 0);have hm:MapAt KE sv (h.push (.map #[] 0)) h.size []:=MapAt.new h;have c:=Upd.hnew No (h.push (.map #[] 0)) [.map (some h.size),.int .u32 1] gM;have a:(h.push (.map #[] 0)).size=h.size+1:=by simp
 have:=d _ (k1.tr c) ⟨by
  have:=bE (h.push (.map #[] 0)) [.map (some h.size),.int .u32 1] gM
  rw[a]at this;exact this,⟨[],hm.upd c id,fun id=>.inr ⟨rfl,rfl⟩⟩,.inl rfl,.inr rfl,fun b e=>by rw[gt,a];rcases e with rfl|rfl<;>omega,List.nodup_nil⟩
 rw[←a]at this;exact this
end Go.Proofs
namespace Go.Proofs
open Go.Lift
theorem Ax:∀xs:List Int,ce (xs.flatMap u32)=true
 | []=>rfl
 |x::xs=>by rw[aK];exact Ax xs
abbrev parV(L:fp)(id:Int):List Int:=(bQ L id).getD []
inductive UpG(L:fp):Int→Int→Prop
 |refl {a:Int}:a∈oY L→UpG L a a
 |step {a p b:Int}:a∈oY L→p∈parV L a→UpG L p b→UpG L a b
theorem UpG.left{L:fp}{a b:Int}(h:UpG L a b):a∈oY L:=by cases h<;>assumption
theorem GraphAt.more{W Q:Nat→Prop}{c h:ac}{gp gm:Nat}{L:fp}{nx:Int}(g:GraphAt W c gp gm L nx)(k:Upd No c h)(d:∀b,Q b→c.size≤b∧b<h.size):GraphAt (fun b=>W b∨Q b) h gp gm L nx:=by
 obtain⟨m,hm,f⟩:=g.map;refine⟨k.get0 g.blk,⟨m,hm.upd k id,fun j=>?_⟩,.inl g.wp,.inl g.wm,fun b a=>a.elim (fun a=>aC (g.lt b a) k.size) fun a=>(d b a).2,g.nd⟩
 rcases f j with⟨s,ps,n,e,i⟩|c
 ·exact .inl ⟨s,ps,n,e,(i.less fun b a=>a.imp id fun a=>(d b a).1).upd k fun _ h=>h.elim⟩
 ·exact .inr c
theorem GraphAt.less{W W':Nat→Prop}{h:ac}{gp gm:Nat}{L:fp}{nx:Int}(g:GraphAt W h gp gm L nx)(e:∀b,W' b→W b)(d:W' gp)(a:W' gm):GraphAt W' h gp gm L nx:=by
 obtain⟨m,hm,f⟩:=g.map;refine⟨g.blk,⟨m,hm,fun j=>?_⟩,d,a,fun b c=>g.lt b (e b c),g.nd⟩
 rcases f j with⟨s,ps,d,a,k⟩|i
 ·exact .inl ⟨s,ps,d,a,k.less fun b c=>.inl (e b c)⟩
 ·exact .inr i
theorem OwnS.popG{α:Type}{f:α→List Value}{d:Nat}{t:TypeId}{M:Nat→Prop}{h:ac}{a:Option Addr}{len cap:Nat}{xs:List α}{x:α}(e:OwnS f d t M h ⟨a,len,cap⟩ (xs++ [x])){n:Nat}(o:n=xs.length):OwnS f d t M h ⟨aJ a 0 cap d,n-0,cap-0⟩ xs:=by
 have m:len=(xs++ [x]).length:=e.len;have k:len≤cap:=e.cap;rw[ad,bd]at m;subst o;refine⟨rfl,e.ne,by show xs.length-0≤cap-0;omega,?_⟩
 rcases e.blk with j|⟨b,c,g,p,hc,i⟩
 ·have j:cap=0:=j
  omega
 ·have g:a=some ⟨b,0,none⟩:=g
  have i:c.length=(cap-len)*d:=i;refine .inr ⟨b,f x++c,?_,p,?_,?_⟩
  ·show aJ a 0 cap d=_
   unfold aJ;rw[if_neg (by omega),g];simp
  ·rw[hc,List.flatMap_append,aK,List.flatMap_nil,aX,List.append_assoc]
  ·show(f x++c).length=(cap-0-(xs.length-0))*d
   rw[ad,(e.ne x).1,i,show cap-0-(xs.length-0)=(cap-len)+1 by omega,Nat.succ_mul];omega
theorem vN:∀{l l':List Int},l.Nodup→(∀x∈l,x∈l')→l.length≤l'.length
 | [],_,_,_=>bS _
 |x::l,l',hn,h=>by
  rw[il]at hn;have hx:=h x (au ..);have:=vN (l':=l'.erase x) hn.2 fun y c=>(List.mem_erase_of_ne (a:=y) (b:=x) fun e=>hn.1 (by rw[←e];exact c)).2 (h y (az _ c))
  rw[List.length_erase_of_mem hx]at this;have:0<l'.length:=List.length_pos_of_mem hx;rw[ao];omega
theorem Ow{W Q:Nat→Prop}{h:ac}{gp gm:Nat}{L:fp}{nx:Int}(g:GraphAt W h gp gm L nx)(hQ:∀b,Q b→W b∧b≠gp∧b≠gm)(hP:∀v∈L,v.2.length≤2)(hL:L.length≤100000)
  {s:SliceV}{start:List Int}(hs:OwnS u32 1 jf (fun b=>Q b∨h.size≤b) h s start)(hn:start.length≤1000000000)
  {K:Option Nat→ac→Prop}(hk:∀r h' m,h.size≤r→MapAt KE (fun n:Int=>.int .i64 n) h' r m→(∀y,y∈m.map (·.1)↔∃s∈start,UpG L s y)→(∀y v,bQ m y=some v→v=1)→Upd Q h h'→K (some r) h'):
  HC PG fV [.pointer (some ⟨gp,0,none⟩),.slice s.a s.len s.cap] [.c .map] K h:=by
 refine yA (some ⟨gp,0,none⟩) s ?_;unfold rX aZ cp K7;have k0:=Upd.push No h (.map #[] 0);have hPl:∀id,(parV L id).length≤2:=fun id=>by
  cases hl:bQ L id with
  |none=>simp[parV,hl]
  |some ps=>simp only[parV,hl,Option.getD_some];exact hP _ ((mJ g.nd).1 hl)
 refine LoopP.ghost (fun(u:List Int×List (Int×Int)) (t:SliceV) h'=>Upd (fun b=>Q b∨h.size≤b) h h'∧OwnS u32 1 jf (fun b=>(Q b∨h.size≤b)∧b≠h.size) h' t u.1∧MapAt KE (fun n:Int=>.int .i64 n) h' h.size u.2∧
   (∀y v,bQ u.2 y=some v→v=1)∧u.1.length≤start.length+2*u.2.length∧
   (∀y∈u.2.map (·.1),y∈oY L∧∃s∈start,UpG L s y)∧(∀x∈u.1,∀y,UpG L x y→∃s∈start,UpG L s y)∧
   (∀s∈start,s∈oY L→s∈u.2.map (·.1)∨s∈u.1)∧(∀y∈u.2.map (·.1),∀p∈parV L y,p∈oY L→p∈u.2.map (·.1)∨p∈u.1))
  (fun u=>(L.length-u.2.length)*3+u.1.length) (start,[]) ?_ ?_
 ·refine⟨k0.wide,?_,MapAt.new h,fun y v e=>(by cases e),Nat.le_add_right _ _,fun y j=>(by cases j),fun x hx y j=>⟨x,hx,j⟩,fun s hs _=>.inr hs,fun y j=>(by cases j)⟩
  have:=hs.upd k0 fun _ _=>id
  refine⟨this.len,this.ne,this.cap,?_⟩;rcases hs.blk with C|⟨b,rest,e1,e2,e3,e4⟩
  ·exact .inl C
  ·exact .inr ⟨b,rest,e1,⟨e2,Nat.ne_of_lt (bo e3)⟩,k0.get0 e3,e4⟩
 ·rintro I ⟨q,m⟩ t h' ⟨hu,O,hm,o,k,d,G,f,H⟩ hI
  have g1:=g.upd hu fun b C=>C.imp (hQ b) id
  simp only at O hm o k d G f H;refine aD (fun J=>?_) fun Y=>?_
  ·rw[O.len]at J
   obtain⟨xs,x,rfl⟩:∃xs x,q=xs++ [x]:=by
    rcases List.eq_nil_or_concat q with e|⟨xs,x,e⟩
    ·subst e;simp at J
    ·exact⟨xs,x,by rw[e,List.concat_eq_append]⟩
   have Z:t.len=xs.length+1:=by rw[O.len];simp
   have hw:IntKind.wrap .i64 ((t.len:Int)-1)=(xs.length:Int):=by
    rw[Go.IntWalk.i64_in _ ?_,Z]
    ·omega
    ·rw[Z];simp only[ad,bd]at k
     have:m.length≤L.length:=by
      have:=vN (hm.nodup) (fun y j=>(d y j).1)
      simpa using this
     omega
   rw[hw];have hmL:m.length≤L.length:=by
    have:=vN (hm.nodup) (fun y j=>(d y j).1)
    simpa using this
   have hsl:Nums No h' t (xs++ [x]):=O.sl fun _ _ _=>id
   obtain⟨a,ha,_,hx⟩:=Nums.at hsl (i:=xs.length) (by simp);rw[show(xs++ [x])[xs.length]=x by simp]at hx
   have hcap:=O.cap;have hop:OwnS u32 1 jf (fun b=>(Q b∨h.size≤b)∧b≠h.size) h' ⟨aJ t.a 0 t.cap 1,((xs.length:Int)).toNat-0,t.cap-0⟩ xs:=OwnS.popG O (by simp)
   refine⟨by rw[Z];omega,a,ha,_,hx,by omega,?_⟩
   have skip:(¬x∈oY L∨x∈m.map (·.1))→I ⟨aJ t.a 0 t.cap 1,((xs.length:Int)).toNat-0,t.cap-0⟩ h':=fun hsk=>by
    refine hI (xs,m) _ _ ⟨hu,hop,hm,o,?_,d,fun z Y=>G z (by simp[Y]),fun s hs A=>?_,fun y j p hp E=>?_⟩ (by simp)
    ·simp only[ad,bd]at k⊢;omega
    ·rcases f s hs A with c|c
     ·exact .inl c
     ·rcases aN.1 c with c|c
      ·exact .inr c
      ·rw[av.1 c]at A⊢
       exact .inl (hsk.resolve_left fun h=>h A)
    ·rcases H y j p hp E with c|c
     ·exact .inl c
     ·rcases aN.1 c with c|c
      ·exact .inr c
      ·rw[av.1 c]at E⊢
       exact .inl (hsk.resolve_left fun h=>h E)
   refine Join.intro (fun t2 N=>N=h'∧(t2=true→(¬x∈oY L∨x∈m.map (·.1)))∧(t2=false→x∈oY L∧x∉m.map (·.1))) (fun R hR=>?_) ?_
   ·refine IA g1 x (CondP.intro (fun c=>?_) fun c=>?_)
    ·have c:¬x∈oY L:=by simpa using c
     exact hR _ _ ⟨rfl,fun _=>.inl c,fun e=>by cases e⟩
    ·have c:x∈oY L:=by simpa using c
     refine⟨_,_,hm.get x 0,hR _ _ ⟨rfl,?_⟩⟩;cases hl:bQ m x with
     |none=>exact⟨fun e=>(by simp at e),fun _=>⟨c,ij.1 hl⟩⟩
     |some v=>
      have:=o x v hl;subst this;refine⟨fun _=>.inr ?_,fun e=>(by simp at e)⟩
      exact bG.2 ⟨_,(mJ hm.nodup).1 hl,rfl⟩
   ·rintro t2 N ⟨rfl,e1,e2⟩
    refine CondP.intro (fun e=>skip (e1 e)) fun e=>?_
    obtain⟨B,P⟩:=e2 e;refine⟨_,_,hm.get x 0,_,rfl,hm.isMap,?_⟩;rw[ij.2 P,show IntKind.wrap .i64 ((none:Option Int).getD 0+1)=1 by decide]
    have U:=hm.put x 1;have k1:Upd (fun b=>Q b∨h.size≤b) N (oz N h.size (.int .u32 x) (.int .i64 1)):=sy _ _ _ (.inr (al _))
    have k1':Upd (· =h.size) N (oz N h.size (.int .u32 x) (.int .i64 1)):=sy _ _ _ rfl
    have V:=hu.tr k1;have g2:=g.upd V fun b C=>C.imp (hQ b) id
    have ho2:OwnS u32 1 jf (fun b=>(Q b∨h.size≤b)∧b≠h.size) _ _ xs:=hop.upd k1' fun b C=>C.2
    obtain⟨gmm,hgm,hr⟩:=g2.map;have hml:(pC m x 1).length=m.length+1:=by
     have:=congrArg jG (yo m x 1);rw[if_neg P]at this;simpa using this
    have w:(pC m x 1).map (·.1)=m.map (·.1)++ [x]:=by rw[yo,if_neg P]
    have hmL2:m.length+1≤L.length:=by
     have:=vN U.nodup (l':=oY L) (fun y j=>by
      rw[w]at j
      rcases aN.1 j with c|c
      ·exact(d y c).1
      ·rw[av.1 c];exact B)
     rw[w]at this;simpa using this
    have X:∀y v,bQ (pC m x 1) y=some v→v=1:=fun y v hv=>by
     rw[HB]at hv;split at hv
     ·cases hv;rfl
     ·exact o y v hv
    have upx:∀y,UpG L x y→∃s∈start,UpG L s y:=G x (by simp);refine⟨_,rfl,_,g2.c0,_,_,hgm.get x ⟨none,0,0⟩,?_⟩;rcases hr x with⟨sl,ps,l1,l2,hps⟩|⟨_,l2⟩
    ·rw[l1]
     have D:parV L x=ps:=by simp[parV,l2]
     refine⟨_,hps.srow,?_⟩;have hpl:=hPl x;rw[D]at hpl;refine AppP.own ho2 hps.len rfl (Ax ps) rfl (by omega) ?_ ⟨.inr V.size,?_⟩ fun s' h3 ho3 k3=>?_
     ·simp only[ad,bd]at k;omega
     ·exact Nat.ne_of_gt U.lt
     ·have hu3:=V.tr (k3.mono fun b C=>.inl C.1)
      refine hI (xs++ps,pC m x 1) _ _ ⟨hu3,ho3,U.upd k3 (fun h=>h.2 rfl),X,?_,?_,?_,?_,?_⟩ ?_
      ·simp only[ad,bd]at k⊢;rw[hml];omega
      ·intro y j
       simp only[w]at j;rcases aN.1 j with c|c
       ·exact d y c
       ·rw[av.1 c];exact⟨B,upx x (.refl B)⟩
      ·intro z Y y hzy
       rcases aN.1 Y with c|c
       ·exact G z (by simp[c]) y hzy
       ·exact upx y (.step B (by rw[D];exact c) hzy)
      ·intro s1 T A
       simp only[w];rcases f s1 T A with c|c
       ·exact .inl (bU _ c)
       ·rcases aN.1 c with c|c
        ·exact .inr (bU _ c)
        ·exact .inl (cD _ c)
      ·intro y j p hp E
       simp only[w]at j⊢;rcases aN.1 j with c|c
       ·rcases H y c p hp E with F|F
        ·exact .inl (bU _ F)
        ·rcases aN.1 F with F|F
         ·exact .inr (bU _ F)
         ·exact .inl (cD _ F)
       ·rw[av.1 c,D]at hp
        exact .inr (cD _ hp)
      ·show(L.length-(pC m x 1).length)*3+(xs++ps).length<(L.length-m.length)*3+(xs++ [x]).length
       rw[hml,ad,ad,bd];omega
    ·exact absurd B (ij.1 l2)
  ·have Y:q= []:=by
    rw[O.len]at Y;exact List.length_eq_zero_iff.1 (by omega)
   subst Y;refine hk _ _ m (al _) hm (fun y=>⟨fun j=>(d y j).2,?_⟩) o (hu.mono fun b C=>C)
   rintro⟨s1,T,hup⟩;have hup':∀a b,UpG L a b→a∈m.map (·.1)→b∈m.map (·.1):=by
    intro a b hab;induction hab with
    |refl _=>exact id
    |step c N h3 ih=>
     intro F;rcases H _ F _ N h3.left with S|S
     ·exact ih S
     ·cases S
   rcases f s1 T hup.left with S|S
   ·exact hup' _ _ hup S
   ·cases S
end Go.Proofs
namespace Go.Proofs
open Go.Lift
abbrev iv(n:Int):Value:=.int .i64 n
theorem Ta{M:Nat→Prop}(h:ac)(x:Int)(a:M h.size):OwnS u32 1 jf M (hnew h [.int .u32 x] jf) ⟨some (aO h),1,1⟩ [x]:=
 ⟨rfl,vL,al _,.inr ⟨h.size,[],rfl,a,bE ..,rfl⟩⟩
structure Small(L:fp):Prop where
 two:∀v∈L,v.2.length≤2
 len:L.length≤100000
theorem zw{W:Nat→Prop}{h:ac}{gp gm:Nat}{L:fp}{nx:Int}(g:GraphAt W h gp gm L nx)(f:Small L)(a:Int)
  {K:Option Nat→ac→Prop}(n:∀r h' m,h.size≤r→MapAt KE iv h' r m→(∀y,y∈m.map (·.1)↔UpG L a y)→(∀y v,bQ m y=some v→v=1)→Upd No h h'→K (some r) h'):
  HC PG fV [.pointer (some ⟨gp,0,none⟩),.slice (some (aO h)) 1 1] [.c .map] K (hnew h [.int .u32 a] jf):=by
 have k:=Upd.hnew No h [.int .u32 a] jf;have p:=g.more (Q:=(· =h.size)) k fun b c=>by rw[gt];omega
 have d:∀b,W b→b≠h.size:=fun b c e=>absurd (g.lt b c) (by omega)
 refine Ow (Q:=(· =h.size)) p (fun b c=>⟨.inr c,fun e=>d _ g.wp (e▸c),fun e=>d _ g.wm (e▸c)⟩) f.two f.len (s:=⟨some (aO h),1,1⟩) (Ta h a (.inl rfl)) (by simp) fun r h' m j hm i q o=>?_
 refine n r h' m (by rw[gt]at j;omega) hm (fun y=>(i y).trans ?_) q (k.trans o fun b c=>.inr (di c.symm))
 simp
theorem Ox{W:Nat→Prop}{h:ac}{gp gm:Nat}{L:fp}{nx:Int}(g:GraphAt W h gp gm L nx)(e:Small L)(a c:Int)
  {K:Bool→ac→Prop}(f:∀b h',(b=true↔UpG L a c)→Upd No h h'→K b h'):
  HC PG ni [.pointer (some ⟨gp,0,none⟩),.int .u32 a,.int .u32 c] [.c .bool] K h:=by
 refine yB (some ⟨gp,0,none⟩) a c ?_;unfold rY;refine zw g e a fun r h' m k hm d j i=>⟨_,_,hm.get c 0,f _ _ ?_ i⟩
 rw[←d c];cases hl:bQ m c with
 |none=>simp[ij.1 hl]
 |some v=>
  rw[j c v hl];simp only[Option.getD_some,gt_iff_lt,Int.zero_lt_one,decide_true,true_iff];exact bG.2 ⟨_,(mJ hm.nodup).1 hl,rfl⟩
theorem FH{κ β:Type}[DecidableEq κ]{l:List (κ×β)}{k:κ}{v:β}(hm:(k,v)∈l):(w8 l k).length<l.length:=by
 unfold w8;exact List.length_filter_lt_length_iff_exists.2 ⟨_,hm,by simp⟩
theorem Gk{h:ac}{r:Nat}{m:List (Int×Int)}(hm:MapAt KE iv h r m){A:Value}(p:Int→Int→Bool)
  (Q:∀h' k v (K:Bool→ac→Prop),Upd (· =r) h h'→bQ m k=some v→(∀t,Upd No h' t→K (p k v) t)→HV PG A [.int .u32 k,.int .i64 v] [.c .bool] K h')
  {K:Unit→ac→Prop}(S:∀h' m',Upd (· =r) h h'→MapAt KE iv h' r m'→(∀y,bQ m' y=(bQ m y).filter fun v=> !p y v)→K () h'):
  HC PG fg [.map (some r),A] [] K h:=by
 refine nX (some r) A ?_;unfold iM m9;obtain⟨c,⟨es,J⟩,E⟩:=hm.range;refine⟨c,.inr ⟨r,es,rfl,J⟩,?_⟩;refine LoopP.ghost (fun(n:List (Int×Int)×List (Int×Int)) (_:Unit) h'=>IterSt KE iv h' h.size r n.1 n.2∧Upd (· =r) h h'∧(∀y v,bQ n.2 y=some v→bQ m y=some v)∧
   (∀y,bQ n.1 y=if(bQ n.2 y).isSome then bQ m y else(bQ m y).filter fun v=> !p y v)) (fun n=>n.2.length) (m,m) ⟨E,(Upd.push _ h _),fun _ _ e=>e,fun y=>?_⟩ ?_
 ·cases bQ m y<;>simp
 ·rintro I ⟨F,d⟩ ⟨⟩ h' ⟨hi,N,w,a⟩ L
  simp only at hi w a;have C:=hi.nodup;refine NextP.at (M:=(· =h.size)) hi rfl (fun P=>?_) fun k v g e t ek O D B G=>?_
  ·subst P
   refine S h' F N hi.at fun y=>?_
   rw[a y];rfl
  ·refine⟨rfl,e,k,v,D,ek,O,?_⟩
   have u:Upd (· =r) h t:=N.trans G fun b R=>.inr (di R.symm)
   have o:bQ d k=some v:=(mJ C).2 g;have i:=w k v o;refine Q t k v _ u i fun T q=>?_
   have j:=B.upd q id id;have s:=u.tr q.wide;refine CondP.intro (fun z=>?_) fun z=>?_
   ·refine .inr ⟨r,rfl,j.at.isMap,?_⟩
    have H:=j.del k;refine L (w8 F k,w8 (w8 d k) k) () _ ⟨H,s.tr (GJ _ _ rfl),fun y x f=>?_,fun y=>?_⟩ ?_
    ·simp only[su]at f
     split at f
     ·cases f
     ·exact w y x f
    ·simp only[su]
     by_cases f:y=k
     ·subst f;rw[if_pos rfl,if_pos rfl,i];simp[Option.filter,z]
     ·simp only[f,if_false];exact a y
    ·show(w8 (w8 d k) k).length<d.length
     exact gH (List.length_filter_le ..) (FH g)
   ·refine L (F,w8 d k) () _ ⟨j,s,fun y x f=>?_,fun y=>?_⟩ (FH g)
    ·simp only[su]at f
     split at f
     ·cases f
     ·exact w y x f
    ·simp only[su]
     by_cases f:y=k
     ·subst f;rw[if_pos rfl,a y,o,i];simp[Option.filter,z]
     ·simp only[f,if_false];exact a y
theorem Qb{W:Nat→Prop}{h:ac}{gp gm:Nat}{L:fp}{nx:Int}(g:GraphAt W h gp gm L nx)(hs:Small L)(a b:Int)
  {K:Int×Bool→ac→Prop}(hk:∀best h',(∀c,UpG L a c→UpG L b c→c≤best)→(best=0∨UpG L a best∧UpG L b best)→0≤best→Upd No h h'→K (best,decide (best>0)) h'):
  HC PG oF [.pointer (some ⟨gp,0,none⟩),.int .u32 a,.int .u32 b] [.c (.int .u32),.c .bool] K h:=by
 refine zZ (some ⟨gp,0,none⟩) a b ?_;unfold tu;refine zw g hs a fun r1 h3 m1 hr1 x hy1 ho1 G=>?_
 have g3:=g.upd0 G;refine zw g3 hs b fun N f H hr2 w X ho2 n=>?_
 have q:=x.upd n id;have k7:=Upd.hnew No f [.map none] kf;have T:=bE f [.map none] kf;refine⟨by rw[cr];exact gn T (by simp),?_⟩;have k8:Upd (· =f.size) (hnew f [.map none] kf) (hset (hnew f [.map none] kf) (aO f) (.map (some N))):=Upd.hset _ _ rfl
 have b8:(hset (hnew f [.map none] kf) (aO f) (.map (some N)))[f.size]? =some (.cells #[.map (some N)] kf (0,0)):=by
  rw[cr,qP T,fF T];rfl
 have s:Upd No f (hset (hnew f [.map none] kf) (aO f) (.map (some N))):=k7.trans k8 fun b J=>.inr (di J.symm)
 have l1:=x.lt;have l2:=w.lt;have l6:=q.lt;refine Gk (q.upd s id) (fun k _=>decide ((bQ H k).getD 0=0)) (fun h' k v K' O hk1 hk'=>?_) fun m A F U z=>?_
 ·refine HV.mk' (xU k v ⟨f.size,0,none⟩ ?_)
  unfold rj;have E:=(w.upd s id).upd O (fun e=>by omega)
  refine⟨some N,by rw[aL (O.get b8 (by omega))];rfl,_,_,E.get k 0,?_⟩
  have e:((bQ H k).getD 0==(0:Int))=decide ((bQ H k).getD 0=0):=by
   rw[lr,decide_eq_true_iff];simp
  rw[e];exact hk' h' (Upd.refl _ _)
 ·have Q:∀y,(∃v,bQ A y=some v)↔UpG L a y∧UpG L b y:=fun y=>by
   rw[z y,←hy1 y,←X y];cases C:bQ m1 y with
   |none=>simp[ij.1 C]
   |some v=>
    have R:y∈m1.map (·.1):=bG.2 ⟨_,(mJ x.nodup).1 C,rfl⟩
    cases j:bQ H y with
    |none=>simp[ij.1 j,Option.filter]
    |some u=>
     have Z:y∈H.map (·.1):=bG.2 ⟨_,(mJ w.nodup).1 j,rfl⟩
     have:=ho2 y u j;subst this;simp only[R,Z,and_self,iff_true];exact⟨v,rfl⟩
  have o:Upd No h m:=((G.tr n).tr s).trans F fun b J=>.inr (by omega)
  obtain⟨c,⟨es,hes⟩,hi0⟩:=U.range;refine⟨c,.inr ⟨r1,es,rfl,hes⟩,?_⟩;refine LoopP.ghost (fun(d:List (Int×Int)) (t:Int) h'=>IterSt KE iv h' m.size r1 A d∧Upd No h h'∧(∀y v,bQ A y=some v→bQ d y=none→y≤t)∧(t=0∨∃v,bQ A t=some v)∧0≤t∧
    (∀y v,bQ d y=some v→bQ A y=some v)) (fun d=>d.length) A ⟨hi0,o.tr (Upd.push _ _ _),fun y v C j=>(by rw[C]at j;cases j),.inl rfl,pe _,fun _ _ e=>e⟩ ?_
  rintro I d t h' ⟨hi,O,P,i,h0,p⟩ hI;have Y:=hi.nodup;have hge:h.size≤m.size:=o.size;refine NextP.at (M:=(· =m.size)) hi rfl (fun he=>?_) fun k v D e h2 ek ev hit V n=>?_
  ·subst he
   refine hk t h' (fun c R Z=>?_) ?_ h0 O
   ·obtain⟨v,hv⟩:=(Q c).2 ⟨R,Z⟩
    exact P c v hv rfl
   ·exact i.imp id fun J=>(Q t).1 J
  ·have S:bQ d k=some v:=(mJ Y).2 D
   refine⟨rfl,e,k,v,hit,ek,ev,hI (w8 d k) _ _ ⟨V,O.trans n fun b J=>.inr (by omega),fun y u C j=>?_,?_,?_,fun y u B=>?_⟩ (FH D)⟩
   ·rw[su]at j
    split at j
    ·rename_i B;subst B;split<;>omega
    ·have:=P y u C j;split<;>omega
   ·split
    ·exact .inr ⟨v,p k v S⟩
    ·exact i
   ·split<;>omega
   ·rw[su]at B
    split at B
    ·cases B
    ·exact p y u B
end Go.Proofs
namespace Go.Proofs
open Go.Lift
structure Good(L:fp):Prop extends Small L where
 up:(oY L).Pairwise (· < ·)
 par:∀v∈L,∀p∈v.2,p∈oY L∧p<v.1
theorem Good.nd{L:fp}(g:Good L):(oY L).Nodup:=g.up.imp fun h=>Int.ne_of_lt h
theorem Good.parV{L:fp}(g:Good L){a p:Int}(h:p∈parV L a):p∈oY L∧p<a∧a∈oY L:=by
 unfold Proofs.parV at h;cases hl:bQ L a with
 |none=>rw[hl]at h;simp at h
 |some ps=>
  rw[hl]at h;have hm:=(mJ g.nd).1 hl;have:=g.par _ hm p (by simpa using h);exact⟨this.1,this.2,bG.2 ⟨_,hm,rfl⟩⟩
theorem UpG.snoc{L:fp}{a z w:Int}(h:UpG L a z)(b:w∈Proofs.parV L z)(hi:w∈oY L):UpG L a w:=by
 induction h with
 |refl h1=>exact .step h1 b (.refl hi)
 |step h1 h2 _ ih=>exact .step h1 h2 (ih b)
theorem UpG.right{L:fp}{a b:Int}(h:UpG L a b):b∈oY L:=by
 induction h with
 |refl h=>exact h
 |step _ _ _ ih=>exact ih
theorem UpG.last{L:fp}{a b:Int}(h:UpG L a b):b=a∨∃z,UpG L a z∧b∈Proofs.parV L z:=by
 induction h with
 |refl _=>exact .inl rfl
 | @step a p b h1 h2 h3 ih=>
  rcases ih with rfl|⟨z,c,d⟩
  ·exact .inr ⟨a,.refl h1,h2⟩
  ·exact .inr ⟨z,.step h1 h2 c,d⟩
theorem UpG.le{L:fp}(g:Good L){a b:Int}(h:UpG L a b):b≤a:=by
 induction h with
 |refl _=>exact pe _
 |step _ h2 _ ih=>have:=(g.parV h2).2.1;omega
theorem UpG.trans{L:fp}{a b c:Int}(h:UpG L a b)(k:UpG L b c):UpG L a c:=by
 induction h with
 |refl _=>exact k
 |step h1 h2 _ ih=>exact .step h1 h2 (ih k)
end Go.Proofs
