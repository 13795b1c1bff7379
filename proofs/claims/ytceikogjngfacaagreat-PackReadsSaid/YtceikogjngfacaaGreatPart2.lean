/- A part of the proof that the named laws of this program answer true, whatever the input. -/
import Derived.Test.YtceikogjngfacaaGreatPart1
import Derived.Test.YtceikogjngfacaaGreatLift3
open BitVec renaming ofInt→az,ofInt_natCast→iu
open Bool renaming false_eq_true→bS
open Go.IntKind renaming wrap→ac,bits→aj
open Iff renaming rfl→xH
open Int renaming toNat_natCast→bQ
open List renaming flatMap_append→cQ,range→eR,map_append→cj,sum_append→rR,map_cons→bJ,map_nil→nu,sum_cons→qx,length_cons→av,length_append→af,mem_filterMap→oK,mem_singleton→aq,mem_cons_self→aD,pairwise_cons→bF,mem_cons→ar,mem_cons_of_mem→aA,zip_cons_cons→ll,mem_append→be,length_take→aL,zip_eq_zipWith→nL,length_drop→aW,set_eq_take_append_cons_drop→fZ,getElem?_eq_getElem→ag,length_singleton→aI,mem_map→bI,pairwise_append→bW,lt_irrefl→uh,take_of_length_le→bL,length_eq_zero_iff→ax,cons_append→dF,drop_drop→cW,filter_append→jC,mem_filter→dG,append_nil→bi,nil_append→bZ,append_assoc→aw,flatMap_cons→aZ,length_set→lW,getElem?_set→pK,getElem?_eq_none→me,getElem?_append_right→aH,getElem?_append_left→bw,getElem?_eq_some_iff→bv
open List.Pairwise renaming nil→dh
open Nat renaming le_refl→ai,add_zero→eY,zero_le→aY,zero_add→bK,lt_or_ge→dB,mod_eq_of_lt→gR,mul_comm→gf,add_comm→xF,pow_succ→kh,min_eq_left→cr,pow_le_pow_right→ip,mul_le_mul_right→eo
open Option renaming some→bX,map_eq_some_iff→lh
open Prod renaming mk→ou
namespace Go.Proofs
open Go Go.Lift
theorem VJ{α:Type}{f:α→List Value}{sz bytes:Nat}{t:TypeId}{W:Nat→Prop}{h:ae}{c:Option Addr}{sl p m:Nat}{xs ys:List α}{g z:List Value}{K:SliceV→ae→Prop}
  (q:Sl f sz W h ⟨c,sl,p⟩ xs)(o:m=ys.length)(j:g=ys.flatMap f)(v:z.length=sz)(u:0<bytes)(i:p<sl+m)(e:(xs.length+ys.length)*bytes≤140737488355328)
  (s:∀s' h',OwnS f sz t (fun b=>h.size≤b) h' s' (xs++ys)→Upd No h h'→K s' h'):AppP (some z) sz bytes t c sl p m g h K:=by
 have d:sl=xs.length:=q.len;subst o j;refine⟨fun x=>by omega,fun _=>?_⟩
 refine⟨xs.flatMap f,z,q.srow,rfl,u,Go.growslice_fits i (by rw[d];exact e),fun w n=>?_⟩
 refine s _ _ ⟨by simp[d],q.ne,n,.inr ⟨h.size,fb (w-(sl+ys.length)) z,rfl,ai _,?_,?_⟩⟩ (Upd.hnew No h _ _)
 ·rw[cO,cQ]
 ·rw[qE,v]
end Go.Proofs
namespace Go.Proofs
open Go Go.Lift
def Fit(l:List Pr):Prop:=∀p∈l,p.1.size≤10000∧p.2.size≤10000
end Go.Proofs
namespace Go.Proofs
open Go Go.Lift
end Go.Proofs
namespace Go.Proofs
open Go Go.Lift
def K7(l:List Pr):Option Pr:=match l with| [p]=>some p|_=>none
def DU(l:List Pr):Option (List Pr):=if 2≤l.length then some l else none
def EB(x:Hs)(lev:Nat)(l:List Pr):List Pr:=fm (fun c=>K7 (part x lev c l)) 32
def yF(x:Hs)(lev:Nat)(l:List Pr):List (List Pr):=fm (fun c=>DU (part x lev c l)) 32
theorem Yp{W:Nat→Prop}{x:Hs}{h:ae}{m:Nat}{s:Slots}{c:Nat}{l:List Pr}(t:SlotIs W x h m s c l):s.p c=K7 l∧(s.k c).isSome=(DU l).isSome:=by
 rcases t with⟨rfl,d,h2⟩|⟨p,rfl,d,h2⟩|⟨e,d,f,h2,_⟩
 ·rw[d,h2];exact⟨rfl,rfl⟩
 ·rw[d,h2];exact⟨rfl,rfl⟩
 ·rw[d,h2]
  refine⟨?_,by simp[DU,e]⟩
  match l,e with
  |a::b::l,_=>rfl
def KidsAt(W:Nat→Prop)(x:Hs)(h:ae)(m:Nat):List (Option Addr)→List (List Pr)→Prop
 | [],[]=>True
 |k::ks,l::ls=>(∃kb,k=some ⟨kb,0,none⟩∧TrieAt W x h m kb l)∧KidsAt W x h m ks ls
 |_,_=>False
theorem KidsAt.app{W:Nat→Prop}{x:Hs}{h:ae}{m:Nat}:∀{ks ks':List (Option Addr)} {ls ls':List (List Pr)},KidsAt W x h m ks ls→KidsAt W x h m ks' ls'→KidsAt W x h m (ks++ks') (ls++ls')
 | [],_,[],_,_,q=>q
 |_::_,_,_::_,_,q,q'=>⟨q.1,KidsAt.app q.2 q'⟩
 | [],_,_::_,_,q,_=>q.elim
 |_::_,_,[],_,q,_=>q.elim
theorem F3{β:Type}(g:Nat→Option β)(n:Nat):fm g (n+1)=fm g n++(g n).toList:=by
 unfold fm;rw[List.range_succ,List.filterMap_append];cases h:g n<;>simp[h]
theorem UJ{W:Nat→Prop}{x:Hs}{h:ae}{m lev:Nat}{s:Slots}{l:List Pr}:∀n,(∀c,c<n→SlotIs W x h m s c (part x lev c l))→KidsAt W x h m (fm s.k n) (fm (fun c=>DU (part x lev c l)) n)
 |0,_=>trivial
 |n+1,hs=>by
  rw[F3,F3];refine KidsAt.app (UJ n fun c hc=>hs c (by omega)) ?_
  rcases hs n (by omega)with⟨b,_,h2⟩|⟨p,b,_,h2⟩|⟨b,_,e,h2,d⟩
  ·rw[h2,b];exact trivial
  ·rw[h2,b];exact trivial
  ·rw[h2]
   have:DU (part x lev n l)=some (part x lev n l):=by unfold DU;rw[if_pos b]
   simp only[this];exact⟨⟨e,rfl,d⟩,trivial⟩
theorem WD{W:Nat→Prop}{x:Hs}{h:ae}{m lev:Nat}{s:Slots}{l:List Pr}(b:∀c,c<32→SlotIs W x h m s c (part x lev c l)):fm s.p 32=EB x lev l:=
 Z9 _ fun c hc=>(Yp (b c (List.mem_range.1 hc))).1
end Go.Proofs
namespace Go.Proofs
open Go Go.Lift
theorem DQ(x:Hs)(lev:Nat)(l:List Pr):∀n,(((eR n).map fun c=>(part x lev c l).length).sum)=(l.filter fun p=>decide (ck x lev p.1<n)).length
 |0=>by
  have:(l.filter fun p=>decide (ck x lev p.1<0))= []:=List.filter_eq_nil_iff.2 fun p _=>by simp
  rw[this];rfl
 |n+1=>by
  rw[List.range_succ,cj,rR,DQ x lev l n];simp only[bJ,nu,qx,List.sum_nil,eY];unfold part;clear DQ;induction l with
  |nil=>rfl
  |cons p l ih=>
   simp only[List.filter_cons,decide_eq_true_iff];split<;>split<;>split<;>first|omega|(simp only[av];omega)
theorem JE(x:Hs)(lev:Nat)(l:List Pr):(EB x lev l).length+(yF x lev l).flatten.length≤l.length:=by
 have h:=DQ x lev l 32;have d:(l.filter fun p=>decide (ck x lev p.1<32)).length≤l.length:=List.length_filter_le ..
 have:∀n,(fm (fun c=>K7 (part x lev c l)) n).length+(fm (fun c=>DU (part x lev c l)) n).flatten.length≤((eR n).map fun c=>(part x lev c l).length).sum:=by
  intro n;induction n with
  |zero=>simp[fm]
  |succ n ih=>
   rw[F3,F3,List.range_succ,cj,rR];simp only[af,List.flatten_append,bJ,nu,qx,List.sum_nil,eY];generalize part x lev n l=q;have:(K7 q).toList.length+(DU q).toList.flatten.length≤q.length:=by
    match q with
    | []=>simp[K7,DU]
    | [a]=>simp[K7,DU]
    |a::b::q=>simp[K7,DU]
   omega
 have:=this 32;unfold EB yF;omega
end Go.Proofs
namespace Go.Proofs
open Go Go.Lift
theorem SE{x:Hs}{lev:Nat}{l:List Pr}{p:Pr}(h:p∈EB x lev l):p∈l:=by
 unfold EB fm at h;obtain⟨c,_,hc⟩:=oK.1 h;unfold K7 at hc;split at hc
 ·rename_i q hq
  cases hc;have:p∈part x lev c l:=by rw[hq];exact aq.2 rfl
  exact(Cu.1 this).1
 ·cases hc
theorem J0{x:Hs}{lev:Nat}{l L:List Pr}(h:L∈yF x lev l):2≤L.length∧∃c,L=part x lev c l:=by
 unfold yF fm at h;obtain⟨c,_,hc⟩:=oK.1 h;unfold DU at hc;split at hc
 ·cases hc;exact⟨by assumption,c,rfl⟩
 ·cases hc
theorem Fit.part{x:Hs}{lev c:Nat}{l:List Pr}(h:Fit l):Fit (part x lev c l):=fun p b=>h p (Cu.1 b).1
end Go.Proofs
namespace Go.Proofs
open Go Go.Lift
end Go.Proofs
namespace Go.Proofs
open Go Go.Lift
theorem zK:∀{l l':List Pr},fE l→fE l'→(∀p,p∈l↔p∈l')→l=l'
 | [],[],_,_,_=>rfl
 | [],q::l',_,_,h=>absurd ((h q).2 (aD ..)) (by simp)
 |p::l,[],_,_,h=>absurd ((h p).1 (aD ..)) (by simp)
 |p::l,q::l',f,b,h=>by
  have f:=bF.1 f;have b:=bF.1 b;have e:p=q:=by
   rcases ar.1 ((h p).1 (aD ..))with e|i
   ·exact e
   ·rcases ar.1 ((h q).2 (aD ..))with e|g
    ·exact e.symm
    ·exact absurd (ii (f.1 q g) (b.1 p i)) (dS _)
  subst e;rw[zK f.2 b.2 fun z=>?_]
  constructor
  ·intro d
   rcases ar.1 ((h z).1 (aA _ d))with e|c
   ·exact absurd (f.1 z d) (by rw[e];exact dS _)
   ·exact c
  ·intro d
   rcases ar.1 ((h z).2 (aA _ d))with e|c
   ·exact absurd (b.1 z d) (by rw[e];exact dS _)
   ·exact c
end Go.Proofs
namespace Go.Proofs
open Go Go.Lift
def XU(b:ByteArray)(c:Bool)(val:ByteArray)(s:SliceV)(d:Option Addr):Array Value:= #[.string b,.bool c,.string val,sv s,.pointer d]
theorem vw{w:Option ByteArray}{val:ByteArray}(h:val=w.getD ⟨#[]⟩):∀v,w=some v→val=v:=fun v e=>by rw[h,e];rfl
def RxF(W:Nat→Prop)(h:ae):Fo→List (Option Addr)→Prop
 | .nil,ks=>ks= []
 | .cons lab w kids rest,ks=>∃b sl val s ow ks1 ks',ks=some ⟨b,0,none⟩::ks'∧sl.data.toList=lab∧h[b]? =some (.cells (XU sl w.isSome val s ow) 294 (0,0))∧val=w.getD ⟨#[]⟩∧Sl My 1 W h s ks1∧(s.len≤s.cap∧¬W b)∧RxF W h kids ks1∧RxF W h rest ks'
def RxN(W:Nat→Prop)(h:ae)(b:Nat)(sl:ByteArray)(w:Option ByteArray)(F:Fo):Prop:=∃val s ow ks,h[b]? =some (.cells (XU sl w.isSome val s ow) 294 (0,0))∧val=w.getD ⟨#[]⟩∧Sl My 1 W h s ks∧(s.len≤s.cap∧¬W b)∧RxF W h F ks
def Kid(W:Nat→Prop)(h:ae)(k:Option Addr)(n:Bn):Prop:=∃b sl,k=some ⟨b,0,none⟩∧sl.data.toList=n.1∧RxN W h b sl n.2.1 n.2.2
def RxL(W:Nat→Prop)(h:ae)(ks:List (Option Addr))(L:List Bn):Prop:=ks.length=L.length∧∀p∈ks.zip L,Kid W h p.1 p.2
theorem FT{W:Nat→Prop}{h:ae}:∀{F:Fo} {ks:List (Option Addr)},RxF W h F ks↔RxL W h ks F.toL
 | .nil,ks=>by
  unfold RxF RxL;simp[Fo.toL]
 | .cons lab w kids rest,ks=>by
  unfold RxF RxL;rw[Fo.toL_cons];constructor
  ·rintro⟨b,sl,val,s,q,d,f,rfl,u,i,n,j,o,m,x⟩
   obtain⟨z,y⟩:=FT.1 x;refine⟨by simp[z],fun p c=>?_⟩
   rw[ll]at c;rcases ar.1 c with rfl|c
   ·exact⟨b,sl,rfl,u,val,s,q,d,i,n,j,o,m⟩
   ·exact y p c
  ·cases ks with
   |nil=>rintro⟨e,_⟩;simp at e
   |cons k f=>
    rintro⟨e,c⟩;rw[ll]at c;obtain⟨b,sl,v,u,val,s,q,d,i,n,j,o,m⟩:=c _ (aD ..);refine⟨b,sl,val,s,q,d,f,by rw[←v],u,i,n,j,o,m,FT.2 ⟨by simpa using e,fun p g=>c p (aA _ g)⟩⟩
theorem RxF.upd0{W:Nat→Prop}{h c:ae}(k:Upd No h c):∀{F:Fo} {ks:List (Option Addr)},RxF W h F ks→RxF W c F ks
 | .nil,_,r=>r
 | .cons _ _ _ _,_,⟨b,sl,val,s,ow,ks1,ks',e0,e1,e2,e3,e4,e5,e6,e7⟩=>⟨b,sl,val,s,ow,ks1,ks',e0,e1,k.get0 e2,e3,e4.upd k fun _ h=>h.elim,e5,RxF.upd0 k e6,RxF.upd0 k e7⟩
theorem RxN.upd0{W:Nat→Prop}{h c:ae}(k:Upd No h c){b:Nat}{sl:ByteArray}{w:Option ByteArray}{F:Fo}:RxN W h b sl w F→RxN W c b sl w F
 |⟨val,s,ow,ks,e2,e3,e4,e5,e6⟩=>⟨val,s,ow,ks,k.get0 e2,e3,e4.upd k fun _ h=>h.elim,e5,RxF.upd0 k e6⟩
theorem Kid.upd0{W:Nat→Prop}{h c:ae}(k:Upd No h c){a:Option Addr}{n:Bn}:Kid W h a n→Kid W c a n
 |⟨b,sl,e1,e2,e3⟩=>⟨b,sl,e1,e2,e3.upd0 k⟩
theorem RxF.less{W W':Nat→Prop}{h:ae}(hm:∀b,W' b→W b∨h.size≤b):∀{F:Fo} {ks:List (Option Addr)},RxF W h F ks→RxF W' h F ks
 | .nil,_,r=>r
 | .cons _ _ _ _,_,⟨b,sl,val,s,ow,ks1,ks',e0,e1,e2,e3,e4,e5,e6,e7⟩=>⟨b,sl,val,s,ow,ks1,ks',e0,e1,e2,e3,e4.less hm,⟨e5.1,fun hx=>(hm _ hx).elim e5.2 fun h=>by have:=bc e2;omega⟩,RxF.less hm e6,RxF.less hm e7⟩
theorem RxN.less{W W':Nat→Prop}{h:ae}(hm:∀b,W' b→W b∨h.size≤b){b:Nat}{sl:ByteArray}{w:Option ByteArray}{F:Fo}:RxN W h b sl w F→RxN W' h b sl w F
 |⟨val,s,ow,ks,e2,e3,e4,e5,e6⟩=>⟨val,s,ow,ks,e2,e3,e4.less hm,⟨e5.1,fun hx=>(hm _ hx).elim e5.2 fun h=>by have:=bc e2;omega⟩,RxF.less hm e6⟩
theorem RxF.updM{W M:Nat→Prop}{h c:ae}(k:Upd M h c)(hm:∀b,M b→W b∨h.size≤b):∀{F:Fo} {ks:List (Option Addr)},RxF W h F ks→RxF W c F ks
 | .nil,_,r=>r
 | .cons _ _ _ _,_,⟨b,sl,val,s,ow,ks1,ks',e0,e1,e2,e3,e4,e5,e6,e7⟩=>⟨b,sl,val,s,ow,ks1,ks',e0,e1,k.get e2 (fun hx=>(hm _ hx).elim e5.2 fun h=>by have:=bc e2;omega),e3,e4.upd k hm,e5,RxF.updM k hm e6,RxF.updM k hm e7⟩
theorem RxN.updM{W M:Nat→Prop}{h c:ae}(k:Upd M h c)(hm:∀b,M b→W b∨h.size≤b){b:Nat}{sl:ByteArray}{w:Option ByteArray}{F:Fo}:RxN W h b sl w F→RxN W c b sl w F
 |⟨val,s,ow,ks,e2,e3,e4,e5,e6⟩=>⟨val,s,ow,ks,k.get e2 (fun hx=>(hm _ hx).elim e5.2 fun h=>by have:=bc e2;omega),e3,e4.upd k hm,e5,RxF.updM k hm e6⟩
theorem RxL.upd0{W:Nat→Prop}{h b:ae}(k:Upd No h b){ks:List (Option Addr)}{L:List Bn}(r:RxL W h ks L):RxL W b ks L:=⟨r.1,fun p c=>(r.2 p c).upd0 k⟩
theorem RxL.app{W:Nat→Prop}{h:ae}{ks c:List (Option Addr)}{L L':List Bn}(r:RxL W h ks L)(d:RxL W h c L'):RxL W h (ks++c) (L++L'):=by
 refine⟨by rw[af,af,r.1,d.1],fun p b=>?_⟩
 rw[List.zip_append r.1]at b;rcases be.1 b with b|b
 ·exact r.2 p b
 ·exact d.2 p b
theorem RxL.one{W:Nat→Prop}{h:ae}{k:Option Addr}{n:Bn}(c:Kid W h k n):RxL W h [k] [n]:=⟨rfl,fun p b=>by rw[ll,List.zip_nil_left]at b;rw[aq.1 b];exact c⟩
theorem RxL.take{W:Nat→Prop}{h:ae}{ks:List (Option Addr)}{L:List Bn}(r:RxL W h ks L)(i:Nat):RxL W h (ks.take i) (L.take i):=by
 refine⟨by rw[aL,aL,r.1],fun p b=>r.2 p ?_⟩
 have:(ks.take i).zip (L.take i)=(ks.zip L).take i:=by rw[nL,nL,List.take_zipWith]
 rw[this]at b;exact List.mem_of_mem_take b
theorem RxL.drop{W:Nat→Prop}{h:ae}{ks:List (Option Addr)}{L:List Bn}(r:RxL W h ks L)(i:Nat):RxL W h (ks.drop i) (L.drop i):=by
 refine⟨by rw[aW,aW,r.1],fun p b=>r.2 p ?_⟩
 have:(ks.drop i).zip (L.drop i)=(ks.zip L).drop i:=by rw[nL,nL,List.drop_zipWith]
 rw[this]at b;exact List.mem_of_mem_drop b
theorem RxL.set{W:Nat→Prop}{h:ae}{ks:List (Option Addr)}{L:List Bn}(r:RxL W h ks L){i:Nat}(hi:i<L.length){k:Option Addr}{n:Bn}(c:Kid W h k n):RxL W h (ks.set i k) (L.set i n):=by
 have:=(r.take i).app ((RxL.one c).app (r.drop (i+1)));rw[fZ,fZ,if_pos (by rw[r.1];exact hi),if_pos hi];exact this
theorem RxL.at{W:Nat→Prop}{h:ae}{ks:List (Option Addr)}{L:List Bn}(r:RxL W h ks L){i:Nat}(hi:i<L.length):∃b sl,ks[i]? =some (some ⟨b,0,none⟩)∧sl.data.toList=L[i].1∧RxN W h b sl L[i].2.1 L[i].2.2:=by
 have d:i<ks.length:=by rw[r.1];exact hi
 have f:i<(ks.zip L).length:=by rw[List.length_zip];omega
 have:=r.2 _ (List.getElem_mem f);rw[List.getElem_zip]at this;obtain⟨b,sl,g,c,e⟩:=this;exact⟨b,sl,by rw[ag d];exact congrArg some g,c,e⟩
theorem DF:∀{L:List Bn} {c:Nat},L.Pairwise (fun m n=>hd m.1<hd n.1)→(∀n∈L,c≤hd n.1)→L= []∨c+L.length≤256
 | [],_,_,_=>.inl rfl
 |n::L,c,b,hc=>by
  have b:=bF.1 b;have d:=hc n (aD ..);have f:=Z5 n.1;rcases DF (c:=hd n.1+1) b.2 fun m hm=>b.1 m hm with e|e
  ·rw[e];right;simp only[aI];omega
  ·right;rw[av];omega
theorem LU{F:Fo}(h:wW F):F.toL.length≤256:=by
 rcases DF (c:=0) (tJ.1 h).1 fun _ _=>aY _ with e|e
 ·rw[e];simp
 ·omega
theorem QI{h:ae}{b i:Nat}{c:Array Value}(d:h[b]? =some (.cells c 294 (0,0))):bh h (adr ⟨b,0,none⟩ i)=c[i]?:=by rw[cM,bK];exact bO d
theorem UX(s:ByteArray)(i:Nat):s[i]? =s.data.toList[i]?:=by
 rw[Array.getElem?_toList];by_cases h:i<s.size
 ·rw[getElem?_pos s i h,getElem?_pos s.data i h];rfl
 ·rw[getElem?_neg s i h,getElem?_neg s.data i h]
end Go.Proofs
namespace Go.Proofs
open Go Go.Lift
abbrev rx0:List Value:= [.string (⟨#[]⟩:ByteArray),.bool false,.string (⟨#[]⟩:ByteArray),.slice none 0 0,.pointer none]
end Go.Proofs
namespace Go.Proofs
open Go Go.Lift
theorem Vw:∀{x y:List UInt8} {i:Nat},i≤x.length→i≤y.length→(∀j,j<i→x[j]? =y[j]?)→(i=x.length∨i=y.length∨x[i]?≠y[i]?)→cm x y=i
 | [],_,i,h1,_,_,_=>by simp at h1;simp[cm,h1]
 |_::_,[],i,_,h2,_,_=>by simp at h2;simp[cm,h2]
 |a::x,b::y,0,_,_,_,h=>by
  unfold cm;rw[if_neg];rintro rfl;rcases h with h|h|h<;>simp at h
 |a::x,b::y,i+1,h1,h2,h3,h4=>by
  have:=h3 0 (by omega);simp only[List.getElem?_cons_zero,bX.injEq]at this;unfold cm;rw[if_pos this,Vw (i:=i) (by simpa using h1) (by simpa using h2) (fun j c=>by simpa using h3 (j+1) (by omega)) (by simpa using h4)]
theorem S2{a b:ByteArray}(A:a.size≤1000000){h:ae}{K:Int→ae→Prop}(o:K (cm a.data.toList b.data.toList:Nat) h):iI 251 [.string a,.string b] K h:=by
 refine eM (AA a b) Jq Tryz.func251 Tryz.call251 ?_;dsimp only[AA,Bs];simp only[Bd];have g:(if(b.size:Int)<(a.size:Int)then(b.size:Int)else(a.size:Int))=((min a.size b.size:Nat):Int):=by split<;>omega
 rw[g];have C:a.data.toList.length=a.size:=by simp
 have B:b.data.toList.length=b.size:=by simp
 refine LoopP.ghost (fun(i:Nat) (t:Int) s=>t=(i:Int)∧i≤min a.size b.size∧s=h∧∀j,j<i→a.data.toList[j]? =b.data.toList[j]?) (fun i=>min a.size b.size-i) 0 ⟨rfl,aY _,rfl,fun j w=>absurd w (Nat.not_lt_zero _)⟩ ?_
 rintro I i t s ⟨rfl,hi,rfl,q⟩ z;refine ak (fun c=>?_) fun y=>?_
 ·have c:i<min a.size b.size:=by omega
  have n:i<a.size:=by omega
  have m:i<b.size:=by omega
  refine⟨a[i],by omega,by rw[bQ,getElem?_pos a i n],b[i],by omega,by rw[bQ,getElem?_pos b i m],?_⟩
  have v:a.data.toList[i]? =some a[i]:=by rw[←UX,getElem?_pos a i n]
  have x:b.data.toList[i]? =some b[i]:=by rw[←UX,getElem?_pos b i m]
  refine CondP.intro (fun f=>?_) fun d=>?_
  ·rw[Vw (i:=i) (by omega) (by omega) q (.inr (.inr fun e=>?_))]at o
   ·exact o
   ·rw[v,x]at e
    rw[bX.inj e]at f;simp at f
  ·have d:a[i]=b[i]:=by
    have:((a[i].toNat:Int))=(b[i].toNat:Int):=by simpa using d
    exact UInt8.toNat_inj.1 (by omega)
   rw[cX c (by omega)];refine z (i+1) _ _ ⟨rfl,c,rfl,fun j w=>?_⟩ (by omega)
   rcases dB j i with u|u
   ·exact q j u
   ·have:j=i:=by omega
    subst this;rw[v,x,d]
 ·have p:i=min a.size b.size:=by omega
  rw[Vw (i:=i) (by omega) (by omega) q (by omega)]at o;rw[←p];exact o
end Go.Proofs
namespace Go.Proofs
open Go Go.Lift
def Ba:Fo→List (List UInt8×ByteArray)
 | .nil=> []
 | .cons lab w kids rest=>((w.map fun v=>(([]:List UInt8),v)).toList++Ba kids).map (fun p=>(lab++p.1,p.2))++Ba rest
def DP(w:Option ByteArray)(F:Fo):List (List UInt8×ByteArray):=(w.map fun v=>(([]:List UInt8),v)).toList++Ba F
theorem ut:∀{F:Fo} {k:List UInt8} {v:ByteArray},(k,v)∈Ba F↔Rh F k v
 | .nil,_,_=>by simp[Ba,Rh]
 | .cons lab w kids rest,k,v=>by
  unfold Ba Rh;rw[be,ut (F:=rest)];refine or_congr ?_ xH;rw[bI];constructor
  ·rintro⟨⟨r,u⟩,hm,b⟩
   simp only[ou.injEq]at b;obtain⟨rfl,rfl⟩:=b;refine⟨r,rfl,?_⟩;rcases be.1 hm with h|h
   ·left
    rw[Option.mem_toList,lh]at h;obtain⟨a,c,b⟩:=h;simp only[ou.injEq]at b;exact⟨b.1.symm,by rw[c,b.2]⟩
   ·exact .inr (ut.1 h)
  ·rintro⟨r,rfl,h⟩
   refine⟨(r,v),be.2 ?_,rfl⟩;rcases h with⟨rfl,h⟩|h
   ·left;rw[h];simp
   ·exact .inr (ut.2 h)
theorem Ct{w:Option ByteArray}{F:Fo}{k:List UInt8}{v:ByteArray}:(k,v)∈DP w F↔Zi w F k v:=by
 unfold DP Zi;rw[be,ut];refine or_congr ?_ xH;cases w with
 |none=>simp
 |some u=>simp[Prod.ext_iff,eq_comm]
abbrev Up(l:List (List UInt8×ByteArray)):Prop:=l.Pairwise fun p q=>p.1<q.1
theorem Y3{a x y:List UInt8}(h:x<y):a++x<a++y:=by
 induction a with
 |nil=>exact h
 |cons c a ih=>exact List.Lex.cons ih
theorem UT{x y:List UInt8}(c:y≠[])(h:hd x<hd y):x<y:=by
 match x,y,c with
 | [],b::y,_=>exact List.Lex.nil
 |a::x,b::y,_=>exact List.Lex.rel (UInt8.lt_iff_toNat_lt.2 h)
theorem Pu:∀{F:Fo},wW F→Up (Ba F)
 | .nil,_=>dh
 | .cons lab w kids rest,h=>by
  unfold Ba;refine bW.2 ⟨?_,Pu h.2.2.2.2,?_⟩
  ·rw[List.pairwise_map]
   refine List.Pairwise.imp (R:=fun p q:List UInt8×ByteArray=>p.1<q.1) (fun j=>Y3 j) ?_
   refine bW.2 ⟨?_,Pu h.2.2.1,?_⟩
   ·cases w<;>simp
   ·intro a g b f
    have d:b.1≠[]:=LD h.2.2.1 (ut (F:=kids).1 (show(b.1,b.2)∈_ from f))
    have i:a.1= []:=by
     rw[Option.mem_toList,lh]at g;obtain⟨v,_,e⟩:=g;rw[←e]
    rw[i];match b.1,d with
    |c::l,_=>exact List.Lex.nil
  ·intro a g b f
   obtain⟨p,_,rfl⟩:=bI.1 g;obtain⟨n,m,e,_⟩:=PW h.2.2.2.2 (ut (F:=rest).1 (show(b.1,b.2)∈_ from f))
   have d:b.1≠[]:=LD h.2.2.2.2 (ut (F:=rest).1 (show(b.1,b.2)∈_ from f))
   have:=h.2.2.2.1 n m;exact UT d (by rw[Hb h.1];omega)
theorem WT{w:Option ByteArray}{F:Fo}(h:wW F):Up (DP w F):=by
 refine bW.2 ⟨by cases w<;>simp,Pu h,?_⟩
 intro a g b i;have f:b.1≠[]:=LD h (ut (F:=F).1 (show(b.1,b.2)∈_ from i))
 have d:a.1= []:=by
  rw[Option.mem_toList,lh]at g;obtain⟨v,_,e⟩:=g;rw[←e]
 rw[d];match b.1,f with
 |c::l,_=>exact List.Lex.nil
theorem TM:∀{l l':List (List UInt8×ByteArray)},Up l→Up l'→(∀p,p∈l↔p∈l')→l=l'
 | [],[],_,_,_=>rfl
 | [],q::l',_,_,h=>absurd ((h q).2 (aD ..)) (by simp)
 |p::l,[],_,_,h=>absurd ((h p).1 (aD ..)) (by simp)
 |p::l,q::l',f,b,h=>by
  have f:=bF.1 f;have b:=bF.1 b;have e:p=q:=by
   rcases ar.1 ((h p).1 (aD ..))with e|i
   ·exact e
   ·rcases ar.1 ((h q).2 (aD ..))with e|g
    ·exact e.symm
    ·exact absurd (List.lt_trans (f.1 q g) (b.1 p i)) (uh _)
  subst e;rw[TM f.2 b.2 fun z=>?_]
  constructor
  ·intro d
   rcases ar.1 ((h z).1 (aA _ d))with e|c
   ·exact absurd (f.1 z d) (by rw[e];exact uh _)
   ·exact c
  ·intro d
   rcases ar.1 ((h z).2 (aA _ d))with e|c
   ·exact absurd (b.1 z d) (by rw[e];exact uh _)
   ·exact c
def Ht:Fo→Nat
 | .nil=>0
 | .cons _ _ kids rest=>1+Ht kids+Ht rest
theorem LS:∀{F:Fo},wW F→Ht F+F.toL.length≤2*(Ba F).length
 | .nil,_=>by simp[Ht,Fo.toL]
 | .cons lab w kids rest,h=>by
  have c:=LS h.2.2.1;have h2:=LS h.2.2.2.2;have b:=h.2.1;rw[Fo.toL_cons];unfold Ht Ba;rw[af,List.length_map,af,av];cases w with
  |none=>
   simp only[Option.map_none,Option.toList_none,List.length_nil];have:2≤kids.toL.length:=b.resolve_left (by simp);omega
  |some v=>simp only[Option.map_some,Option.toList_some,aI];omega
end Go.Proofs
namespace Go.Proofs
open Go Go.Lift
structure RadAt(W:Nat→Prop)(h:ae)(b:Nat)(l:List Pr):Prop where
 ex:∃w F,RxN W h b ⟨#[]⟩ w F∧wW F∧∀k v,(k,v)∈DP w F↔∃p∈l,p.1.data.toList=k∧p.2=v
theorem RadAt.upd0{W:Nat→Prop}{h c:ae}{b:Nat}{l:List Pr}(k:Upd No h c)(r:RadAt W h b l):RadAt W c b l:=by
 obtain⟨w,F,e,d,f⟩:=r.ex;exact⟨w,F,e.upd0 k,d,f⟩
theorem RadAt.less{W W':Nat→Prop}{h:ae}(hm:∀b,W' b→W b∨h.size≤b){b:Nat}{l:List Pr}(r:RadAt W h b l):RadAt W' h b l:=by
 obtain⟨w,F,d,c,e⟩:=r.ex;exact⟨w,F,d.less hm,c,e⟩
theorem RadAt.updM{W M:Nat→Prop}{h c:ae}(k:Upd M h c)(hm:∀b,M b→W b∨h.size≤b){b:Nat}{l:List Pr}(r:RadAt W h b l):RadAt W c b l:=by
 obtain⟨w,F,e,d,f⟩:=r.ex;exact⟨w,F,e.updM k hm,d,f⟩
def Mx(l:List Pr):List (List UInt8×ByteArray):=l.map fun p=>(p.1.data.toList,p.2)
theorem Yk{l:List Pr}(c:fE l):Up (Mx l):=by
 unfold Mx Up;rw[List.pairwise_map];refine List.Pairwise.imp (R:=fun p q:Pr=>kl p.1 q.1) (fun{a b} h=>?_) c
 rw[PM,ByteArray.toList_eq,ByteArray.toList_eq]at h;exact h
theorem QC:∀{l l':List Pr},Mx l=Mx l'→l=l'
 | [],[],_=>rfl
 | [],_::_,h=>by simp[Mx]at h
 |_::_,[],h=>by simp[Mx]at h
 |p::l,q::l',h=>by
  unfold Mx at h;simp only[bJ,List.cons.injEq,ou.injEq]at h;obtain⟨⟨c,h2⟩,d⟩:=h;have e:p.1=q.1:=by
   generalize p.1=a at c;generalize q.1=b at c;cases a;cases b;exact congrArg ByteArray.mk (Array.toList_inj.1 c)
  rw[QC d,Prod.ext e h2]
theorem WH{w:Option ByteArray}{F:Fo}{l:List Pr}(hc:wW F)(f:fE l)(c:∀k v,(k,v)∈DP w F↔∃p∈l,p.1.data.toList=k∧p.2=v):DP w F=Mx l:=by
 refine TM (WT hc) (Yk f) fun p=>?_
 have:=c p.1 p.2;rw[show(p.1,p.2)=p from rfl]at this
 rw[this];unfold Mx;rw[bI];constructor
 ·rintro⟨q,b,g,d⟩;exact⟨q,b,Prod.ext g d⟩
 ·rintro⟨q,b,e⟩;rw[←e];exact⟨q,b,rfl,rfl⟩
end Go.Proofs
namespace Go.Proofs
open Go Go.Lift
theorem EN{p q:Pr}:∀{l:List Pr},fE l→(q∈vG p l↔q=p∨(q∈l∧q.1≠p.1))
 | [],_=>by simp[vG]
 |r::l,d=>by
  have d:=bF.1 d;rw[DX];by_cases c:kl r.1 p.1
  ·have f:r.1≠p.1:=fun e=>by rw[e]at c;exact dS _ c
   rw[if_pos c,ar,ar,EN d.2];constructor
   ·rintro(rfl|h|⟨h,b⟩)
    ·exact .inr ⟨.inl rfl,f⟩
    ·exact .inl h
    ·exact .inr ⟨.inr h,b⟩
   ·rintro(h|⟨h|h,b⟩)
    ·exact .inr (.inl h)
    ·exact .inl h
    ·exact .inr (.inr ⟨h,b⟩)
  ·rw[if_neg c]
   by_cases h2:r.1=p.1
   ·rw[if_pos h2,ar,ar]
    constructor
    ·rintro(h|h)
     ·exact .inl h
     ·refine .inr ⟨.inr h,fun e=>?_⟩
      have:=d.1 q h;rw[e,h2]at this;exact dS _ this
    ·rintro(h|⟨rfl|h,b⟩)
     ·exact .inl h
     ·exact absurd h2 b
     ·exact .inr h
   ·rw[if_neg h2,ar,ar]
    have g:=vF c h2;constructor
    ·rintro(h|rfl|h)
     ·exact .inl h
     ·exact .inr ⟨.inl rfl,h2⟩
     ·refine .inr ⟨.inr h,fun e=>?_⟩
      have:=ii g (d.1 q h);rw[e]at this;exact dS _ this
    ·rintro(h|⟨rfl|h,b⟩)
     ·exact .inl h
     ·exact .inr (.inl rfl)
     ·exact .inr (.inr h)
def RadRoot(W:Nat→Prop)(h:ae)(r:Option Addr)(l:List Pr):Prop:=(r=none∧l= [])∨∃b,r=some ⟨b,0,none⟩∧RadAt W h b l
theorem RadRoot.upd0{W:Nat→Prop}{h c:ae}{r:Option Addr}{l:List Pr}(k:Upd No h c)(t:RadRoot W h r l):RadRoot W c r l:=t.imp id fun⟨b,e,t⟩=>⟨b,e,t.upd0 k⟩
theorem Hz{a b:ByteArray}:a.data.toList=b.data.toList↔a=b:=by
 constructor
 ·intro h;cases a;cases b;exact congrArg ByteArray.mk (Array.toList_inj.1 h)
 ·rintro rfl;rfl
theorem O5{W:Nat→Prop}{h:ae}(c:∀y,W y→y<h.size){K:Option Addr→ae→Prop}(d:∀h' b,RadAt W h' b []→Upd No h h'→K (some ⟨b,0,none⟩) h'):fh 148 [] K h:=by
 refine eM AC .nil Tryz.func148 Tryz.call148 ?_;unfold AC Zm;refine cP (d _ h.size ⟨none,.nil,⟨⟨#[]⟩,⟨none,0,0⟩,none,[],cO h rx0 294,rfl,Sl.nil DB,⟨ai _,fun hx=>Nat.lt_irrefl _ (c _ hx)⟩,rfl⟩,trivial,fun k v=>?_⟩ (Upd.hnew No h _ _))
 simp[DP,Ba]
end Go.Proofs
namespace Go.Proofs
open Go Go.Lift
theorem bj{h:ae}{cs:List Value}{t:TypeId}{k:ae→Prop}(b:∀h',h'[h.size]? =some (.cells cs.toArray t (0,0))→Upd No h h'→k h'):At (hnew h cs t) k:=
 cP (b _ (cO h cs t) (Upd.hnew No h cs t))
theorem vc{h:ae}{b:Nat}{c:Array Value}{t:TypeId}(d:h[b]? =some (.cells c t (0,0))) (i:Nat):bh h (adr ⟨b,0,none⟩ i)=c[i]?:=by rw[cM,bK];exact bO d
theorem lA{h:ae}{b:Nat}{c:Array Value}{t:TypeId}(d:h[b]? =some (.cells c t (0,0))) (i j:Nat):bh h (adr (adr ⟨b,0,none⟩ i) j)=c[i+j]?:=by rw[cM,cM,bK];exact bO d
theorem nJ{h:ae}{b i:Nat}{c c':Array Value}{t:TypeId}{v:Value}{k:ae→Prop}(g:h[b]? =some (.cells c t (0,0))) (hi:i<c.size) (e:c.setIfInBounds i v=c') (m:∀d,d[b]? =some (.cells c' t (0,0))→Upd (· =b) h d→k d):Wr h (adr ⟨b,0,none⟩ i)∧At (hset h (adr ⟨b,0,none⟩ i) v) k:=by
 rw[cM,bK];exact⟨fz g hi,Bq g fun d f j=>m d (e▸f) j⟩
theorem _root_.Go.Lift.Upd.own{h c h2:ae}{b:Nat}(k:Upd No h c)(d:Upd (· =b) c h2)(e:h.size≤b):Upd No h h2:=k.trans d fun x hx=>.inr (by have hx:x=b:=hx;omega)
theorem _root_.Go.Lift.Upd.oth{h e:ae}{b c:Nat}{o:Obj}(f:Upd (· =b) h e)(hc:h[c]? =some o) (d:c≠b):e[c]? =some o:=f.get hc d
abbrev Tr:=Int×Int×Int×Int×(Option Addr)×(Option Addr)
abbrev kA(t:Tr):List Value:= [.int .i64 t.1,.int .u64 t.2.1,.int .u64 t.2.2.1,.int .u64 t.2.2.2.1,.pointer t.2.2.2.2.1,.pointer t.2.2.2.2.2]
abbrev RI(t:Tr):Value:=.agg #[.int .i64 t.1,.int .u64 t.2.1,.int .u64 t.2.2.1,.int .u64 t.2.2.2.1,.pointer t.2.2.2.2.1,.pointer t.2.2.2.2.2]
def Pro(W:Nat→Prop)(h h2:ae)(y:Nat):Prop:=W y∨(h.size≤y∧y<h2.size)
theorem Pro.lt{W:Nat→Prop}{h h2:ae}(b:∀y,W y→y<h.size)(k:Upd No h h2):∀y,Pro W h h2 y→y<h2.size:=fun y c=>c.elim (fun h=>Nat.lt_of_lt_of_le (b y h) k.size) fun h=>h.2
theorem Pro.hm{W:Nat→Prop}{h h2:ae}:∀y,Pro W h h2 y→W y∨h.size≤y:=fun _ b=>b.imp id fun h=>h.1
theorem Pro.sub{W:Nat→Prop}{h h2 b:ae}:∀y,W y→Pro W h h2 y∨b.size≤y:=fun _ c=>.inl (.inl c)
theorem RootAt.less{W W':Nat→Prop}{x:Hs}{h:ae}(hm:∀b,W' b→W b∨h.size≤b){r:Option Addr}{l:List Pr}(t:RootAt W x h r l):RootAt W' x h r l:=t.imp id fun⟨b,e,t⟩=>⟨b,e,TrieAt.less hm t⟩
theorem RadRoot.less{W W':Nat→Prop}{h:ae}(hm:∀b,W' b→W b∨h.size≤b){r:Option Addr}{l:List Pr}(t:RadRoot W h r l):RadRoot W' h r l:=t.imp id fun⟨b,e,t⟩=>⟨b,e,t.less hm⟩
def TreeIs(W:Nat→Prop)(h:ae)(kind:Int)(x:Hs)(t:Tr)(l:List Pr):Prop:=(kind=0∧∃b,t=(0,x.k0,x.k1,x.mask,some ⟨b,0,none⟩,none)∧TrieAt W x h 13 b l)∨(kind=1∧∃b,t=(1,0,0,0,none,some ⟨b,0,none⟩)∧RadAt W h b l)
theorem TreeIs.upd0{W:Nat→Prop}{h d:ae}{kind:Int}{x:Hs}{t:Tr}{l:List Pr}(k:Upd No h d)(i:TreeIs W h kind x t l):TreeIs W d kind x t l:=
 i.imp (fun⟨e,b,c,t⟩=>⟨e,b,c,TrieAt.upd0 k t⟩) fun⟨e,b,c,t⟩=>⟨e,b,c,t.upd0 k⟩
theorem TreeIs.less{W W':Nat→Prop}{h:ae}(hm:∀b,W' b→W b∨h.size≤b){kind:Int}{x:Hs}{t:Tr}{l:List Pr}(i:TreeIs W h kind x t l):TreeIs W' h kind x t l:=
 i.imp (fun⟨e,b,c,t⟩=>⟨e,b,c,TrieAt.less hm t⟩) fun⟨e,b,c,t⟩=>⟨e,b,c,t.less hm⟩
theorem TreeIs.updM{W M:Nat→Prop}{h d:ae}(k:Upd M h d)(hm:∀b,M b→W b∨h.size≤b){kind:Int}{x:Hs}{t:Tr}{l:List Pr}(i:TreeIs W h kind x t l):TreeIs W d kind x t l:=
 i.imp (fun⟨e,b,c,t⟩=>⟨e,b,c,TrieAt.updM k hm t⟩) fun⟨e,b,c,t⟩=>⟨e,b,c,t.updM k hm⟩
theorem IL{W:Nat→Prop}{x:Hs}{h:ae}(d:∀y,W y→y<h.size){K:Option Addr→ae→Prop}(f:∀c b,TrieAt W x c 13 b []→Upd No h c→K (some ⟨b,0,none⟩) c):fh 147 [] K h:=by
 refine eM AN .nil Tryz.func147 Tryz.call147 ?_;unfold AN;exact Cq d fun c b nd e=>f c b (TO nd) e
abbrev qG:Tr:=(0,0,0,0,none,none)
theorem Ey{W:Nat→Prop}{x:Hs}{h:ae}{r:Option Addr}{l:List Pr}(t:RootAt W x h r l)(w:∀y,W y→y<h.size){K:Tr→ae→Prop}(v:∀f t,TreeIs W f 0 x t l→Upd No h f→K t f):xn 120 [.agg #[.int .u64 x.k0,.int .u64 x.k1,.int .u64 x.mask],.pointer r] K h:=by
 refine eM (za (x.k0,x.k1,x.mask) r) Ih Tryz.func120 Tryz.call120 ?_;dsimp only[za,eP,EL,js,Dv,uN,aR,au,aG,pR];refine bj fun o b1 k1=>bj fun h2 b2 n=>?_
 have z:=bc b1;have A:=bc b2;have e:=k1.tr n;refine Join.intro (fun t f=>Upd No h2 f∧∃b,t=some ⟨b,0,none⟩∧TrieAt (Pro W h h2) x f 13 b l) (fun R p=>?_) ?_
 ·rcases t with⟨rfl,rfl⟩|⟨b,rfl,t⟩
  ·exact aV.2 (IL (Pro.lt w e) fun s b t d=>p _ _ ⟨d,b,rfl,t⟩)
  ·exact ay.2 (p _ _ ⟨Upd.refl _ _,b,rfl,TrieAt.upd0 e (TrieAt.less Pro.hm t)⟩)
 ·rintro m s ⟨d,b,rfl,m⟩
  have c1:=d.get0 (n.get0 b1);refine⟨_,vc c1 0,_,vc c1 1,_,vc c1 2,?_⟩;refine dt (c:=kA qG) (vs:=kA (0,x.k0,x.k1,x.mask,some ⟨b,0,none⟩,none)) (d.get0 b2) rfl fun u g i=>?_
  refine⟨_,vc g 0,_,vc g 1,_,vc g 2,_,vc g 3,_,vc g 4,_,vc g 5,?_⟩;have j:h.size≤o.size:=k1.size;exact v u _ (.inl ⟨rfl,b,rfl,TrieAt.less Pro.sub (TrieAt.updM i (fun y q=>.inl (.inr (by have q:y=o.size:=q;omega))) m)⟩) ((e.tr d).own i j)
theorem Ew{W:Nat→Prop}{x:Hs}{h:ae}{r:Option Addr}{l:List Pr}(t:RadRoot W h r l)(s:∀y,W y→y<h.size){K:Tr→ae→Prop}(q:∀f t,TreeIs W f 1 x t l→Upd No h f→K t f):xn 121 [.pointer r] K h:=by
 refine eM (yZ r) Ig Tryz.func121 Tryz.call121 ?_;dsimp only[yZ,eP,js,Dv,uN,aR,au,aG];refine bj fun h2 b2 e=>?_
 have u:=bc b2;refine Join.intro (fun t f=>Upd No h2 f∧∃b,t=some ⟨b,0,none⟩∧RadAt (Pro W h h2) f b l) (fun R m=>?_) ?_
 ·rcases t with⟨rfl,rfl⟩|⟨b,rfl,t⟩
  ·exact aV.2 (O5 (Pro.lt s e) fun o b t d=>m _ _ ⟨d,b,rfl,t⟩)
  ·exact ay.2 (m _ _ ⟨Upd.refl _ _,b,rfl,(t.less Pro.hm).upd0 e⟩)
 ·rintro j o ⟨d,b,rfl,j⟩
  refine dt (c:=kA qG) (vs:=kA (1,0,0,0,none,some ⟨b,0,none⟩)) (d.get0 b2) rfl fun p g i=>?_
  refine⟨_,vc g 0,_,vc g 1,_,vc g 2,_,vc g 3,_,vc g 4,_,vc g 5,?_⟩;exact q p _ (.inr ⟨rfl,b,rfl,(j.updM i (fun y n=>.inl (.inr (by have n:y=h.size:=n;omega)))).less Pro.sub⟩) ((e.tr d).own i (ai _))
theorem FS{W:Nat→Prop}{x:Hs}{h:ae}(s:∀y,W y→y<h.size){kind:Int}(o:kind=0∨kind=1){K:Tr×Int→ae→Prop}(p:∀h' t,TreeIs W h' kind x t []→Upd No h h'→K (t,0) h'):yl 83 [.int .i64 kind,.agg #[.int .u64 x.k0,.int .u64 x.k1,.int .u64 x.mask]] K h:=by
 refine HN kind (x.k0,x.k1,x.mask) ?_;dsimp only[BH,eP,BR,EL,js,jP,uN,aR,au,aG,pR];refine bj fun m b1 k1=>bj fun h2 b2 q=>?_
 have v:=bc b1;have w:=bc b2;have f:=k1.tr q;have g:h.size≤m.size:=k1.size;have c1:=q.get0 b1;rcases o with rfl|rfl
 ·refine aV.2 ⟨_,vc c1 0,_,vc c1 1,_,vc c1 2,?_⟩
  refine Ey (W:=Pro W h h2) (x:=x) (l:= []) (.inl ⟨rfl,rfl⟩) (Pro.lt s f) fun u t n d=>?_
  refine dt (c:=kA qG) (vs:=kA t) (d.get0 b2) rfl fun j b e=>?_
  refine⟨_,vc b 0,_,vc b 1,_,vc b 2,_,vc b 3,_,vc b 4,_,vc b 5,?_⟩;exact p j t ((n.updM e (fun y i=>.inl (.inr (by have i:y=m.size:=i;omega)))).less Pro.sub) ((f.tr d).own e g)
 ·refine ay.2 (aV.2 ?_)
  refine Ew (W:=Pro W h h2) (x:=x) (l:= []) (.inl ⟨rfl,rfl⟩) (Pro.lt s f) fun u t n d=>?_
  refine dt (c:=kA qG) (vs:=kA t) (d.get0 b2) rfl fun j b e=>?_
  refine⟨_,vc b 0,_,vc b 1,_,vc b 2,_,vc b 3,_,vc b 4,_,vc b 5,?_⟩;exact p j t ((n.updM e (fun y i=>.inl (.inr (by have i:y=m.size:=i;omega)))).less Pro.sub) ((f.tr d).own e g)
theorem JV{k v:ByteArray}(c:k.size≤256)(h2:v.size≤4096){h:ae}{K:Int→ae→Prop}(b:K 0 h):iI 144 [.string k,.string v] K h:=by
 refine CY k v ?_;unfold xC;refine ak (fun h=>absurd h (by omega)) fun _=>ak (fun h=>absurd h (by omega)) fun _=>b
end Go.Proofs
namespace Go.Proofs
open Go Go.Lift
theorem Ky{T:Type}{x:T}{k:T→Prop}(h:k x):Bd x k:=h
abbrev inC(sp:SliceV)(e:Int):Array Value:= #[.slice sp.a sp.len sp.cap,.int .i64 e]
structure InAt(W:Nat→Prop)(h:ae)(b:Nat)(s:dV):Prop where
 ex:∃sp:SliceV,h[b]? =some (.cells (inC sp s.2) 165 (0,0))∧Sl tK 1 W h sp s.1∧sp.len≤sp.cap
 w:W b
 n:s.1.length≤1000000000
section
variable {W M:Nat→Prop} {h h':ae} {b:Nat} {s:dV}
theorem InAt.upd(i:InAt W h b s)(k:Upd M h h')(d:¬M b)(hm:∀y,M y→W y∨h.size≤y):InAt W h' b s:=
 let⟨sp,hc,c,e⟩:=i.ex
 ⟨⟨sp,k.get hc d,c.upd k hm,e⟩,i.w,i.n⟩
theorem InAt.upd0(i:InAt W h b s)(k:Upd No h h'):InAt W h' b s:=i.upd k id fun _ h=>h.elim
theorem InAt.lt(i:InAt W h b s):b<h.size:=let⟨_,hc,_⟩:=i.ex;bc hc
theorem InAt.up(i:InAt W h b s)(u:Upd (· =b) h h'){sp:SliceV}{e:Int}(d:h'[b]? =some (.cells (inC sp e) 165 (0,0))) {p:List UInt8} (g:Sl tK 1 W h sp p) (j:sp.len≤sp.cap) (f:p.length≤s.1.length):InAt W h' b (p,e):=
 ⟨⟨sp,d,g.upd u fun y c=>.inl (by have c:y=b:=c;subst c;exact i.w),j⟩,i.w,Nat.le_trans f i.n⟩
theorem yK(i:InAt W h b s){K:Int→ae→Prop}(d:K s.2 h):iI 79 [gF b] K h:=by
 obtain⟨sp,c,_⟩:=i.ex;refine Jl _ ?_;dsimp only[AJ,pP,dg,dq];exact ay.2 ⟨_,rfl,_,vc c 1,d⟩
theorem SM(i:InAt W h b s){K:Int→ae→Prop}(e:K (s.1.length:Int) h):iI 82 [gF b] K h:=by
 obtain⟨sp,d,c,_⟩:=i.ex;refine HS _ ?_;dsimp only[zl,iP,cf,dq];refine ay.2 ⟨_,rfl,sp,vc d 0,?_⟩;rw[c.len];exact e
theorem lX(i:InAt W h b s){e:Int}{K:Unit→ae→Prop}(f:∀h',InAt W h' b (cS e s)→Upd (· =b) h h'→K () h'):eJ 76 [gF b,.int .i64 e] K h:=by
 obtain⟨sp,g,j,m⟩:=i.ex;refine HT _ e ?_;dsimp only[zm,pP,dg,dq,FA,dy];refine Join.plain (aV.2 ⟨_,rfl,_,vc g 1,?_⟩);refine CondP.intro (fun c=>⟨_,rfl,nJ g (by simp) rfl fun h' d u=>f h' ?_ u⟩) fun c=>f h ?_ (Upd.refl _ _)
 ·have c:s.2=0:=by simpa using c
  rw[cS,if_pos c];exact i.up u d j m (ai _)
 ·have c:s.2≠0:=by simpa using c
  rw[cS,if_neg c];exact i
theorem UQ(i:InAt W h b s){K:Int→ae→Prop}(e:∀h',InAt W h' b (xi s)→Upd (· =b) h h'→K (xi s).2 h'):iI 40 [gF b] K h:=by
 refine Jm _ ?_;unfold AK sq;refine Join.intro (fun _ h'=>InAt W h' b (xi s)∧Upd (· =b) h h') (fun R c=>SM i (ak (fun d=>?_) fun d=>c () h ⟨?_,Upd.refl _ _⟩)) fun _ h' ⟨j,u⟩=>yK j (e h' j u)
 ·refine lX i fun h' j u=>c () h' ⟨?_,u⟩
  rw[xi,if_pos (by omega)];exact j
 ·rw[xi,if_neg (by omega)];exact i
theorem DY(i:InAt W h b s)(n:Nat){K:SliceV→ae→Prop}(g:∀h' sp,Sl tK 1 W h' sp (fH n s).1→InAt W h' b (fH n s).2→Upd (· =b) h h'→K sp h'):
  fU 117 [gF b,.int .i64 (n:Int)] K h:=by
 obtain⟨sp,o,p,C⟩:=i.ex;have z:=p.len;refine HQ _ (n:Int) ?_;dsimp only[zj,dy,sq,dq,iP,cf,pq,pQ];refine yK i (CondP.intro (fun d=>?_) fun d=>⟨_,rfl,sp,vc o 0,ak (fun x=>?_) fun x=>?_⟩)
 ·have d:s.2≠0:=by simpa using d
  have e:fH n s=([],s):=by rw[fH,if_neg d]
  rw[e]at g;exact g h _ (Sl.nil rx) i (Upd.refl _ _)
 ·have d:s.2=0:=by simpa using d
  have e:fH n s=([],s.1,9):=by rw[fH,if_pos d,if_pos (by omega)]
  rw[e]at g;refine lX i fun h' j u=>g h' _ (Sl.nil rx) ?_ u
  rw[cS,if_pos d]at j;exact j
 ·have d:s.2=0:=by simpa using d
  have e:fH n s=(s.1.take n,s.1.drop n,0):=by rw[fH,if_pos d,if_neg (by omega)]
  rw[e]at g;refine⟨_,rfl,sp,vc o 0,⟨by omega,by omega⟩,_,rfl,sp,vc o 0,⟨by omega,by omega⟩,_,rfl,nJ o (by simp) rfl fun h' f u=>?_⟩
  have w:(n:Int).toNat=n:=rfl;rw[w]at f⊢;have A:∀y,y=b→W y∨h.size≤y:=fun y B=>.inl (by subst B;exact i.w)
  have v:=p.sub (l:=0) (hi:=n) (m:=sp.cap) (c:=sp.cap-0) (aY _) (by omega) (by omega);have q:=p.sub (l:=n) (hi:=s.1.length) (m:=sp.cap) (c:=sp.cap-n) (by omega) (ai _) (by omega);rw[List.drop_zero,Nat.sub_zero]at v;rw[bL (by simp),←z]at q;refine g h' _ (v.upd u A) (i.up u (sp:=⟨bN sp.a n sp.cap 1,sp.len-n,sp.cap-n⟩) (by rw[d]at f;exact f) q ?_ (by simp)) u
  show sp.len-n≤sp.cap-n
  omega
theorem DZ(i:InAt W h b s){K:Int→ae→Prop}(d:∀h',InAt W h' b (aP s).2→Upd (· =b) h h'→K ((aP s).1:Int) h'):V9 75 [gF b] K h:=by
 refine HU _ ?_;dsimp only[zn,sq,vI,cg,ic,ji];refine DY i 1 fun m sp f j u=>?_
 refine LoopP.ghost (fun(_:Unit) t h'=>t=0∧h'=m) (fun _=>0) () ⟨rfl,rfl⟩ ?_
 rintro I g t h' ⟨rfl,rfl⟩ p;have q:=f.len;refine ak (fun c=>?_) fun c=>?_
 ·have c:(0:Int)<(sp.len:Int):=c
  have e:(fH 1 s).1[0]? =some ((fH 1 s).1.getD 0 0):=by
   rw[List.getD_eq_getElem?_getD,ag (by omega)];rfl
  obtain⟨a,n,_,hc⟩:=f.at0 e;exact⟨⟨Int.le_refl _,by omega⟩,a,n,_,hc,d _ j u⟩
 ·have c:¬(0:Int)<(sp.len:Int):=c
  have e:(fH 1 s).1= []:=ax.1 (by omega);have o:(aP s).1=0:=by unfold aP;(try simp only);rw[e];rfl
  rw[o]at d;exact d _ j u
end
end Go.Proofs
namespace Go.Proofs
open Go Go.Lift
theorem aaP(x:UInt8):ac .u8 ((az (aj .u8) (x.toNat:Int)&&& ~~~az (aj .u8) 128).toNat:Int)=((x.toNat%128:Nat):Int):=by
 have:∀n:Fin 256,ac .u8 ((az (aj .u8) (n.val:Int)&&& ~~~az (aj .u8) 128).toNat:Int)=((n.val%128:Nat):Int):=by decide+kernel
 exact this ⟨x.toNat,x.toNat_lt⟩
theorem XY{n x m:Nat}(c:n<2^m)(hx:n+x*2^m<18446744073709551616):ac .u64 ((az (aj .u64) (n:Int)|||az (aj .u64) ((x*2^m:Nat):Int)).toNat:Int)=((n+x*2^m:Nat):Int):=by
 have e:(az (aj .u64) (n:Int)|||az (aj .u64) ((x*2^m:Nat):Int)).toNat=n+x*2^m:=by
  rw[BitVec.toNat_or,iu,iu,BitVec.toNat_ofNat,BitVec.toNat_ofNat];have b:(2:Nat)^(aj .u64)=18446744073709551616:=by decide
  rw[b,gR (by omega),gR (by omega),Nat.or_comm,gf x,←Nat.two_pow_add_eq_or_of_lt c,xF]
 rw[e,Go.IntWalk.u64_in _ (by omega)]
theorem XQ{x m:Nat}{b:Int}(d:b=(m:Int))(hm:m≤64)(f:x<18446744073709551616)(hx:x*2^m<18446744073709551616):ac .u64 ((ac .u64 (x:Int))*2^(min b.toNat (aj .u64)))=((x*2^m:Nat):Int):=by
 subst d;have e:min (m:Int).toNat (aj .u64)=m:=by show min m 64=m;omega
 have c:(x:Int)*2^m=((x*2^m:Nat):Int):=by simp
 rw[e,Go.IntWalk.u64_in (x:Int) (by omega),c,Go.IntWalk.u64_in _ (by omega)]
theorem Kr(b:UInt8):∀p:List UInt8,sJ (p++ [b])=sJ p+b.toNat*256^p.length
 | []=>by simp[sJ]
 |c::p=>by rw[dF,sJ,sJ,Kr b p,av,kh,Nat.mul_add,gf (256^p.length) 256,Nat.mul_left_comm];omega
theorem CC:∀p:List UInt8,sJ p<256^p.length
 | []=>by simp[sJ]
 |c::p=>by
  have:=CC p;have:=c.toNat_lt;rw[sJ,av,kh];omega
section
variable {W M:Nat→Prop} {h h':ae} {b:Nat} {s:dV}
theorem Sr(n:Nat)(s:dV):(fH n s).1.length≤n:=by
 unfold fH;split
 ·split
  ·exact aY _
  ·simp;omega
 ·exact aY _
theorem Bh(i:InAt W h b s){K:Int→ae→Prop}(o:∀h',InAt W h' b (f8 s).2→Upd (· =b) h h'→K ((f8 s).1:Int) h'):qu 77 [gF b] K h:=by
 refine FK _ ?_;dsimp only[ye,sq,Bv,vI,cg,ic,ji];refine DY i 8 fun q sp d j u=>?_
 have B:=d.len;have y:=Sr 8 s;refine LoopP.ghost (fun(g:Nat) (t:Int×Int) h'=>h'=q∧g≤(fH 8 s).1.length∧t=(((sJ ((fH 8 s).1.take g):Nat):Int),(g:Int))) (fun g=>8-g) 0 ⟨rfl,aY _,rfl⟩ ?_
 rintro I g t h' ⟨rfl,x,rfl⟩ m;refine ak (fun c=>?_) fun c=>?_
 ·have c:(g:Int)<(sp.len:Int):=c
  obtain⟨a,w,_,hc⟩:=d.at0 (ag (show g<(fH 8 s).1.length by omega))
  have v:ac .i64 (8*(g:Int))=((8*g:Nat):Int):=by rw[Go.IntWalk.i64_in _ (by omega)];omega
  have n:sJ ((fH 8 s).1.take (g+1))=sJ ((fH 8 s).1.take g)+(fH 8 s).1[g].toNat*2^(8*g):=by
   rw[List.take_succ_eq_append_getElem (by omega),Kr,aL,cr (by omega),show(256:Nat)=2^8 from rfl,←Nat.pow_mul]
  have f:=CC ((fH 8 s).1.take g);have p:=CC ((fH 8 s).1.take (g+1));rw[aL,cr (by omega),show(256:Nat)=2^8 from rfl,←Nat.pow_mul]at f p
  have z:2^(8*(g+1))≤2^64:=ip (by omega) (by omega);have A:=(fH 8 s).1[g].toNat_lt;refine⟨⟨by omega,by omega⟩,a,w,_,hc,?_⟩
  show(0:Int)≤ac .i64 (8*(g:Int))∧_
  refine⟨by omega,Ky ?_⟩;show Bd (ac .u64 ((az (aj .u64) ((sJ ((fH 8 s).1.take g):Nat):Int)|||az (aj .u64) (ac .u64 ((ac .u64 ((fH 8 s).1[g].toNat:Int))*2^(min (ac .i64 (8*(g:Int)):Int).toNat (aj .u64))))).toNat:Int)) _
  rw[XQ v (by omega) (by omega) (by omega),XY f (by omega),←n];refine Ky (m (g+1) _ _ ⟨rfl,by omega,?_⟩ (by omega))
  show(_,ac .i64 ((g:Int)+1))=_
  rw[Go.IntWalk.i64_in _ (by omega)];rfl
 ·have c:¬(g:Int)<(sp.len:Int):=c
  have e:(fH 8 s).1.take g=(fH 8 s).1:=bL (by omega);have:=o _ j u;rw[f8]at this;show K ((sJ ((fH 8 s).1.take g):Nat):Int) _
  rw[e];exact this
theorem Ha(i:InAt W h b s){K:Int→ae→Prop}(v:∀h',InAt W h' b (dX s).2→Upd (· =b) h h'→K ((dX s).1:Int) h'):qu 78 [gF b] K h:=by
 obtain⟨sp,H,G,Z⟩:=i.ex;have X:=G.len;have hw:∀y,y=b→W y∨h.size≤y:=fun y Y=>.inl (by subst Y;exact i.w)
 refine Jk _ ?_;dsimp only[AI,dy,sq,dq,Bv,iP,cf,vI,cg,ic,ji,pQ,Of];refine yK i (CondP.intro (fun q=>?_) fun q=>?_)
 ·have q:s.2≠0:=by simpa using q
  have e:dX s=(0,s):=by rw[dX,if_neg q]
  rw[e]at v;exact v h i (Upd.refl _ _)
 have q:s.2=0:=by simpa using q
 refine Join.intro (fun _ h'=>h'=h∧sE 0 0 s.1=none) (fun R J=>⟨_,rfl,sp,vc H 0,?_⟩) ?_
 ·refine LoopP.ghost (fun(g:Nat) (t:Int×Int) h'=>h'=h∧g≤9∧t.2=(g:Int)∧g≤s.1.length∧∃n:Nat,t.1=(n:Int)∧n<128^g∧sE 0 0 s.1=sE g n (s.1.drop g)) (fun g=>10-g) 0 ⟨rfl,by omega,rfl,aY _,0,rfl,by simp,rfl⟩ ?_
  rintro I g ⟨t1,t2⟩ h' ⟨rfl,hg,rfl,V,n,rfl,E,f⟩ U;refine ak (fun D=>?_) fun D=>J () _ ⟨rfl,?_⟩
  ·have D:(g:Int)<(sp.len:Int):=D
   have C:g<s.1.length:=by omega
   obtain⟨a,T,_,hc⟩:=G.at0 (ag C);rw[List.drop_eq_getElem_cons C]at f;generalize s.1[g]=x at f hc;have hx:=x.toNat_lt;refine⟨⟨by omega,by omega⟩,a,T,_,hc,?_⟩
   refine Join.intro (fun(t:Bool) h2=>h2=h'∧(t=true↔(g=9∧1<x.toNat)∨(x.toNat=0∧0<g))) (fun R2 o=>?_) ?_
   ·have L:(decide ((g:Int)>0)=true↔0<g):=by rw[decide_eq_true_iff];omega
    refine CondP.intro (fun c=>?_) fun c=>?_
    ·have c:g=9:=by have c:(g:Int)=9:=(by simpa using c);omega
     refine ak (fun p=>o _ _ ⟨rfl,?_⟩) fun p=>CondP.intro (fun d=>o _ _ ⟨rfl,?_⟩) fun d=>o _ _ ⟨rfl,?_⟩
     ·have p:(x.toNat:Int)>1:=p
      simp only[true_iff];exact .inl ⟨c,by omega⟩
     ·have d:x.toNat=0:=by have d:(x.toNat:Int)=0:=(by simpa using d);omega
      rw[L];omega
     ·have d:x.toNat≠0:=fun e=>by simp[e]at d
      have p:¬(x.toNat:Int)>1:=p;simp only[bS,false_iff];omega
    ·have c:g≠9:=fun e=>by subst e;simp at c
     refine CondP.intro (fun d=>o _ _ ⟨rfl,?_⟩) fun d=>o _ _ ⟨rfl,?_⟩
     ·have d:x.toNat=0:=by have d:(x.toNat:Int)=0:=(by simpa using d);omega
      rw[L];omega
     ·have d:x.toNat≠0:=fun e=>by simp[e]at d
      simp only[bS,false_iff];omega
   ·rintro t h' ⟨rfl,P⟩
    rw[sE]at f;refine CondP.intro (fun c=>J () _ ⟨rfl,?_⟩) fun c=>?_
    ·rw[f,if_pos (P.1 c)]
    have c:¬((g=9∧1<x.toNat)∨(x.toNat=0∧0<g)):=fun e=>by rw[P.2 e]at c;cases c
    rw[if_neg c]at f;have Q:ac .i64 (7*(g:Int))=((7*g:Nat):Int):=by rw[Go.IntWalk.i64_in _ (by omega)];omega
    have A:ac .i64 ((g:Int)+1)=((g+1:Nat):Int):=by rw[Go.IntWalk.i64_in _ (by omega)];omega
    have w:(128:Nat)^g=2^(7*g):=by rw[show(128:Nat)=2^7 from rfl,←Nat.pow_mul]
    have z:n+x.toNat%128*2^(7*g)<18446744073709551616:=by
     rw[←w];rcases dB g 9 with F|F
     ·have S:128^(g+1)≤128^9:=ip (by omega) (by omega)
      have N:x.toNat%128*128^g≤127*128^g:=eo _ (by omega);rw[kh]at S;omega
     ·have F:g=9:=by omega
      subst F;have N:x.toNat%128*128^9≤1*128^9:=eo _ (by omega);omega
    refine Ky ?_;rw[aaP];show(0:Int)≤ac .i64 (7*(g:Int))∧_
    refine⟨by omega,Ky ?_⟩;show Bd (ac .u64 ((az (aj .u64) (n:Int)|||az (aj .u64) (ac .u64 ((ac .u64 ((x.toNat%128:Nat):Int))*2^(min (ac .i64 (7*(g:Int)):Int).toNat (aj .u64))))).toNat:Int)) _
    rw[XQ Q (by omega) (by omega) (by omega),XY (w▸E) z];refine Ky (ak (fun p=>?_) fun p=>?_)
    ·have p:(x.toNat:Int)<128:=p
     rw[if_pos (by omega)]at f;have e:dX s=(n+x.toNat*128^g,s.1.drop (g+1),0):=by rw[dX,if_pos q,f]
     rw[e]at v;refine⟨_,rfl,sp,vc H 0,?_⟩;show((0:Int)≤ac .i64 ((g:Int)+1)∧ac .i64 ((g:Int)+1)≤((sp.len:Nat):Int))∧_
     rw[A];refine⟨⟨by omega,by omega⟩,Ky (Ky (Ky ⟨_,rfl,nJ H (by simp) rfl fun h' B u=>?_⟩))⟩
     have O:=G.sub (l:=g+1) (hi:=s.1.length) (m:=sp.cap) (c:=sp.cap-(g+1)) (by omega) (ai _) (by omega);rw[bL (by simp),←X]at O;have hm:x.toNat%128=x.toNat:=by omega
     rw[hm,←w];rw[q]at B;refine v h' (i.up u (sp:=⟨bN sp.a (g+1) sp.cap 1,sp.len-(g+1),sp.cap-(g+1)⟩) B O ?_ (by simp)) u;show sp.len-(g+1)≤sp.cap-(g+1)
     omega
    ·have p:¬(x.toNat:Int)<128:=p
     rw[if_neg (by omega)]at f;refine U (g+1) _ _ ⟨rfl,by omega,A,by omega,_,rfl,?_,?_⟩ (by omega)
     ·rw[←w,kh]
      have N:x.toNat%128*128^g≤127*128^g:=eo _ (by omega);omega
     ·rw[f,←w,show x.toNat%128=x.toNat-128 by omega]
  ·have D:¬(g:Int)<(sp.len:Int):=D
   rw[f,List.drop_eq_nil_of_le (by omega)];rfl
 ·rintro _ h' ⟨rfl,f⟩
  have e:dX s=(0,s.1,9):=by rw[dX,if_pos q,f]
  rw[e]at v;refine lX i fun h' j u=>v h' ?_ u
  rw[cS,if_pos q]at j;exact j
theorem N5(l:List UInt8):dN (VB l)=l.flatMap tK:=by rw[yT];rfl
theorem sY(i:InAt W h b s)(d:Nat)(hm:d≤100000)(f:Int)(w:f≠0){K:ByteArray→ae→Prop}(A:∀h',InAt W h' b (cI d f s).2→Upd (· =b) h h'→K (cI d f s).1 h'):
  ym 81 [gF b,.int .i64 (d:Int),.int .i64 f] K h:=by
 obtain⟨sp,hb,S,Z⟩:=i.ex;have hn:=S.len;have Y:=i.n;have X:∀{h2:ae},∀y,y=b→W y∨h2.size≤y:=fun y hy=>.inl (by subst hy;exact i.w)
 refine HR _ (d:Int) f ?_;dsimp only[zk,sq,dq,iP,cf,iv,dy,pP,dg];refine yK i (CondP.intro (fun m=>?_) fun m=>?_)
 ·have m:s.2≠0:=by simpa using m
  have e:cI d f s=(⟨#[]⟩,s):=by rw[cI,if_neg m]
  rw[e]at A;exact A h i (Upd.refl _ _)
 have m:s.2=0:=by simpa using m
 refine⟨_,rfl,sp,vc hb 0,Ha i fun h6 j u=>?_⟩
 have z:=zO s;refine Join.intro (fun _ h'=>∃s':dV,InAt W h' b s'∧Upd (· =b) h h'∧((s'.2≠0∧cI d f s=(⟨#[]⟩,s.1,s'.2))∨
  (s'.2=0∧(dX s).1≤s'.1.length∧cI d f s=(VB (s'.1.take (dX s).1),s'.1.drop (dX s).1,0)))) (fun R D=>?_) ?_
 ·obtain⟨g,F,G,hl6⟩:=j.ex
  have q:=G.len;refine⟨_,rfl,_,vc F 1,CondP.intro (fun c=>D () _ ⟨_,j,u,.inl ⟨by simpa using c,?_⟩⟩) fun c=>?_⟩
  ·have c:(dX s).2.2≠0:=by simpa using c
   rw[cI,if_pos m];rw[dX,if_pos m]at c⊢;cases B:sE 0 0 s.1 with
   |none=>rfl
   |some p=>rw[B]at c;exact absurd rfl c
  ·have c:(dX s).2.2=0:=by simpa using c
   obtain⟨n,k,B⟩:∃n k,sE 0 0 s.1=some (n,k):=by
    rw[dX,if_pos m]at c;cases B:sE 0 0 s.1 with
    |none=>rw[B]at c;cases c
    |some p=>exact⟨p.1,p.2,rfl⟩
   have er:dX s=(n,s.1.drop k,0):=by rw[dX,if_pos m,B]
   have v:cI d f s=if d<n then(⟨#[]⟩,s.1,f)else if s.1.length-k<n then(⟨#[]⟩,s.1,9)else(VB ((s.1.drop k).take n),s.1.drop (k+n),0):=by rw[cI,if_pos m,B]
   rw[er]at j G q z D⊢;have z:n<18446744073709551616:=z;have q:g.len=(s.1.drop k).length:=q;rw[aW]at q;have em:ac .u64 (d:Int)=(d:Int):=Go.IntWalk.u64_in _ (by omega);have el:ac .u64 (g.len:Int)=(g.len:Int):=Go.IntWalk.u64_in _ (by omega);refine Join.intro (fun(t:Bool) h'=>h'=h6∧(t=true↔d<n)) (fun R2 J=>?_) ?_
   ·refine ak (fun o=>?_) fun _=>J _ _ ⟨rfl,?_⟩
    ·have o:(d:Int)<0:=o
     omega
    ·rw[em,decide_eq_true_iff]
     show(n:Int)>(d:Int)↔_
     omega
   ·rintro t h' ⟨rfl,U⟩
    refine CondP.intro (fun o=>?_) fun o=>⟨_,rfl,g,vc F 0,?_⟩
    ·rw[if_pos (U.1 o)]at v
     refine lX j fun h7 O Q=>D () _ ⟨_,O,u.tr Q,.inl ?_⟩
     rw[cS,if_pos rfl];exact⟨w,v⟩
    ·have o:¬d<n:=fun e=>by rw[U.2 e]at o;cases o
     rw[if_neg o]at v;rw[el];refine ak (fun x=>?_) fun x=>D () _ ⟨_,j,u,.inr ⟨rfl,?_,?_⟩⟩
     ·have x:(n:Int)>(g.len:Int):=x
      rw[if_pos (by omega)]at v;refine lX j fun h7 O Q=>D () _ ⟨_,O,u.tr Q,.inl ?_⟩
      rw[cS,if_pos rfl];exact⟨show(9:Int)≠0 by decide,v⟩
     ·have x:¬(n:Int)>(g.len:Int):=x
      show n≤(s.1.drop k).length
      rw[aW];omega
     ·have x:¬(n:Int)>(g.len:Int):=x
      rw[v,if_neg (by omega)];show _=(VB ((s.1.drop k).take n),(s.1.drop k).drop n,0)
      rw[cW]
 ·rintro _ h' ⟨s',I,L,hc⟩
  obtain⟨sp',E,hs',hl'⟩:=I.ex;refine⟨_,rfl,_,vc E 1,CondP.intro (fun c=>⟨_,rfl,nJ E (by simp) rfl fun N P H=>?_⟩) fun c=>?_⟩
  ·have c:s'.2≠0:=by simpa using c
   rcases hc with⟨_,e⟩|⟨e,_⟩
   ·rw[e]at A
    exact A N ⟨⟨sp,P,(S.upd L X).upd H X,Z⟩,i.w,i.n⟩ (L.tr H)
   ·exact absurd e c
  ·have c:s'.2=0:=by simpa using c
   rcases hc with⟨e,_⟩|⟨_,hle,e⟩
   ·exact absurd c e
   ·have V:=I.n
    rw[e]at A;have ew:ac .i64 ((dX s).1:Int)=((dX s).1:Int):=Go.IntWalk.i64_in _ (by omega);rw[ew];have v:fH (dX s).1 s'=(s'.1.take (dX s).1,s'.1.drop (dX s).1,0):=by rw[fH,if_pos c,if_neg (by omega)]
    refine DY I (dX s).1 fun N spt C T H=>?_
    rw[v]at C T;refine⟨VB (s'.1.take (dX s).1),?_,A N T (L.tr H)⟩;have r:=C.srow;rw[Nat.mul_one]at r;rw[N5];exact r
end
end Go.Proofs
namespace Go.Proofs
structure WO{α:Type}(lt:α→α→Bool):Prop where
 irr:∀a,lt a a=false
 asy:∀a b,lt a b=true→lt b a=false
 ntr:∀a b c,lt a b=false→lt b c=false→lt a c=false
section
variable {α:Type} {lt:α→α→Bool}
def Ku(lt:α→α→Bool)(x a:α):Bool:= !lt a x&& !lt x a
def Srt(lt:α→α→Bool)(l:List α):Prop:=l.Pairwise fun a b=>lt b a=false
structure Eqf(lt:α→α→Bool)(l l':List α):Prop where
 len:l'.length=l.length
 flt:∀x,l'.filter (Ku lt x)=l.filter (Ku lt x)
structure St(lt:α→α→Bool)(l l':List α):Prop where
 eqf:Eqf lt l l'
 srt:Srt lt l'
theorem Eqf.rfl(l:List α):Eqf lt l l:=⟨_root_.rfl,fun _=>_root_.rfl⟩
theorem Eqf.tr{a b c:List α}(h:Eqf lt a b)(k:Eqf lt b c):Eqf lt a c:=⟨k.len.trans h.len,fun x=>(k.flt x).trans (h.flt x)⟩
theorem Eqf.app{a b a' c:List α}(h:Eqf lt a a')(k:Eqf lt b c):Eqf lt (a++b) (a'++c):=
 ⟨by rw[af,af,h.len,k.len],fun x=>by rw[jC,jC,h.flt,k.flt]⟩
theorem Hu(w:WO lt)(a:α):Ku lt a a=true:=by unfold Ku;rw[w.irr];rfl
theorem Eqf.mem(w:WO lt){l b:List α}(h:Eqf lt l b){a:α}:a∈b↔a∈l:=by
 have e:=h.flt a;constructor
 ·intro hm
  have:a∈b.filter (Ku lt a):=dG.2 ⟨hm,Hu w a⟩;rw[e]at this;exact(dG.1 this).1
 ·intro hm
  have:a∈l.filter (Ku lt a):=dG.2 ⟨hm,Hu w a⟩;rw[←e]at this;exact(dG.1 this).1
theorem Xq(w:WO lt){x u v:α}(b:Ku lt x u=true)(hv:Ku lt x v=true):lt v u=false:=by
 unfold Ku at b hv;simp only[Bool.and_eq_true,Bool.not_eq_true']at b hv;exact w.ntr v x u hv.1 b.2
theorem Eqf.swap(w:WO lt){U V:List α}(h:∀u∈U,∀v∈V,lt v u=true):Eqf lt (U++V) (V++U):=by
 refine⟨by rw[af,af,xF],fun x=>?_⟩
 rw[jC,jC];cases hU:U.filter (Ku lt x)with
 |nil=>rw[bi,bZ]
 |cons u us=>
  cases hV:V.filter (Ku lt x)with
  |nil=>rw[bi,bZ]
  |cons v vs=>
   have d:u∈U.filter (Ku lt x):=by rw[hU];exact aD ..
   have hv:v∈V.filter (Ku lt x):=by rw[hV];exact aD ..
   have c:=dG.1 d;have h2:=dG.1 hv;have b:=h u c.1 v h2.1;rw[Xq w c.2 h2.2]at b;cases b
theorem Srt.app{a b:List α}(h:Srt lt a)(k:Srt lt b)(c:∀x∈a,∀y∈b,lt y x=false):Srt lt (a++b):=bW.2 ⟨h,k,c⟩
theorem Srt.left{a b:List α}(h:Srt lt (a++b)):Srt lt a:=(bW.1 h).1
theorem Srt.right{a b:List α}(h:Srt lt (a++b)):Srt lt b:=(bW.1 h).2.1
theorem Srt.cross{a b:List α}(h:Srt lt (a++b)):∀x∈a,∀y∈b,lt y x=false:=(bW.1 h).2.2
theorem Srt.nil:Srt lt ([]:List α):=dh
theorem Srt.one(a:α):Srt lt [a]:=List.pairwise_singleton ..
theorem OV(w:WO lt){S L G:List α}{t:α}(h:St lt S (L++G))(f:∀l∈L,lt t l=false)(c:∀g∈G,lt t g=true):St lt (S++ [t]) (L++t::G):=by
 refine⟨(h.eqf.app (Eqf.rfl [t])).tr ?_,?_⟩
 ·rw[aw]
  exact(Eqf.rfl L).app (Eqf.swap w (U:=G) (V:= [t]) fun u e v hv=>by rw[aq.1 hv];exact c u e)
 ·refine h.srt.left.app (bF.2 ⟨fun g d=>w.asy t g (c g d),h.srt.right⟩) fun x hx y b=>?_
  rcases ar.1 b with rfl|b
  ·exact f x hx
  ·exact h.srt.cross x hx y b
theorem B7(w:WO lt){V1 V2:List α}{u:α}(h:Srt lt (V1++V2))(c:∀v∈V1,lt v u=true)(h2:∀v∈V2,lt v u=false):St lt ([u]++(V1++V2)) (V1++u::V2):=by
 refine⟨?_,?_⟩
 ·rw[←aw]
  have:=(Eqf.swap w (U:= [u]) (V:=V1) fun x hx y b=>by rw[aq.1 hx];exact c y b).app (Eqf.rfl V2)
  rw[aw V1]at this;exact this
 ·refine h.left.app (bF.2 ⟨h2,h.right⟩) fun x hx y b=>?_
  rcases ar.1 b with rfl|b
  ·exact w.asy x y (c x hx)
  ·exact h.cross x hx y b
theorem Ez(w:WO lt){U1 U2:List α}{v:α}(h:Srt lt (U1++U2))(b:∀u∈U1,lt v u=false)(h2:∀u∈U2,lt v u=true):St lt ((U1++U2)++ [v]) (U1++v::U2):=
 OV w ⟨Eqf.rfl _,h⟩ b h2
theorem JC(w:WO lt){U1 U2 V1 V2 R1 R2:List α}(i:Srt lt (U1++U2))(g:Srt lt (V1++V2))(f:∀v∈V1,∀u∈U2,lt v u=true)(h2:∀u∈U1,∀v∈V2,lt v u=false)(d:St lt (U1++V1) R1)(c:St lt (U2++V2) R2):St lt ((U1++U2)++(V1++V2)) (R1++R2):=by
 refine⟨?_,d.srt.app c.srt fun x hx y b=>?_⟩
 ·have e:Eqf lt ((U1++U2)++(V1++V2)) ((U1++V1)++(U2++V2)):=by
   have:=((Eqf.rfl U1).app (Eqf.swap w (U:=U2) (V:=V1) fun u j v hv=>f v hv u j)).app (Eqf.rfl (lt:=lt) V2)
   simp only[aw]at this⊢;exact this
  exact e.tr (d.eqf.app c.eqf)
 ·rcases be.1 ((d.eqf.mem w).1 hx)with hx|hx<;>rcases be.1 ((c.eqf.mem w).1 b)with b|b
  ·exact i.cross x hx y b
  ·exact h2 x hx y b
  ·exact w.asy x y (f x hx y b)
  ·exact g.cross x hx y b
inductive Runs(lt:α→α→Bool)(bs:Nat):List α→Prop where
 |last (l:List α):l.length≤bs→Srt lt l→Runs lt bs l
 |more (b l:List α):b.length=bs→Srt lt b→Runs lt bs l→Runs lt bs (b++l)
theorem Runs.split{bs:Nat}{l:List α}(h:Runs lt bs l)(c:bs≤l.length):∃b r,l=b++r∧b.length=bs∧Srt lt b∧Runs lt bs r:=by
 cases h with
 |last _ h1 h2=>exact⟨l,[],(bi l).symm,by omega,h2,.last _ (aY _) Srt.nil⟩
 |more b r h1 h2 h3=>exact⟨b,r,_root_.rfl,h1,h2,h3⟩
theorem Runs.short{bs:Nat}{l:List α}(h:Runs lt bs l)(c:l.length≤bs):Srt lt l:=by
 cases h with
 |last _ h1 h2=>exact h2
 |more b r h1 h2 h3=>
  rw[af]at c;have:r= []:=ax.1 (by omega);rw[this,bi];exact h2
def Full(lt:α→α→Bool)(bs:Nat)(d:List α):Prop:=∀z,Runs lt bs z→Runs lt bs (d++z)
theorem Full.nil{bs:Nat}:Full lt bs ([]:List α):=fun _ h=>h
theorem Full.app{bs:Nat}{d b:List α}(h:Full lt bs d)(e:b.length=bs)(c:Srt lt b):Full lt bs (d++b):=fun z f=>by
 rw[aw];exact h _ (.more b z e c f)
end
end Go.Proofs
namespace Go.Proofs
open Go Go.Lift
def Nx(t u:Tr):Bool:=(t.1==u.1)&&((((t.2.1==u.2.1)&&((t.2.2.1==u.2.2.1)&&true)))&&((t.2.2.2.1==u.2.2.2.1)&&true))
theorem MN{t u:Tr}{h:ae}{K:Bool→ae→Prop}(c:∀h',Upd No h h'→K (Nx t u) h'):f5 94 [RI t,RI u] K h:=by
 refine eM (E1 t u) .nil Tryz.func94 Tryz.call94 ?_;dsimp only[E1,jP,vJ,db,kR,aR];refine bj fun d b1 k1=>bj fun h2 b2 b=>?_
 have c1:=b.get0 b1;refine⟨_,vc c1 0,_,vc b2 0,?_⟩;have:=c h2 (k1.tr b);unfold Nx at this;rcases hb:(t.1==u.1)with _|_
 ·rw[hb]at this
  exact ay.2 this
 ·rw[hb]at this
  exact aV.2 ⟨_,lA c1 1 0,_,lA c1 1 1,_,lA c1 1 2,_,lA b2 1 0,_,lA b2 1 1,_,lA b2 1 2,this⟩
theorem TreeIs.plain{W:Nat→Prop}{h:ae}{kind:Int}{x:Hs}{t:Tr}{l:List Pr}(i:TreeIs W h kind x t l):(∀a,t.2.2.2.2.1=some a→iS h a)∧(∀a,t.2.2.2.2.2=some a→iS h a):=by
 rcases i with⟨rfl,b,rfl,t⟩|⟨rfl,b,rfl,t⟩
 ·obtain⟨s,nd,_⟩:=t
  obtain⟨d,n,sp,sk,f,e,_⟩:=nd.ex;refine⟨fun a c=>?_,fun a c=>(by cases c)⟩
  cases c;exact⟨_,_,e,show 0<6 by decide⟩
 ·obtain⟨w,F,⟨val,s,f,ks,e,_⟩,_⟩:=t.ex
  refine⟨fun a c=>(by cases c),fun a c=>?_⟩
  cases c;exact⟨_,_,e,show 0<5 by decide⟩
end Go.Proofs
namespace Go.Proofs
open Go Go.Lift
abbrev zPrL:List Value:= [.string (⟨#[]⟩:ByteArray),.string (⟨#[]⟩:ByteArray)]
theorem JZ{h:ae}{t:TypeId}{p:Pr}{k:ae→Prop}(e:∀h',h'[h.size]? =some (.cells #[.string p.1,.string p.2] t (0,0))→Upd No h h'→k h'):
  At (hnew h [.string (⟨#[]⟩:ByteArray),.string (⟨#[]⟩:ByteArray)] t) fun d=>xw d (some (aJ h)) 0 [.string p.1,.string p.2]∧At (iw d (aJ h) 0 [.string p.1,.string p.2]) k:=by
 refine bj fun f b1 k1=>?_
 exact dt (c:=zPrL) (vs:= [.string p.1,.string p.2]) b1 rfl fun h2 b2 b=>e h2 b2 (k1.own b (ai _))
theorem VC{t:TypeId}{M:Nat→Prop}{h:ae}{so:SliceV}{out:List Pr}{p:Pr}{K:SliceV→ae→Prop}(e:OwnS fw 2 t M h so out)(hM:∀b,h.size≤b→M b)(j:out.length+1≤1000000000)
  (g:∀s' c,OwnS fw 2 t M c s' (out++ [p])→Upd M h c→K s' c):
  ∃xs,SRow (hnew h [.string p.1,.string p.2] t) (some (aJ h)) (1*2) xs∧AppP (some [.string (⟨#[]⟩:ByteArray),.string (⟨#[]⟩:ByteArray)]) 2 32 t so.a so.len so.cap 1 xs (hnew h [.string p.1,.string p.2] t) K:=by
 have k:=Upd.hnew No h [.string p.1,.string p.2] t;have i:OwnS fw 2 t (fun _=>True) (hnew h [.string p.1,.string p.2] t) ⟨some (aJ h),1,1⟩ [p]:=⟨rfl,kj,ai _,.inr ⟨h.size,[],rfl,trivial,cO ..,rfl⟩⟩
 refine⟨_,(i.sl (W:=No) fun _ _ _ h=>h).srow,?_⟩
 refine AppP.own (ys:= [p]) (e.upd k fun _ _ h=>h) rfl rfl rfl rfl (by omega) (by simp only[aI];omega) (hM _ (by rw[eI];omega)) fun s' c d f=>?_
 exact g s' c d ((Upd.hnew M h _ _).tr f)
theorem NM{p:Pr}:∀{A B:List Pr},(∀r∈A,kl r.1 p.1)→vG p (A++B)=A++vG p B
 | [],_,_=>rfl
 |r::A,B,h=>by
  rw[dF,DX,if_pos (h r (aD ..)),NM fun q b=>h q (aA _ b)];rfl
theorem tc{i n:Nat}(h:i<n)(b:n≤9223372036854775807):ac .i64 ((i:Int)+1)=((i+1:Nat):Int):=by rw[Go.IntWalk.i64_in _ (by omega)];omega
theorem Kk(p:Pr):∀{l:List Pr},(vG p l).length≤l.length+1
 | []=>ai _
 |q::l=>by
  rw[DX];split
  ·have:=Kk p (l:=l);simp only[av];omega
  ·split<;>simp
theorem Kb{W W':Nat→Prop}{h d:ae}{kind:Int}{x:Hs}{t u:Tr}{l g:List Pr}(i:TreeIs W h kind x t l)(c:TreeIs W' d kind x u g):Nx t u=true:=by
 rcases i with⟨rfl,b,rfl,_⟩|⟨rfl,b,rfl,_⟩<;>rcases c with⟨e,f,rfl,_⟩|⟨e,f,rfl,_⟩
 ·simp[Nx]
 ·cases e
 ·cases e
 ·simp[Nx]
end Go.Proofs
namespace Go.Proofs
open Go Go.Lift
abbrev Wk:=Option Addr×ByteArray×Bool
abbrev Rr(x:Wk):List Value:= [.pointer x.1,.string x.2.1,.bool x.2.2]
theorem KV(x:Wk):(Rr x).length=3∧0<3:=⟨rfl,by omega⟩
theorem QP:∀xs:List Wk,cF (xs.flatMap Rr)=true
 | []=>rfl
 |x::xs=>by rw[aZ];exact jX rfl (QP xs)
theorem TX{α:Type}{l:List α}{i:Nat}(hi:i<l.length)(x:α):l.take i++x::l.drop (i+1)=l.set i x:=by rw[fZ,if_pos hi]
theorem Pe{M:Nat→Prop}{h:ae}{s:SliceV}{xs:List Wk}(L:OwnS Rr 3 302 M h s xs)(hn:xs.length≤1000000000){K:Unit→ae→Prop}(o:∀g,OwnS Rr 3 302 M g s xs.reverse→Upd M h g→K () g):eJ 238 [.slice s.a s.len s.cap] K h:=by
 refine eM (im s) mN Tryz.func238 Tryz.call238 ?_;dsimp only[im,ce,jI,fG,Iw,ic,ji,IZ,vz];have Q:=L.len;have Y:ac .i64 ((s.len:Int)-1)=(xs.length:Int)-1-((0:Nat):Int):=by rw[dL (by omega)];omega
 rw[Y];refine LoopP.ghost (fun(i:Nat) (t:Int×Int) g=>t.1=(i:Int)∧t.2=(xs.length:Int)-1-(i:Int)∧i≤xs.length∧(∃ys,OwnS Rr 3 302 M g s ys∧ys.length=xs.length∧∀k,k<xs.length→ys[k]? =if k<i∨xs.length-i≤k then xs[xs.length-1-k]? else xs[k]?)∧Upd M h g) (fun i=>xs.length-i) 0
  ⟨rfl,rfl,aY _,⟨xs,L,rfl,fun k o=>by rw[if_neg (by omega)]⟩,Upd.refl _ _⟩ ?_
 rintro I i ⟨ti,Z⟩ g ⟨P,R,hi,⟨ys,d,G,f⟩,N⟩ U;(try simp only at P R)
 subst P R;refine ak (fun u=>?_) fun v=>?_
 ·have u:2*i+1<xs.length:=by have:(i:Int)<(xs.length:Int)-1-(i:Int):=u;omega
  obtain⟨j,T⟩:∃j:Nat,(xs.length:Int)-1-(i:Int)=(j:Int):=⟨xs.length-1-i,by omega⟩
  have V:j=xs.length-1-i:=by omega
  (try simp only)
  rw[T];have c:i<ys.length:=by omega
  have q:j<ys.length:=by omega
  have sl:=d.sl (W:=No) fun _ _ _ h=>h
  obtain⟨a,p,_,hv⟩:=sl.at (ag q);obtain⟨a',z,_,m⟩:=sl.at (ag c);rw[p]at z;cases z;refine⟨⟨by omega,by omega⟩,a,p,ys[j].1,hv 0 _ rfl,ys[j].2.1,hv 1 _ rfl,ys[j].2.2,hv 2 _ rfl,⟨by omega,by omega⟩,a,p,ys[i].1,m 0 _ rfl,ys[i].2.1,m 1 _ rfl,ys[i].2.2,m 2 _ rfl,⟨by omega,by omega⟩,?_⟩
  obtain⟨b,C,x,X,w,H⟩:=OwnS.setAt d c ys[j];rw[p]at C;cases C;rw[TX c]at w;refine⟨a,p,X,cP ⟨⟨by omega,by omega⟩,a,p,?_⟩⟩
  obtain⟨b,C,_,E,A,F⟩:=OwnS.setAt w (k:=j) (by rw[lW];omega) ys[i];rw[p]at C;cases C;rw[TX (by rw[lW];omega)]at A;refine⟨E,cP ?_⟩;rw[cX (n:=xs.length) (by omega) (by omega)];have J:ac .i64 ((j:Int)-1)=(xs.length:Int)-1-((i+1:Nat):Int):=by rw[dL (by omega)];omega
  rw[J];refine U (i+1) _ _ ⟨rfl,rfl,by omega,⟨_,A,by rw[lW,lW];exact G,fun k o=>?_⟩,?_⟩ (by omega)
  ·rw[pK,lW]
   have O:=f i (by omega);have D:=f j (by omega);rw[if_neg (by omega),ag c]at O;rw[if_neg (by omega),ag q]at D;by_cases S:j=k
   ·rw[if_pos S,if_pos q,if_pos (by omega),O]
    congr 1;omega
   ·rw[if_neg S,pK]
    by_cases h2:i=k
    ·rw[if_pos h2,if_pos c,if_pos (by omega),D]
     congr 1;omega
    ·rw[if_neg h2,f k o]
     by_cases B:k<i∨xs.length-i≤k
     ·rw[if_pos B,if_pos (by omega)]
     ·rw[if_neg B,if_neg (by omega)]
  ·exact(N.trans H fun y d=>.inl (by have d:y=a.block:=d;rw[d];exact x)).trans F fun y d=>.inl (by have d:y=a.block:=d;rw[d];exact x)
 ·have v:xs.length≤2*i+1:=by have:¬(i:Int)<(xs.length:Int)-1-(i:Int):=v;omega
  have e:ys=xs.reverse:=by
   apply List.ext_getElem?;intro k;by_cases o:k<xs.length
   ·rw[f k o,List.getElem?_reverse o]
    by_cases B:k<i∨xs.length-i≤k
    ·rw[if_pos B]
    ·rw[if_neg B];congr 1;omega
   ·rw[me (by omega),me (by rw[List.length_reverse];omega)]
  subst e;exact o _ d N
theorem OwnS.pop{α:Type}{f:α→List Value}{sz:Nat}{t:TypeId}{M:Nat→Prop}{h:ae}{s:SliceV}{xs:List α}{x:α}(c:OwnS f sz t M h s (xs++ [x])):OwnS f sz t M h ⟨bN s.a 0 s.cap sz,xs.length,s.cap⟩ xs:=by
 have j:=c.len;have hc:=c.cap;rw[af,aI]at j;refine⟨rfl,c.ne,by simp only;omega,c.blk.imp id fun⟨b,d,i,e,bh,g⟩=>⟨b,f x++d,?_,e,?_,?_⟩⟩
 ·simp only;rw[i,sub_zero]
 ·rw[bh,cQ,aZ,List.flatMap_nil,bi,aw]
 ·rw[af,(c.ne x).1,g]
  simp only;have:s.cap-xs.length=(s.cap-s.len)+1:=by omega
  rw[this,Nat.add_mul];omega
structure It where
 b:Nat
 ah:ByteArray
 own:Bool
 sl:ByteArray
 w:Option ByteArray
 F:Fo
def It.raw(i:It):Wk:=(some ⟨i.b,0,none⟩,i.ah,i.own)
def It.key(i:It):List UInt8:=i.ah.data.toList++i.sl.data.toList
def It.prs(i:It):List (List UInt8×ByteArray):=if i.own then(i.w.map fun v=>(i.key,v)).toList else(DP i.w i.F).map fun p=>(i.key++p.1,p.2)
def It.cost(i:It):Nat:=if i.own then 1 else 2+2*Ht i.F
def xf(l:List It):List (List UInt8×ByteArray):=l.reverse.flatMap It.prs
def kY(l:List It):Nat:=(l.map It.cost).sum
theorem JL(l:List It)(i:It):xf (l++ [i])=i.prs++xf l:=by unfold xf;rw[List.reverse_append];rfl
theorem zZ(l m:List It):kY (l++m)=kY l+kY m:=by unfold kY;rw[cj,rR]
theorem Ub(l m:List It):xf (l++m)=xf m++xf l:=by unfold xf;rw[List.reverse_append,cQ]
end Go.Proofs
namespace Go.Proofs
open Go Go.Lift
abbrev qk(z:Hs)(p:Pr):List Value:= [.string p.1,.string p.2,.int .u64 (jZ z p.1)]
theorem LH(z:Hs)(p:Pr):(qk z p).length=3∧0<3:=⟨rfl,by omega⟩
theorem QR(z:Hs):∀xs:List Pr,cF (xs.flatMap (qk z))=true
 | []=>rfl
 |x::xs=>by rw[aZ];exact jX rfl (QR z xs)
section
variable {α:Type} {f:α→List Value} {sz:Nat} {t:TypeId} {M:Nat→Prop} {h:ae} {s:SliceV} {P Q:List α} {x:α}
theorem fF(b:OwnS f sz t M h s (P++x::Q)){i:Nat}(hi:i=P.length):∃a,s.a=some a∧∀j v,(f x)[j]? =some v→bh h (adr (adr a (i*sz)) j)=some v:=by
 obtain⟨a,c,_,hv⟩:=(b.sl (W:=No) fun _ _ _ h=>h).at (i:=i) (x:=x) (by rw[hi,aH (ai _),Nat.sub_self];rfl)
 exact⟨a,c,hv⟩
theorem lY(g:OwnS f sz t M h s (P++x::Q))(y:α){a:Addr}(p:s.a=some a){i:Nat}(hi:i=P.length){G:ae→Prop}(m:∀h',OwnS f sz t M h' s (P++y::Q)→Upd M h h'→G h'):
  xw h (some (adr a (i*sz))) 0 (f y)∧At (iw h (adr a (i*sz)) 0 (f y)) G:=by
 obtain⟨a',d,hM,o,c,j⟩:=OwnS.setAt g (k:=i) (by rw[hi,af,av];omega) y;rw[p]at d;cases d;refine⟨o,cP (m _ ?_ (j.mono fun b e=>.inl (by have e:b=a.block:=e;rw[e];exact hM)))⟩
 subst hi;have q:(P++x::Q).take P.length=P:=List.take_left;have n:(P++x::Q).drop (P.length+1)=Q:=by rw[←cW,List.drop_left];rfl
 rw[q,n]at c;exact c
end
theorem qt{α:Type}{f:α→List Value}{sz:Nat}{t:TypeId}{M:Nat→Prop}{h:ae}{s:SliceV}{xs:List α}{x:α}(b:OwnS f sz t M h s xs){i:Nat}(hi:xs[i]? =some x):∃a,s.a=some a∧∀j v,(f x)[j]? =some v→bh h (adr (adr a (i*sz)) j)=some v:=by
 obtain⟨a,c,_,hv⟩:=(b.sl (W:=No) fun _ _ _ h=>h).at hi
 exact⟨a,c,hv⟩
theorem UW{α:Type}{A U X:List α}{i:Nat}(hi:A.length+U.length≤i):(A++(U++X))[i]? =X[i-A.length-U.length]?:=by
 rw[aH (by omega),aH (by omega)]
theorem LL{α:Type}{A U V B:List α}{i k:Nat}{x:α}(hi:A.length+U.length+k=i)(b:V[k]? =some x):(A++(U++(V++B)))[i]? =some x:=by
 rw[UW (by omega),show i-A.length-U.length=k by omega,bw (bv.1 b).1];exact b
theorem F2{α:Type}{A U X:List α}{i k:Nat}{x:α}(hi:A.length+k=i)(b:U[k]? =some x):(A++(U++X))[i]? =some x:=by
 rw[aH (by omega),show i-A.length=k by omega,bw (bv.1 b).1];exact b
theorem uw{i j:Nat}(h:i+j≤4000000000):ac .i64 (Int.fdiv (ac .u64 (ac .i64 ((i:Int)+(j:Int)))) (2^(min (1:Int).toNat (aj .u64))))=(((i+j)/2:Nat):Int):=by
 have b:(2^(min (1:Int).toNat (aj .u64)):Int)=2:=rfl;rw[b,dL (x:=(i:Int)+(j:Int)) (by omega),Go.IntWalk.u64_in _ (by omega),Int.fdiv_eq_ediv_of_nonneg _ (by omega),dL (by omega)];omega
theorem jb{α:Type}{lt:α→α→Bool}(w:WO lt){l:List α}(h:Srt lt l){i j:Nat}(c:i≤j){x y:α}(hx:l[i]? =some x) (d:l[j]? =some y):lt y x=false:=by
 obtain⟨hi,rfl⟩:=bv.1 hx;obtain⟨e,rfl⟩:=bv.1 d;rcases dB i j with b|b
 ·exact List.pairwise_iff_getElem.1 h i j hi e b
 ·have:i=j:=by omega
  subst this;exact w.irr _
theorem CD{α:Type}(l:List α):l= []∨∃b y,l=b++ [y]:=by
 rcases List.eq_nil_or_concat l with h|⟨b,y,h⟩
 ·exact .inl h
 ·exact .inr ⟨b,y,by rw[h,List.concat_eq_append]⟩
structure Cmp{α:Type}(lt:α→α→Bool)(f:α→List Value)(M:Nat→Prop)(Iv:ae→Prop)(V:Value):Prop where
 call:∀(a b:α) {h:ae} {K:Int→ae→Prop},Iv h→(∀h' e,Upd No h h'→decide (e<0)=lt a b→K e h')→HV PG V [.agg (f a).toArray,.agg (f b).toArray] [.c (.int .i64)] K h
 step:∀{h h':ae},Upd M h h'→Iv h→Iv h'
end Go.Proofs
