/- A part of the proof that the named laws of this program answer true, whatever the input. -/
import Derived.Test.YtakmnggbneeicaaGreatDoorPart3
import Derived.Test.YtakmnggbneeicaaGreatDoorPart2
import Derived.Sort.AssemblyPlain
import Derived.Test.YtakmnggbneeicaaGreatDoorPart0
import Derived.Test.YtakmnggbneeicaaGreatDoorLaw0
open BitVec renaming ofInt->aB
open Bool renaming and_eq_true->bA,true_and->ki
open ByteArray renaming mk->lz
open Go.IntKind renaming wrap->ac,bits->ak
open Go.Op renaming bytesLess->bM
open Int renaming toNat_natCast->bi,le_refl->eC,ne_of_lt->qd
open List renaming any_eq_true->cg,take_succ_eq_append_getElem->ax,mem_cons_of_mem->ay,mem_cons_self->al,map_append->cF,length_map->bS,pairwise_cons->aC,mem_cons->au,getElem_of_mem->bJ,getElem_mem->aG,length_eq_zero_iff->aJ,getElem?_eq_getElem->af,length_take->aY,take_length->bZ,mem_append->aL,mem_singleton->av,take_of_length_le->aS,filter_append->ct,filter_cons->aZ,length_filter_le->bP,filterMap_cons->kC,pairwise_map->fX,mem_filter->bL,mem_map->aR,nil_append->cX,getElem_inj->nU,append_nil->aX
open List.Pairwise renaming nil->cq
open Nat renaming le_trans->aQ,le_refl->aj,zero_le->aK,le_of_eq->cI,lt_of_lt_of_le->aA,lt_or_ge->cp,not_lt->df
namespace Go.Proofs
open Go.Lift
section
variable {n i:Nat}{L A B O T:bY}{b o:Option dO}{p:Int}{k:dO}{l:List Ch}
theorem Few.del(f:Few n L)(k:dO):Few n (mW k L):=⟨DX f.up,aQ WD f.len,λp a=>f.fit p (Gt.1 a).1⟩
theorem N3{W:eh}{x:Hs}{h:ad}{kind:Int}{r:Rt}{l:bY}(i:RefIs W h kind x r l)(G:∀y,W y->y<h.size)(F:bO l)(I:Fit l)(A:l.length<=1000000)(k:dO)(E:k.size<=256){K:Rt×Int->eu}
  (B:∀h' r' e,RefIs W h' kind x r' (mW k l)->Upd No h h'->K (r',e) h'):F0 77 [UT r,.string k] K h:=by
 refine cZ (AP r k) .nil Tryz.func77 Tryz.call77 ?_;dsimp only[AP,ee,sN,ou,kr,iL,dh,Gb,dH,LW,ww,bh,ai];refine aV λC b1 k1=>aV λN b2 z=>?_
 have P:=bw b1;have L:=bw b2;have w:h.size<=C.size:=k1.size;have d:=k1.tr z;have f:=z.get0 b1;obtain⟨s,rfl,u,hc⟩:=i;refine aq (λh=>absurd h a4) λ_=>?_
 refine⟨s,vc f 4,Sm (u.upd d λ_ h=>h.elim) F I A k λv _ _=>?_⟩
 refine ez (λhb=>?_) λhb=>?_
 .have q:cE l k=false:=by simpa using hb
  refine⟨_,vc f 0,_,vc f 1,_,vc f 2,_,vc f 3,s,vc f 4,?_⟩;refine cy (c:=uN Sf) (vs:=uN (kind,hx kind x.k0,hx kind x.k1,hx kind x.mask,s)) b2 rfl λt a b=>?_
  refine⟨_,vc a 0,_,vc a 1,_,vc a 2,_,vc a 3,s,vc a 4,?_⟩;refine B t (kind,hx kind x.k0,hx kind x.k1,hx kind x.mask,s) 4 ⟨s,rfl,?_,hc⟩ (d.own b w);rw[zi (B7 q)];exact u.upd (d.own b w) λ_ h=>h.elim
 .refine⟨s,vc f 4,N5 (u.upd d λ_ h=>h.elim) A k λm O p g=>?_⟩
  refine tC (i:=4) (c':=(uN (kind,hx kind x.k0,hx kind x.k1,hx kind x.mask,m)).toArray) (g.get0 f) (show 4<5 by decide) rfl λJ o j=>?_
  refine⟨_,vc o 0,_,vc o 1,_,vc o 2,_,vc o 3,m,vc o 4,?_⟩;refine cy (c:=uN Sf) (vs:=uN (kind,hx kind x.k0,hx kind x.k1,hx kind x.mask,m)) (j.oth (g.get0 b2) a4) rfl λt a b=>?_
  refine⟨_,vc a 0,_,vc a 1,_,vc a 2,_,vc a 3,m,vc a 4,?_⟩;have n:=(p.upd j λy D e=>by have e:y=h.size:=e;omega).upd b λy D e=>by have e:y=C.size:=e;omega
  refine B t (kind,hx kind x.k0,hx kind x.k1,hx kind x.mask,m) 0 ⟨m,rfl,n.sl λy D _ H=>by have:=G y H;omega,n.cap⟩ (((d.tr g).own j (aj _)).own b a4)
theorem WP(a:bO A)(b:bO B){c:Ch}(h:c∈iE A B):c=(c.1,(look A c.1).getD ⟨#[]⟩,(look B c.1).getD ⟨#[]⟩,(look A c.1).isSome,(look B c.1).isSome)/\look A c.1≠look B c.1:=by
 have:=QX a b c.1;rw[Ww (Bf a b) h]at this;exact YF this.symm
theorem mQ(f:Few n A)(k:dO):((look A k).getD ⟨#[]⟩).size<=30:=by
 cases e:look A k with
 |none=>exact aK _
 |some v=>exact(f.fit _ (mR e)).2
theorem EL{m:Nat}(b:Few n A)(a:Few m B):∀c∈iE A B,c.1.size<=30/\c.2.1.size<=30/\c.2.2.1.size<=30:=λc hc=>by
 obtain⟨e,ne⟩:=WP b.up a.up hc;refine⟨?_,?_,?_⟩
 .cases ea:look A c.1 with
  |some v=>exact(b.fit _ (mR ea)).1
  |none=>
   cases eb:look B c.1 with
   |some v=>exact(a.fit _ (mR eb)).1
   |none=>rw[ea,eb]at ne;exact absurd rfl ne
 .rw[e];exact mQ b _
 .rw[e];exact mQ a _
theorem Vi(a:bO A)(b:bO B)(k:dO):(iE A B).any (λc=>decide (c.1=k))=decide (look A k≠look B k):=by
 have h:=QX a b k;unfold Zh at h;by_cases e:look A k=look B k
 .rw[if_pos e]at h
  rw[show decide (look A k≠look B k)=false by simpa using e]
  unfold fd at h;rw[List.find?_eq_none]at h;rw[List.any_eq_false];exactλc hc=>h c hc
 .rw[if_neg e]at h
  rw[show decide (look A k≠look B k)=true by simpa using e]
  obtain⟨hc,ek⟩:=QW h;exact cg.2 ⟨_,hc,a7⟩
def zN(o:Option dO):Sd:=(o.getD ⟨#[]⟩,o.isSome)
theorem XW{a:Option dO}:zN a=zN b↔a=b:=by
 constructor
 .intro h
  unfold zN at h;cases a<;>cases b<;>simp_all
 .rintro rfl;rfl
def tE(b o t:Option dO)(p:Int):Option dO×Bool:=if o=t\/t=b then(o,true)else if o=b then(t,true)else if p=1 then(o,false)else if p=2 then(t,false)else(b,false)
theorem RX(b o t:Option dO)(p:Int):yO (zN b) (zN o) (zN t) p=(zN (tE b o t p).1,(tE b o t p).2):=by
 unfold yO tE;simp only[XW];split
 .rfl
 .split
  .rfl
  .split
   .rfl
   .split<;>rfl
theorem DL(b o t:Option dO)(p:Int):(tE b o t p).1=b\/(tE b o t p).1=o\/(tE b o t p).1=t:=by
 unfold tE;split
 .exact .inr (.inl rfl)
 .split
  .exact .inr (.inr rfl)
  .split
   .exact .inr (.inl rfl)
   .split
    .exact .inr (.inr rfl)
    .exact .inl rfl
theorem NH{t:Option dO}:(tE b o t p).2=false↔o≠t/\t≠b/\o≠b:=by
 unfold tE;by_cases a:o=t\/t=b
 .rw[if_pos a]
  exact⟨λh=>(by cases h),λh=>absurd a λe=>e.elim h.1 h.2.1⟩
 .rw[if_neg a]
  by_cases c:o=b
  .rw[if_pos c]
   exact⟨λh=>(by cases h),λh=>absurd c h.2.2⟩
  .rw[if_neg c]
   refine⟨λ_=>⟨λe=>a (.inl e),λe=>a (.inr e),c⟩,λ_=>?_⟩
   split
   .rfl
   .split<;>rfl
def Jr(L:bY)(k:dO):Option dO->bY
 |some v=>gw (k,v) L
 |none=>mW k L
theorem TX(L:bY)(k:dO)(o:Option dO)(j:dO):look (Jr L k o) j=if k=j then o else look L j:=by
 cases o with
 |some v=>exact HH (k,v) j
 |none=>exact HI k j
theorem Qc(h:bO L)(k:dO)(o:Option dO):bO (Jr L k o):=by
 cases o with
 |some v=>exact pj _ h
 |none=>exact DX h
theorem Ws(f:Few n L)(b:k.size<=30)(a:(o.getD ⟨#[]⟩).size<=30):Few (n+1) (Jr L k o):=by
 cases o with
 |some v=>exact f.ins (k,v) b a
 |none=>have g:=f.del k;exact⟨g.up,Nat.le_succ_of_le g.len,g.fit⟩
def tk(B O T:bY)(p:Int)(k:dO):Option dO×Bool:=tE (look B k) (look O k) (look T k) p
def rP(B O T:bY)(p:Int)(acc:bY)(l:List Ch):bY:=l.foldl (λacc c=>Jr acc c.1 (tk B O T p c.1).1) acc
theorem Ot{acc:bY}(hi:i<l.length):rP B O T p acc (l.take (i+1))=Jr (rP B O T p acc (l.take i)) l[i].1 (tk B O T p l[i].1).1:=by
 unfold rP;rw[ax hi,List.foldl_append];rfl
theorem E2{B O T:bY}{p:Int}{k:dO}:∀{l:List Ch} {acc:bY},look (rP B O T p acc l) k=if(fd l k).isSome then(tk B O T p k).1 else look acc k
 | [],_=>rfl
 |c::l,acc=>by
  show look (rP B O T p (Jr acc c.1 (tk B O T p c.1).1) l) k=_
  rw[E2,xQ,TX];by_cases e:c.1=k
  .subst e
   rw[if_pos rfl,if_pos rfl,if_pos (show(some c).isSome=true from rfl)]
   split<;>rfl
  .rw[if_neg e,if_neg e]
theorem xL{B O T:bY}{p:Int}:∀{l:List Ch} {acc:bY},bO acc->bO (rP B O T p acc l)
 | [],_,h=>h
 |c::l,_,h=>xL (l:=l) (Qc h c.1 _)
theorem Bu{B O T:bY}{p:Int}{nb no nt:Nat}(a:Few nb B)(b:Few no O)(f:Few nt T):∀{l:List Ch} {n:Nat} {acc:bY},(∀c∈l,c.1.size<=30)->Few n acc->Few (n+l.length) (rP B O T p acc l)
 | [],_,_,_,h=>h
 |c::l,n,_,hl,h=>by
  have g:((tk B O T p c.1).1.getD ⟨#[]⟩).size<=30:=by
   unfold tk;rcases DL (look B c.1) (look O c.1) (look T c.1) p with e|e|e
   .rw[e];exact mQ a _
   .rw[e];exact mQ b _
   .rw[e];exact mQ f _
  have:=Bu (p:=p) a b f (l:=l) (λd hd=>hl d (ay _ hd)) (Ws h (hl c (al ..)) g)
  rw[List.length_cons,show n+(l.length+1)=n+1+l.length by omega]
  exact this
def ji(B O T:bY)(p:Int):bY:=rP B O T p O (iE B T)
theorem HG(a:bO B)(b:bO T)(k:dO):look (ji B O T p) k=(tk B O T p k).1:=by
 unfold ji;rw[E2,QX a b];unfold Zh;by_cases e:look B k=look T k
 .rw[if_pos e]
  show look O k=_
  unfold tk tE;rw[if_pos (.inr e.symm)]
 .rw[if_neg e];rfl
def F5(B O T:bY)(p:Int)(l:List Ch):List dO:=(l.map (·.1)).filter λk=> !(tk B O T p k).2
theorem Ul(hi:i<l.length):F5 B O T p (l.take (i+1))=F5 B O T p (l.take i)++if(tk B O T p l[i].1).2 then[]else[l[i].1]:=by
 unfold F5;rw[ax hi,cF,List.filter_append];congr 1
 rw[List.map_singleton,List.filter_cons,List.filter_nil];cases(tk B O T p l[i].1).2<;>rfl
theorem WJ:(F5 B O T p l).length<=l.length:=aQ (List.length_filter_le ..) (cI (bS ..))
abbrev oW(B O T:bY)(p:Int):List dO:=F5 B O T p (iE B T)
theorem VQ(a:bO B)(b:bO T):k∈oW B O T p↔(tk B O T p k).2=false:=by
 unfold oW F5;rw[List.mem_filter];refine⟨λh=>by simpa using h.2,λh=>⟨?_,by rw[h];rfl⟩⟩
 have ne:=(NH.1 h).2.1;have:=Vi a b k;rw[show decide (look B k≠look T k)=true by simpa usingλe=>ne e.symm]at this
 obtain⟨c,hc,e⟩:=cg.1 this;exact List.mem_map.2 ⟨c,hc,by simpa using e⟩
theorem XL(a:bO B)(b:bO T):(oW B O T p).Pairwise kl:=by
 unfold oW F5;refine List.Pairwise.sublist List.filter_sublist ?_;exact List.pairwise_map.2 (Bf a b)
theorem OA:∀{l m:List dO},l.Pairwise kl->m.Pairwise kl->(∀k,k∈l↔k∈m)->l=m
 | [],[],_,_,_=>rfl
 | [],q::m,_,_,h=>absurd ((h q).2 (al ..)) a7
 |p::l,[],_,_,h=>absurd ((h p).1 (al ..)) a7
 |p::l,q::m,c,a,h=>by
  have c:=aC.1 c;have a:=aC.1 a;have e:p=q:=by
   rcases au.1 ((h p).1 (al ..))with e|g
   .exact e
   .rcases au.1 ((h q).2 (al ..))with e|f
    .exact e.symm
    .exact absurd (dI (c.1 q f) (a.1 p g)) (bT _)
  subst e;rw[OA c.2 a.2 λz=>?_]
  constructor
  .intro d
   rcases au.1 ((h z).1 (ay _ d))with e|b
   .exact absurd (c.1 z d) (by rw[e];exact bT _)
   .exact b
  .intro d
   rcases au.1 ((h z).2 (ay _ d))with e|b
   .exact absurd (a.1 z d) (by rw[e];exact bT _)
   .exact b
abbrev Cf:=dO×Sd×Sd×Sd
def DD(B O T:bY)(k:dO):Cf:=(k,zN (look B k),zN (look O k),zN (look T k))
end
section
open Go.Sort
variable {i j:Nat}{t b c:Int}{R:eu}
abbrev WL:Value:=.func (.func 176) #[] #[]
def D4(dec:Int->Ch)(i j:Int):Bool:=abT (dec i) (dec j)
structure SA(dec:Int->Ch)(M:eh)(s:f9)(h:ad)(d:Array Int):Prop where
 own:OwnS Jj 5 200 M h s (d.toList.map dec)
 small:d.size<=1000000000
 lt:∀b,M b->b<h.size
variable {dec:Int->Ch} {M:eh} {s:f9} {h:ad} {d:Array Int}
theorem SA.len(a:SA dec M s h d):s.len=d.size:=by have:=a.own.len;simpa using this
theorem SA.upd0{h':ad}(a:SA dec M s h d)(k:Upd No h h'):SA dec M s h' d:=⟨a.own.upd k λ_ _ h=>h,a.small,λb hb=>aA (a.lt b hb) k.size⟩
theorem SA.at(c:SA dec M s h d)(hi:i<d.size):∃a,s.a=some a/\∀j v,(Jj (dec d[i]!))[j]? =some v->aI h (adr (adr a (((i:Int)).toNat*5)) j)=some v:=by
 have hx:(d.toList.map dec)[i]? =some (dec d[i]!):=by
  rw[List.getElem?_map,Array.getElem?_toList,Array.getElem?_eq_getElem hi,getElem!_pos d i hi];rfl
 obtain⟨a,b,_,hv⟩:=(c.own.sl (W:=No) λ_ _ _ h=>h).at hx
 exact⟨a,b,by simpa using hv⟩
theorem SA.rd(b:SA dec M s h d)(c:t=(i:Int))(hi:i<d.size){R:dO->dO->dO->Bool->Bool->Prop}(f:R (dec d[i]!).1 (dec d[i]!).2.1 (dec d[i]!).2.2.1 (dec d[i]!).2.2.2.1 (dec d[i]!).2.2.2.2):
  ((0:Int)<=t/\t<((s.len:Nat):Int))/\∃a:Addr,s.a=some a/\∃v1:dO,aI h (adr (adr a (t.toNat*5)) 0)=some (.string v1)/\∃v2:dO,aI h (adr (adr a (t.toNat*5)) 1)=some (.string v2)/\∃v3:dO,aI h (adr (adr a (t.toNat*5)) 2)=some (.string v3)/\∃v4:Bool,aI h (adr (adr a (t.toNat*5)) 3)=some (.bool v4)/\∃v5:Bool,aI h (adr (adr a (t.toNat*5)) 4)=some (.bool v5)/\R v1 v2 v3 v4 v5:=by
 subst c;obtain⟨a,e,hv⟩:=b.at hi;exact⟨by rw[b.len];omega,a,e,_,hv 0 _ rfl,_,hv 1 _ rfl,_,hv 2 _ rfl,_,hv 3 _ rfl,_,hv 4 _ rfl,f⟩
theorem SA.st(c:SA dec M s h d){x:Int}(g:t=(i:Int))(hi:i<d.size)(o:∀h',SA dec M s h' (d.setIfInBounds i x)->Upd M h h'->R h'):
  ((0:Int)<=t/\t<((s.len:Nat):Int))/\∃a:Addr,s.a=some a/\(qR h (some (adr a (t.toNat*5))) 0 [.string (dec x).1,.string (dec x).2.1,.string (dec x).2.2.1,.bool (dec x).2.2.2.1,.bool (dec x).2.2.2.2]/\At (fu h (adr a (t.toNat*5)) 0 [.string (dec x).1,.string (dec x).2.1,.string (dec x).2.2.1,.bool (dec x).2.2.2.1,.bool (dec x).2.2.2.2]) R):=by
 subst g;obtain⟨a,j,hM,n,m,f⟩:=OwnS.setAt c.own (k:=i) (by simpa using hi) (dec x);refine⟨by rw[c.len];omega,a,j,?_⟩;rw[bi];have e:Upd M h _:=f.mono λb hb=>.inl (by have hb:b=a.block:=hb;rw[hb];exact hM)
 refine⟨n,bF (o _ ⟨?_,by simpa using c.small,λb hb=>aA (c.lt b hb) f.size⟩ e)⟩
 rw[show(d.setIfInBounds i x).toList.map dec=(d.toList.map dec).take i++dec x::(d.toList.map dec).drop (i+1) by
  rw[Array.toList_setIfInBounds,List.map_set,List.set_eq_take_append_cons_drop,if_pos (by simpa using hi)]]
 exact m
@[simp] theorem aay(d:Array Int)(i j:Nat):(swp d i j).size=d.size:=by simp[swp]
theorem SA.swap(k:SA dec M s h d)(n:b=(i:Int))(m:c=(j:Int))(hi:i<d.size)(o:j<d.size)(q:∀h',SA dec M s h' (swp d i j)->Upd M h h'->R h'):
  ((0:Int)<=c/\c<((s.len:Nat):Int))/\∃a:Addr,s.a=some a/\∃v1:dO,aI h (adr (adr a (c.toNat*5)) 0)=some (.string v1)/\∃v2:dO,aI h (adr (adr a (c.toNat*5)) 1)=some (.string v2)/\∃v3:dO,aI h (adr (adr a (c.toNat*5)) 2)=some (.string v3)/\∃v4:Bool,aI h (adr (adr a (c.toNat*5)) 3)=some (.bool v4)/\∃v5:Bool,aI h (adr (adr a (c.toNat*5)) 4)=some (.bool v5)/\
   (((0:Int)<=b/\b<((s.len:Nat):Int))/\∃a:Addr,s.a=some a/\∃w1:dO,aI h (adr (adr a (b.toNat*5)) 0)=some (.string w1)/\∃w2:dO,aI h (adr (adr a (b.toNat*5)) 1)=some (.string w2)/\∃w3:dO,aI h (adr (adr a (b.toNat*5)) 2)=some (.string w3)/\∃w4:Bool,aI h (adr (adr a (b.toNat*5)) 3)=some (.bool w4)/\∃w5:Bool,aI h (adr (adr a (b.toNat*5)) 4)=some (.bool w5)/\
    (((0:Int)<=b/\b<((s.len:Nat):Int))/\∃a:Addr,s.a=some a/\(qR h (some (adr a (b.toNat*5))) 0 [.string v1,.string v2,.string v3,.bool v4,.bool v5]/\At (fu h (adr a (b.toNat*5)) 0 [.string v1,.string v2,.string v3,.bool v4,.bool v5]) (λg=>
     (((0:Int)<=c/\c<((s.len:Nat):Int))/\∃a:Addr,s.a=some a/\(qR g (some (adr a (c.toNat*5))) 0 [.string w1,.string w2,.string w3,.bool w4,.bool w5]/\At (fu g (adr a (c.toNat*5)) 0 [.string w1,.string w2,.string w3,.bool w4,.bool w5]) R)))))):=by
 refine k.rd m o (k.rd n hi (k.st (x:=d[j]!) n hi λg f k1=>f.st (x:=d[i]!) m (by simpa using o) λt e p=>q t e (k1.tr p)))
theorem SA.less(f:SA dec M s h d)(o:b=(i:Int))(g:c=(j:Int))(hi:i<d.size)(p:j<d.size){R:Int->eu}(n:∀h' e,SA dec M s h' d->Upd No h h'->decide (e<0)=D4 dec d[i]! d[j]!->R e h'):
  ((0:Int)<=b/\b<((s.len:Nat):Int))/\∃a:Addr,s.a=some a/\∃v1:dO,aI h (adr (adr a (b.toNat*5)) 0)=some (.string v1)/\∃v2:dO,aI h (adr (adr a (b.toNat*5)) 1)=some (.string v2)/\∃v3:dO,aI h (adr (adr a (b.toNat*5)) 2)=some (.string v3)/\∃v4:Bool,aI h (adr (adr a (b.toNat*5)) 3)=some (.bool v4)/\∃v5:Bool,aI h (adr (adr a (b.toNat*5)) 4)=some (.bool v5)/\
   (((0:Int)<=c/\c<((s.len:Nat):Int))/\∃a:Addr,s.a=some a/\∃w1:dO,aI h (adr (adr a (c.toNat*5)) 0)=some (.string w1)/\∃w2:dO,aI h (adr (adr a (c.toNat*5)) 1)=some (.string w2)/\∃w3:dO,aI h (adr (adr a (c.toNat*5)) 2)=some (.string w3)/\∃w4:Bool,aI h (adr (adr a (c.toNat*5)) 3)=some (.bool w4)/\∃w5:Bool,aI h (adr (adr a (c.toNat*5)) 4)=some (.bool w5)/\
    HV PG WL [.agg #[.string v1,.string v2,.string v3,.bool v4,.bool v5],.agg #[.string w1,.string w2,.string w3,.bool w4,.bool w5]] [.c (.int .i64)] R h):=
 f.rd o hi (f.rd g p ((abg M).call (dec d[i]!) (dec d[j]!) trivial λh' e k m=>n h' e (f.upd0 k) k m))
end
section
open Go.Sort
variable {dec:Int->Ch} {M:eh} {s:f9} {h:ad} {d:Array Int}
@[simp] theorem Xo(lt:Int->Int->Bool)(hi first root:Nat)(d:Array Int):(siftDown lt hi first root d).size=d.size:=by
 fun_induction siftDown lt hi first root d<;>simp_all
@[simp] theorem HQ(lt:Int->Int->Bool)(hi first:Nat):∀(k:Nat) (d:Array Int),(heapBuild lt hi first k d).size=d.size
 |0,d=>rfl
 |k+1,d=>by rw[heapBuild,HQ lt hi first k];simp
theorem Y2{root hi first:Nat}(L:SA dec M s h d)(hb:first+hi<=d.size){K:Unit->eu}(H:∀h',SA dec M s h' (siftDown (D4 dec) hi first root d)->Upd M h h'->K () h')(O:root<=1000000000):
  dx 295 [.slice s.a s.len s.cap,.int .i64 root,.int .i64 hi,.int .i64 first,WL] K h:=by
 refine cZ (iJ s root hi first WL) oc Tryz.func295 Tryz.call295 ?_
 dsimp only[iJ,tQ,FP,FL,Ny,YU,cB,fE,jz,Z5,cP,fL,Uz,Uy];have U:=L.small;refine eF (λ(g:Nat×Array Int) (t:Int) h'=>t=(g.1:Int)/\SA dec M s h' g.2/\g.2.size=d.size/\siftDown (D4 dec) hi first g.1 g.2=siftDown (D4 dec) hi first root d/\Upd M h h'/\g.1<=1000000000) (λg=>hi-g.1) (root,d)
  ⟨rfl,L,rfl,rfl,eQ _ _,O⟩ ?_
 rintro I ⟨i,a⟩ t J ⟨ht,m,o,k,p,B⟩ S;(try simp only at ht m o k B)
 subst ht;have N:ac .i64 (ac .i64 (2*(i:Int))+1)=((2*i+1:Nat):Int):=by rw[dw (x:=2*(i:Int)) a4,dw a4];omega
 have F:ac .i64 (((2*i+1:Nat):Int)+1)=((2*i+2:Nat):Int):=by rw[dw a4];omega
 rw[N];refine aq (λT=>?_) λC=>?_
 .refine H _ ?_ p
  rw[<-k,siftDown,dif_pos a4];exact m
 .have C:2*i+1<hi:=by omega
  refine eM (λt h'=>SA dec M s h' a/\Upd No J h'/\∃c:Nat,t=(c:Int)/\c=if 2*i+2<hi/\(D4 dec) a[first+(2*i+1)]! a[first+(2*i+1)+1]! =true then 2*i+2 else 2*i+1) (λR G=>?_) ?_
  .refine eM (λt h'=>SA dec M s h' a/\Upd No J h'/\(t=true↔2*i+2<hi/\(D4 dec) a[first+(2*i+1)]! a[first+(2*i+1)+1]! =true)) (λR2 u=>?_) ?_
   .show fN (decide (ac .i64 (((2*i+1:Nat):Int)+1)<(hi:Int))) _ _
    rw[F];refine aq (λf=>?_) λf=>u _ _ ⟨m,eQ _ _,a9⟩
    show(((0:Int)<=ac .i64 ((first:Int)+((2*i+1:Nat):Int))/\_)/\_)
    refine m.less (i:=first+(2*i+1)) (j:=first+(2*i+1)+1) (by rw[dw a4];omega) (by rw[dw (x:=(first:Int)+_) a4,dw a4];omega) a4 a4 λh4 Y b n z=>u _ _ ⟨b,n,?_⟩
    rw[z];simp;omega
   .rintro t h' ⟨b,n,v⟩
    refine ez (λf=>?_) λf=>?_
    .show R (ac .i64 (((2*i+1:Nat):Int)+1)) _
     rw[F];exact G _ _ ⟨b,n,_,rfl,by rw[if_pos (v.1 f)]⟩
    .exact G _ _ ⟨b,n,_,rfl,by rw[if_neg λQ=>by rw[v.2 Q]at f;cases f]⟩
  .rintro t h' ⟨b,n,c,rfl,hc⟩
   have V:c<hi/\i<c:=by rw[hc];split<;>omega
   refine b.less (i:=first+i) (j:=first+c) (by rw[dw a4];omega) (by rw[dw a4];omega) a4 a4 λX W q P D=>?_
   have y:=p.tr (n.tr P).wide;rw[D];have e:siftDown (D4 dec) hi first i a=if !(D4 dec) a[first+i]! a[first+c]! then a else siftDown (D4 dec) hi first c (swp a (first+i) (first+c)):=by
    rw[siftDown,dif_neg a4];by_cases w:2*i+2<hi/\(D4 dec) a[first+(2*i+1)]! a[first+(2*i+1)+1]! =true
    .rw[if_pos (by simp only[bA,decide_eq_true_iff];exact w),dif_pos w.1]
     rw[if_pos w]at hc;rw[hc]
    .rw[if_neg (by simp only[bA,decide_eq_true_iff];exact w)]
     rw[if_neg w]at hc;rw[hc]
   refine ez (λf=>?_) λf=>?_
   .refine H _ ?_ y
    rw[<-k,e,if_pos f];exact q
   .refine q.swap (i:=first+i) (j:=first+c) (by rw[dw a4];omega) (by rw[dw a4];omega) a4 a4 λZ E A=>?_
    refine S (c,swp a (first+i) (first+c)) _ _ ⟨rfl,E,by simp[o],?_,y.tr A,by(try simp only);omega⟩ (by(try simp only);omega)
    rw[<-k,e,if_neg (by rw[f];simp)]
end
section
open Go.Sort
variable {dec:Int->Ch} {M:eh} {s:f9} {h:ad} {d:Array Int}
end
section
open Go.Sort
variable {dec:Int->Ch} {M:eh} {s:f9} {h:ad} {d:Array Int}
@[simp] theorem G8(lt:Int->Int->Bool):∀(j:Nat) (d:Array Int),(shiftDown lt j d).size=d.size
 |0,d=>rfl
 |j+1,d=>by rw[shiftDown];split;rfl;rw[G8 lt j];simp
@[simp] theorem XU(lt:Int->Int->Bool)(e j:Nat)(d:Array Int):(shiftUp lt e j d).size=d.size:=by
 fun_induction shiftUp lt e j d<;>simp_all
theorem Xs{a e:Nat}(hs:SA dec M s h d)(ha:a<e)(he:e<=d.size){K:Bool->eu}(Q:∀h',SA dec M s h' (partialInsertionSort (D4 dec) d a e).1->Upd M h h'->K (partialInsertionSort (D4 dec) d a e).2 h'):
  eI 278 [.slice s.a s.len s.cap,.int .i64 a,.int .i64 e,WL] K h:=by
 refine cZ (eO s a e WL) jI Tryz.func278 Tryz.call278 ?_;dsimp only[eO,YV,FP,FL,YU,cB,fE,jz,Z5,cP,fL,YT,tQ,Ny];have hsm:=hs.small;refine eF (λ(g:Nat×Nat×Array Int) (t:Int×Int) h'=>t.1=(g.2.1:Int)/\t.2=5-(g.1:Int)/\SA dec M s h' g.2.2/\g.2.2.size=d.size/\partialIns (D4 dec) a e g.1 g.2.1 g.2.2=partialInsertionSort (D4 dec) d a e/\Upd M h h'/\g.1<=5/\a<g.2.1/\g.2.1<=e) (λg=>g.1) (5,a+1,d)
  ⟨by(try simp only);rw[dw a4];rfl,by(try simp only);omega,hs,rfl,rfl,eQ _ _,a7,a7,by(try simp only);omega⟩ ?_
 rintro I ⟨st,i0,A⟩ ⟨t1,t2⟩ h1 ⟨ht1,ht2,P,U,v,V,hst,hai,hie⟩ hI;(try simp only at ht1 ht2 P U v hst hai hie)
 subst ht1 ht2;refine aq (λhlt=>?_) λhge=>?_
 .obtain⟨st,rfl⟩:∃k,st=k+1:=⟨st-1,by have:5-(st:Int)<5:=hlt;omega⟩
  refine eM (λt h'=>∃S d2,t=(S:Nat)/\SA dec M s h' d2/\d2.size=d.size/\partialIns (D4 dec) a e st S d2=partialInsertionSort (D4 dec) d a e/\Upd M h h'/\a<S/\S<=e) (λR hR=>?_) ?_
  .refine eF (λ(i:Nat) (t:Int) h'=>t=(i:Int)/\SA dec M s h' A/\Upd No h1 h'/\scanSorted (D4 dec) A e i=scanSorted (D4 dec) A e i0/\a<i/\i<=e) (λi=>e-i) i0 ⟨rfl,P,eQ _ _,rfl,hai,hie⟩ ?_
   rintro I2 i t h' ⟨rfl,y,k2,hsc,m,n⟩ hI2;refine eM (λc D=>SA dec M s D A/\Upd No h' D/\(c=true↔i<e/\(D4 dec) A[i]! A[i-1]! =false)) (λR2 hR2=>?_) ?_
   .refine aq (λhle=>?_) λhgt=>hR2 _ _ ⟨y,eQ _ _,a9⟩
    exact y.less (i:=i) (j:=i-1) rfl (by rw[dw a4];omega) a4 a4 λB e3 p k3 he3=>hR2 _ _ ⟨p,k3,by rw[he3];simp;omega⟩
   .rintro c D ⟨p,k3,hc⟩
    have x:=V.tr (k2.tr k3).wide;refine ez (λh2=>?_) λh2=>?_
    .have hh:=hc.1 h2
     refine hI2 (i+1) _ _ ⟨by rw[dw a4];rfl,p,k2.tr k3,?_,a4,a4⟩ a4
     rw[<-hsc];conv=>rhs;rw[scanSorted]
     rw[if_pos (by simp[hh])]
    .have hsi:scanSorted (D4 dec) A e i=i:=by
      rw[scanSorted,if_neg];intro hh;simp only[bA,decide_eq_true_iff,Bool.not_eq_eq_eq_not,Bool.not_true]at hh;rw[hc.2 hh]at h2;cases h2
     have b:=v;rw[partialIns]at b;simp only[<-hsc,hsi]at b;refine ez (λB=>?_) λB=>?_
     .have B:i=e:=by
       have:(i:Int)=e:=by simpa using B
       omega
      rw[if_pos B]at b;rw[<-b]at Q;exact Q _ p x
     .have B:i≠e:=λe'=>by subst e';simp at B
      rw[if_neg B]at b;have we:ac .i64 ((e:Int)-(a:Int))=((e-a:Nat):Int):=by rw[dw a4];omega
      show fN (decide (ac .i64 ((e:Int)-(a:Int))<50)) _ _
      rw[we];refine aq (λh4=>?_) λh4=>?_
      .rw[if_pos a4]at b
       rw[<-b]at Q;exact Q _ p x
      .rw[if_neg a4]at b
       have hi1:1<=i:=a4
       refine p.swap (i:=i) (j:=i-1) rfl (by rw[dw a4];omega) a4 a4 λh5 G hu5=>?_
       have N:(swp A i (i-1)).size=d.size:=by simp[U]
       generalize swp A i (i-1)=d5 at G N b;refine eM (λ_ h'=>SA dec M s h' (if i-a>=2 then shiftDown (D4 dec) (i-1) d5 else d5)/\Upd M h h') (λR3 q=>?_) ?_
       .have wi:ac .i64 ((i:Int)-(a:Int))=((i-a:Nat):Int):=by rw[dw a4];omega
        show fN (decide (ac .i64 ((i:Int)-(a:Int))>=2)) _ _
        rw[wi];refine aq (λh6=>?_) λh6=>?_
        .rw[if_pos a4]at q
         refine eF (λ(g:Nat×Array Int) (t:Int) h'=>t=(g.1:Int)/\SA dec M s h' g.2/\g.2.size=d.size/\shiftDown (D4 dec) g.1 g.2=shiftDown (D4 dec) (i-1) d5/\Upd M h h'/\g.1<e) (λg=>g.1) (i-1,d5)
          ⟨by rw[dw a4];(try simp only);omega,G,N,rfl,x.tr hu5,by(try simp only);omega⟩ ?_
         rintro I4 ⟨j,d6⟩ t h7 ⟨ht,L,Y,o,hu7,F⟩ H;(try simp only at ht L Y o F)
         subst ht;refine aq (λh8=>?_) λh8=>?_
         .obtain⟨j,rfl⟩:∃k,j=k+1:=⟨j-1,a4⟩
          have T:ac .i64 (((j+1:Nat):Int)-1)=(j:Int):=by rw[dw a4];omega
          rw[shiftDown]at o;refine L.less (i:=j+1) (j:=j) rfl T a4 a4 λhL eL hsL kL E=>?_
          have u:=hu7.tr kL.wide;rw[E];refine ez (λW=>?_) λW=>?_
          .rw[if_pos W]at o
           exact q _ _ ⟨by rw[<-o];exact hsL,u⟩
          .rw[if_neg (by rw[W];simp)]at o
           refine hsL.swap (i:=j+1) (j:=j) rfl T a4 a4 λw X hu10=>?_
           exact H (j,swp d6 (j+1) j) _ _ ⟨T,X,by simp[Y],o,u.tr hu10,by(try simp only);omega⟩ a7
         .have:j=0:=by omega
          subst this;exact q _ _ ⟨by rw[<-o];exact L,hu7⟩
        .rw[if_neg a4]at q
         exact q _ _ ⟨G,x.tr hu5⟩
       .rintro _ h6 ⟨J,hu6⟩
        have C:(if i-a>=2 then shiftDown (D4 dec) (i-1) d5 else d5).size=d.size:=by split<;>simp[N]
        generalize (if i-a>=2 then shiftDown (D4 dec) (i-1) d5 else d5)=d6 at J C b
        have wi:ac .i64 ((e:Int)-(i:Int))=((e-i:Nat):Int):=by rw[dw a4];omega
        show fN (decide (ac .i64 ((e:Int)-(i:Int))>=2)) _ _
        rw[wi];refine aq (λh7=>?_) λh7=>?_
        .rw[if_pos a4]at b
         refine eF (λ(g:Nat×Array Int) (t:Int) h'=>t=(g.1:Int)/\SA dec M s h' g.2/\g.2.size=d.size/\shiftUp (D4 dec) e g.1 g.2=shiftUp (D4 dec) e (i+1) d6/\Upd M h h'/\1<=g.1/\g.1<=e) (λg=>e-g.1) (i+1,d6)
          ⟨by rw[dw a4];rfl,J,C,rfl,hu6,a7,by(try simp only);omega⟩ ?_
         rintro I4 ⟨j,d7⟩ t h8 ⟨ht,O,z,f,hu8,hj1,F⟩ H;(try simp only at ht O z f hj1 F)
         subst ht;refine aq (λW=>?_) λW=>?_
         .have T:ac .i64 ((j:Int)-1)=((j-1:Nat):Int):=by rw[dw a4];omega
          rw[shiftUp,if_pos a4]at f;refine O.less (i:=j) (j:=j-1) rfl T a4 a4 λhL eL hsL kL E=>?_
          have u:=hu8.tr kL.wide;rw[E];refine ez (λw=>?_) λw=>?_
          .rw[if_pos w]at f
           exact hR _ _ ⟨i,d7,rfl,hsL,z,by rw[f];exact b,u,m,n⟩
          .rw[if_neg (by rw[w];simp)]at f
           refine hsL.swap (i:=j) (j:=j-1) rfl T a4 a4 λh11 Z hu11=>?_
           exact H (j+1,swp d7 j (j-1)) _ _ ⟨by rw[dw a4];rfl,Z,by simp[z],f,u.tr hu11,a7,by(try simp only);omega⟩ (by(try simp only);omega)
         .rw[shiftUp,if_neg a4]at f
          exact hR _ _ ⟨i,d7,rfl,O,z,by rw[f];exact b,hu8,m,n⟩
        .rw[if_neg a4]at b
         exact hR _ _ ⟨i,d6,rfl,J,C,b,hu6,m,n⟩
  .rintro t h' ⟨S,d2,rfl,y,hz2,b,hu2,m,n⟩
   exact hI (st,S,d2) _ _ ⟨rfl,by(try simp only);rw[dw a4];omega,y,hz2,b,hu2,by(try simp only);omega,m,n⟩ a7
 .have:st=0:=by have:¬5-(st:Int)<5:=hge;omega
  subst this;rw[partialIns]at v;rw[<-v]at Q;exact Q _ P V
end
section
open Go.Sort
variable {dec:Int->Ch} {M:eh} {s:f9} {h:ad} {d:Array Int}
theorem abD(x:Int):ac .u64 x=x%18446744073709551616:=by
 simp[ac,ak,IntKind.signed]
theorem and_le_right(x:Int){m:Int}(a:0<=m)(hm:m<18446744073709551616):0<=ac .u64 ((aB (ak .u64) x&&&aB (ak .u64) m).toNat:Int)/\ac .u64 ((aB (ak .u64) x&&&aB (ak .u64) m).toNat:Int)<=m:=by
 have b:(aB (ak .u64) x&&&aB (ak .u64) m).toNat<=(aB (ak .u64) m).toNat:=by
  rw[BitVec.toNat_and];exact Nat.and_le_right
 have c:((aB (ak .u64) m).toNat:Int)=m:=by
  show((aB 64 m).toNat:Int)=m
  rw[BitVec.toNat_ofInt];have:m%((2^64:Nat):Int)=m:=Int.emod_eq_of_lt a a4;rw[this];omega
 rw[abD];omega
end
section
open Go.Sort
variable {dec:Int->Ch} {M:eh} {s:f9} {h:ad} {d:Array Int}
end
section
variable {l B O T:bY}{x:Hs}{kind p:Int}{t:Tr}{K:Sd->eu}{nb no nt:Nat}
theorem Few.mono{n m:Nat}{L:bY}(f:Few n L)(h:n<=m):Few m L:=⟨f.up,aQ f.len h,f.fit⟩
theorem N1{W:eh}{h:ad}{b:Nat}(t:RadAt W h b l)(hW:∀y,W y->y<h.size)(hr:bO l)(k:dO){K:dO×Bool->eu}
  (U:∀h',Upd No h h'->K ((look l k).getD ⟨#[]⟩,(look l k).isSome) h'):sX 235 [gV b,.string k] K h:=by
 refine cZ (Fm (some ⟨b,0,none⟩) k) Pl Tryz.func235 Tryz.call235 ?_;dsimp only[Fm,lG,Jm,rW,cB,jz,fE,lf,cj,cL,zn,rV,cP];refine DR (.inr ⟨b,rfl,t⟩) hW λh2 b2 t2 hu2 _=>?_
 obtain⟨w,F,r1,r2,r3⟩:=t2.ex;have d:∀v,rX w F k.data.toList v↔look l k=some v:=λv=>by
  rw[<-jQ,r3];constructor
  .rintro⟨p,hp,e1,rfl⟩
   rw[<-tY.1 e1];exact tB hr hp
  .intro hp;exact⟨_,mR hp,rfl,rfl⟩
 refine eF (λ(g:dO×Nat×dO×Option dO×Fo) (t:dO×aT) h'=>t=(g.1,some ⟨g.2.1,0,none⟩)/\RxN W h' g.2.1 g.2.2.1 g.2.2.2.1 g.2.2.2.2/\eK g.2.2.2.2/\(∀v,rX g.2.2.2.1 g.2.2.2.2 g.1.data.toList v↔look l k=some v)/\Upd No h h') (λg=>g.1.size) (k,b2,⟨#[]⟩,w,F) ⟨rfl,r1,r2,d,hu2⟩ ?_
 clear d r1 r2 r3 t2;rintro I ⟨D,c,sl,w,F⟩ t h5 ⟨rfl,r,hc,d,hu⟩ hI;(try simp only at r hc d)
 simp only[dV];by_cases G:D=⟨#[]⟩
 .subst G
  refine ag.2 (NT r ?_);have e:look l k=w:=Option.ext λv=>by
   rw[<-d v];constructor
   .rintro(⟨_,h⟩|h)
    .exact h
    .exact absurd rfl (oU hc h)
   .intro h;exact .inl ⟨rfl,h⟩
  rw[e]at U;exact U _ hu
 .rw[decide_eq_false G]
  refine aw.2 ?_;have x:D.data.toList≠[]:=λe=>G (by cases D;exact congrArg lz (Array.toList_inj.1 e))
  obtain⟨c0,Z,P⟩:=D7 x;refine⟨c0,Int.le_refl _,Z,?_⟩;have Y:=r;obtain⟨val,s,ow,ks,hb,_,hs,hcap,hF⟩:=r;have hL:=jP.1 hF;have E:=dB.1 hc;have o:(∀v,¬qh F D.data.toList v)->K ((⟨#[]⟩:dO),false) h5:=λB=>by
   have e:look l k=none:=by
    cases e:look l k with
    |none=>rfl
    |some v=>
     rcases(d v).2 e with⟨h,_⟩|h
     .exact absurd h x
     .exact absurd h (B v)
   rw[e]at U;exact U _ hu
  refine DT Y hc (c:=c0.toNat) (UInt8.toNat_lt _) λi ok hil T J L=>?_
  rw[P]at T J L;cases ok with
  |false=>
   refine aw.2 (o λv d=>?_)
   obtain⟨n',H,e,_⟩:=qv hc d;obtain⟨j,V,rfl⟩:=bJ H;rcases cp j i with X|X
   .have:=T j V X;omega
   .have h1:=J j V X
    have h2:=J i a4 (aj _);rcases cp i j with R|R
    .have h3:=List.pairwise_iff_getElem.1 E.1 i j a4 V R
     omega
    .have:i=j:=by omega
     subst this;have:=L.2 ⟨V,e⟩;cases this
  |true=>
   obtain⟨hi,S⟩:=L.1 rfl;refine ag.2 ⟨_,rfl,s,dd (i:=3) hb,?_⟩;obtain⟨kb,Q,hki,A,z⟩:=hL.at hi;have u:F.toL[i]∈F.toL:=aG hi;have C:=E.2 _ u;obtain⟨a,ha,_,hvv⟩:=hs.at0 hki;have N:=hs.len;rw[hL.1]at N;have n:∀v,qh F D.data.toList v↔wz F.toL[i] D.data.toList v:=λv=>by
    constructor
    .intro d
     obtain⟨n',H,e,hN⟩:=qv hc d;rw[<-xR hc H u a4];exact hN
    .intro d;exact eW.2 ⟨_,u,d⟩
   refine⟨⟨by(try simp only);omega,by(try simp only);omega⟩,a,ha,some ⟨kb,0,none⟩,hvv,_,rfl,?_⟩
   obtain⟨kval,kss,kow,kks,O,_⟩:=id z;generalize F.toL[i]=m at A z C n S;obtain⟨lab,wk,Fk⟩:=m;(try simp only at A z C S O)
   refine⟨Q,dd (i:=0) O,WF (λq f=>?_) λB=>?_⟩
   .rw[A]at f
    have hlne:lab.length≠0:=λe=>C.1 (aJ.1 e)
    have hrl:q.size<D.size:=by
     rw[<-kF q,<-kF D,f,List.length_append];omega
    refine ag.2 (hI (q,kb,Q,wk,Fk) _ _ ⟨rfl,z,C.2.2,λv=>?_,hu⟩ hrl)
    rw[<-d v];constructor
    .intro h;exact .inr ((n v).2 ⟨_,f,h⟩)
    .rintro(⟨h,_⟩|h)
     .exact absurd h x
     .obtain⟨r',e,hr'⟩:=(n v).1 h
      (try simp only at e)
      rw[f]at e;rw[List.append_cancel_left e];exact hr'
   .rw[A]at B
    refine aw.2 (o λv h=>?_)
    obtain⟨r',e,_⟩:=(n v).1 h;exact B r' e
theorem XO{W:eh}{h:ad}(i:TreeIs W h kind x t l)(g:∀y,W y->y<h.size)(f:bO l)(m:l.length<=1000000)(k:dO)(e:∀h',Upd No h h'->K ((look l k).getD ⟨#[]⟩,(look l k).isSome) h'):sX 177 [A4 t,.string k] K h:=by
 refine cZ (yu t k) .nil Tryz.func177 Tryz.call177 ?_;dsimp only[yu,bh,aF,yi,gD,Ah,fH,lP,uJ];rcases i with⟨_,b,rfl,t⟩|⟨_,b,rfl,t⟩
 .refine aV λj b1 k1=>⟨_,vc b1 0,ag.2 ⟨_,gL b1 1 0,_,gL b1 1 1,_,gL b1 1 2,_,vc b1 4,?_⟩⟩
  exact O4 (TrieAt.upd0 k1 t) (λy c=>aA (g y c) k1.size) f m k λd a=>e d (k1.tr a)
 .refine aV λj b1 k1=>⟨_,vc b1 0,aw.2 ⟨_,vc b1 5,?_⟩⟩
  exact N1 (t.upd0 k1) (λy c=>aA (g y c) k1.size) f k λd a=>e d (k1.tr a)
theorem SF{W:eh}{h:ad}(i:TreeIs W h kind x t l)(o:∀y,W y->y<h.size)(n:bO l)(p:l.length<=1000000)(k:dO)(j:∀h',Upd No h h'->K (zN (look l k)) h'):Ea 108 [A4 t,.string k] K h:=by
 refine cZ (FB t k) .nil Tryz.func108 Tryz.call108 ?_;dsimp only[FB,dH,qY,FJ,yE,mE,bh,ai,aF,uT,bq,iu,lP,uJ];refine aV λs b1 k1=>aV λu b2 f=>?_
 have c1:=f.get0 b1;have a:=k1.tr f;refine⟨_,vc c1 0,_,vc c1 1,_,vc c1 2,_,vc c1 3,_,vc c1 4,_,vc c1 5,?_⟩;refine XO (i.upd0 a) (λy m=>aA (o y m) a.size) n p k λq d=>?_
 refine cy (c:= [.string (⟨#[]⟩:dO),.bool false]) (vs:=Zw (zN (look l k))) (d.get0 b2) rfl λg e b=>?_
 exact⟨_,vc e 0,_,vc e 1,j g ((a.tr d).own b k1.size)⟩
theorem Yb{W:eh}{h:ad}(i:TreeIs W h kind x t l)(H:∀y,W y->y<h.size)(G:bO l)(S:Fit l)(I:l.length<=1000000)(k:dO)(o:Option dO)(p:k.size<=256)(z:(o.getD ⟨#[]⟩).size<=4096){K:Tr->eu}
  (Q:∀h' a,TreeIs W h' kind x a (Jr l k o)->Upd No h h'->K a h'):Ym 110 [A4 t,.string k,.agg #[.string (zN o).1,.bool (zN o).2]] K h:=by
 refine cZ (FA t k (zN o)) Ps Tryz.func110 Tryz.call110 ?_;dsimp only[FA,iu,dH,wJ,uJ,qY,qf,yE,mE,bh,ai,aF,zr,PK,lP,gj,bq];refine aV λJ b1 k1=>aV λw b2 B=>aV λm b3 u=>?_
 have z1:=bw b1;have V:=bw b2;have Y:=bw b3;have X:h.size<=J.size:=k1.size;have s2:J.size<=w.size:=B.size;have U:=u.size;have b:=(k1.tr B).tr u;have c1:=u.get0 (B.get0 b1);have D:=u.get0 b2;have A:Pro W h m h.size:=.inr a4;have E:Pro W h m w.size:=.inr a4;refine eM (λ_ h'=>∃a,TreeIs (Pro W h m) h' kind x a (Jr l k o)/\h'[h.size]? =some (.cells (jJ a).toArray 50 (0,0))/\h'[w.size]? =some (.cells (jJ wI).toArray 50 (0,0))/\Upd (· =h.size) m h') (λR L=>?_) ?_
 .have fin:∀{f:ad} {a:Tr},Upd No m f->TreeIs (Pro W h m) f kind x a (Jr l k o)->qR f (some (aH h)) 0 (jJ a)/\At (fu f (aH h) 0 (jJ a)) (λF=>R () F):=λ{f a} e q=>
   cy (c:=jJ t) (vs:=jJ a) (e.get0 c1) rfl λF N d=>L _ _ ⟨a,q.updM d λy g=>.inl (by have g:y=h.size:=g;rw[g];exact A),N,d.oth (e.get0 b3) a4,e.wide.tr d⟩
  cases o with
  |some v=>
   refine⟨true,vc D 1,aw.2 ⟨_,vc c1 0,_,vc c1 1,_,vc c1 2,_,vc c1 3,_,vc c1 4,_,vc c1 5,v,vc D 0,?_⟩⟩;exact B9 (i.pro b) (Pro.lt H b) G I (k,v) p z λf a q _ e=>fin e q
  |none=>
   refine⟨false,vc D 1,ag.2 ⟨_,vc c1 0,_,vc c1 1,_,vc c1 2,_,vc c1 3,_,vc c1 4,_,vc c1 5,?_⟩⟩;exact EJ (i.pro b) (Pro.lt H b) G S I k p λf a q _ e=>fin e q
 .rintro _ Z ⟨a,T,n,P,C⟩
  refine⟨_,vc n 0,_,vc n 1,_,vc n 2,_,vc n 3,_,vc n 4,_,vc n 5,?_⟩;refine cy (c:=jJ wI) (vs:=jJ a) P rfl λO j s=>?_
  refine⟨_,vc j 0,_,vc j 1,_,vc j 2,_,vc j 3,_,vc j 4,_,vc j 5,Q O a ((T.updM s λy g=>.inl (by have g:y=w.size:=g;rw[g];exact E)).less Pro.sub) ?_⟩
  exact(b.own C (aj _)).own s a4
def S8(k:dO)(o:Option dO):Prop:=∀{W:eh} {x:Hs} {h:ad} {kind:Int} {t:Tr} {l:bY},TreeIs W h kind x t l->(∀y,W y->y<h.size)->bO l->Fit l->l.length<=1000000->k.size<=256->(o.getD ⟨#[]⟩).size<=4096->∀{K:Tr->eu},
 (∀h' t',TreeIs W h' kind x t' (Jr l k o)->Upd No h h'->K t' h')->Ym 110 [A4 t,.string k,.agg #[.string (zN o).1,.bool (zN o).2]] K h
theorem aaB(k:dO)(o:Option dO):S8 k o:=λi d c b f e g _ a=>Yb i d c b f k o e g a
def Z8(B T:bY):Prop:=∀{W W':eh} {x x':Hs} {h:ad} {kind kind':Int} {t u:Tr},TreeIs W h kind x t B->TreeIs W' h kind' x' u T->∀{K:f9×Int->eu},(mS t u=false->∀h',Upd No h h'->K (⟨none,0,0⟩,11) h')->(mS t u=true->∀h' s',OwnS Jj 5 200 (λy=>h.size<=y) h' s' (iE B T)->Upd No h h'->K (s',0) h')->MG 107 [A4 t,A4 u] K h
theorem Bo(c:0<=p)(b:p<=3):EY p≠⟨#[]⟩:=by
 unfold EY;have a:p=0\/p=1\/p=2\/p=3:=a4
 rcases a with rfl|rfl|rfl|rfl<;>decide
abbrev uQ(c:Cf):c5:= [.string c.1,.string c.2.1.1,.bool c.2.1.2,.string c.2.2.1.1,.bool c.2.2.1.2,.string c.2.2.2.1,.bool c.2.2.2.2]
abbrev Xy:Cf:=(⟨#[]⟩,(⟨#[]⟩,false),(⟨#[]⟩,false),(⟨#[]⟩,false))
theorem MV(c:Cf):(uQ c).length=7/\0<7:=⟨rfl,a4⟩
theorem Lm{t:TypeId}{M:eh}{h:ad}{so:f9}{out:List Cf}{c:Cf}{K:f9->eu}(g:OwnS uQ 7 t M h so out)(hM:∀b,h.size<=b->M b)(k:out.length+1<=100000000)
  (f:∀s' h',OwnS uQ 7 t M h' s' (out++ [c])->Upd M h h'->K s' h'):
  At (hnew h (uQ c) t) λa=>∃xs,SRow a (some (aH h)) (1*7) xs/\AppP (some (uQ Xy)) 7 88 t so.a so.len so.cap 1 xs a K:=by
 refine aV λa b1 k1=>?_
 have j:=bw b1;have e:OwnS uQ 7 t (λ_=>True) a ⟨some (aH h),1,1⟩ [c]:=⟨rfl,MV,aj _,.inr ⟨h.size,[],rfl,trivial,b1,rfl⟩⟩
 refine⟨_,(e.sl (W:=No) λ_ _ _ h=>h).srow,?_⟩
 refine AppP.own (ys:= [c]) (g.upd k1 λ_ _ h=>h) rfl rfl rfl rfl a4 (by simp only[List.length_singleton];omega) (hM _ k1.size) λs' h' d i=>?_
 exact f s' h' d (k1.wide.tr i)
set_option maxHeartbeats 1000000 in
theorem E0{W:eh}{h:ad}{tb to tt:Tr}(ib:TreeIs W h kind x tb B)(io:TreeIs W h kind x to O)(it:TreeIs W h kind x tt T)(hW:∀y,W y->y<h.size)(fB:Few nb B)(fO:Few no O)(fT:Few nt T)(lb:nb<=1000)(lo:no<=1000)(lt:nt<=1000)
  (hp0:0<=p)(hp1:p<=3)(hdf:Z8 B T)(hset:∀c∈iE B T,S8 c.1 (tk B O T p c.1).1){K:Tr×f9×Int->eu}
  (hk0:p=0->oW B O T p≠[]->∀h' s',OwnS uQ 7 86 (λy=>h.size<=y) h' s' ((oW B O T p).map (DD B O T))->Upd No h h'->K (to,s',8) h')
  (hk:(p=0->oW B O T p= [])->∀h' t' s',TreeIs W h' kind x t' (ji B O T p)->OwnS uQ 7 86 (λy=>h.size<=y) h' s' ((oW B O T p).map (DD B O T))->Upd No h h'->K (t',s',0) h'):
  ZN 58 [A4 tb,A4 to,A4 tt,.int .i64 p] K h:=by
 refine cZ (I0 tb to tt p) RF Tryz.func58 Tryz.call58 ?_;dsimp only[I0,bq,iu,dH,nv,wJ,uJ,qY,FK,FQ,PK,Ta,FP,LX,FJ,yE,mE,bh,ai,aF,Z5,cP,fL,jz,fE,nW,uT,zr,zo,Af,lP,UB,gj,Xe];refine aV λh1 b1 k1=>aV λh2 b2 k2=>aV λh3 b3 k3=>aV λh4 b4 k4=>?_
 have z1:=bw b1;have z2:=bw b2;have z3:=bw b3;have z4:=bw b4;have s1:h.size<=h1.size:=k1.size;have s2:h1.size<=h2.size:=k2.size;have s3:h2.size<=h3.size:=k3.size;have s4:=k4.size;have k04:=((k1.tr k2).tr k3).tr k4;have c0:=k4.get0 (k3.get0 (k2.get0 b1));have c1:=k4.get0 (k3.get0 b2);have c2:=k4.get0 b3;refine Cr ?_;rw[dV,decide_eq_false (Bo hp0 hp1)];refine ag.2 ?_
 refine eM (λt h'=>t=false/\Upd No h4 h') (λR Y=>?_) ?_
 .refine⟨_,vc c0 0,_,vc c0 1,_,vc c0 2,_,vc c0 3,_,vc c0 4,_,vc c0 5,_,vc c1 0,_,vc c1 1,_,vc c1 2,_,vc c1 3,_,vc c1 4,_,vc c1 5,?_⟩
  refine yP (t:=tb) (u:=to) λh5 k5=>?_
  rw[zV ib io];have U:=k5.get0 c0;have V:=k5.get0 c2;refine ag.2 ⟨_,vc U 0,_,vc U 1,_,vc U 2,_,vc U 3,_,vc U 4,_,vc U 5,_,vc V 0,_,vc V 1,_,vc V 2,_,vc V 3,_,vc V 4,_,vc V 5,?_⟩;refine yP (t:=tb) (u:=tt) λh6 k6=>?_
  rw[zV ib it];exact Y _ _ ⟨rfl,k5.tr k6⟩
 rintro t h50 ⟨rfl,X⟩;have U:=X.get0 c0;have d1:=X.get0 c1;have V:=X.get0 c2;have d3:=X.get0 b4;have k050:=k04.tr X;have s50:=X.size;have nB:=fB.len;have nO:=fO.len;have nT:=fT.len;refine ag.2 ⟨_,vc U 0,_,vc U 1,_,vc U 2,_,vc U 3,_,vc U 4,_,vc U 5,_,vc V 0,_,vc V 1,_,vc V 2,_,vc V 3,_,vc V 4,_,vc V 5,?_⟩;refine hdf (ib.upd0 k050) (it.upd0 k050) (λe=>by rw[zV ib it]at e;cases e) λ_ F s77 hs77 k77=>?_
 have lC:=sZ fB.up fT.up;have at30:=EL fB fT;have hcC:∀c∈iE B T,(c.1,(c.2.1,c.2.2.2.1),zN (look O c.1),(c.2.2.1,c.2.2.2.2))=DD B O T c.1:=λc hc=>by
  have e:=(WP fB.up fT.up hc).1;unfold DD zN;rw[congrArg (·.2.1) e,congrArg (·.2.2.1) e,congrArg (·.2.2.2.1) e,congrArg (·.2.2.2.2) e]
 have hsetC:∀i (hi:i<(iE B T).length),S8 (iE B T)[i].1 (tk B O T p (iE B T)[i].1).1:=λi hi=>hset _ (aG hi)
 have hmem:∀i (hi:i<(iE B T).length),(iE B T)[i]∈iE B T:=λi hi=>aG hi
 have hconK:F5 B O T p (iE B T)=oW B O T p:=rfl;have hmrg:rP B O T p O (iE B T)=ji B O T p:=rfl;have fM:∀i,Few (no+((iE B T).take i).length) (rP B O T p O ((iE B T).take i)):=λi=>Bu fB fO fT (λc hc=>(at30 c (List.mem_of_mem_take hc)).1) fO
 clear hset;generalize iE B T=C at hs77 lC at30 hcC hmem hconK hmrg fM hsetC;have hsl:=hs77.within.sl (W:=λy=>F.size<=y) λy d _ hw=>a4
 have hlen:s77.len=C.length:=hs77.len;have e1:=k77.get0 d1;have e3:=k77.get0 d3;have hz77:=k77.size;refine⟨_,vc e1 0,_,vc e1 1,_,vc e1 2,_,vc e1 3,_,vc e1 4,_,vc e1 5,?_⟩;refine ZI (t:=to) λD b85 k85=>?_
 have z85:=bw b85;have s85:=k85.size;have k085:=(k050.tr k77).tr k85;have f1:=k85.get0 e1;have f3:=k85.get0 e3;have hPo:Pro W h D F.size:=.inr a4;have hP3:Pro W h D h3.size:=.inr a4;have hWP:=Pro.lt hW k085;refine eF (λ(g:Nat×(eh)) (t:f9×Int) h'=>t.2=(g.1:Int)/\g.1<=C.length/\OwnS uQ 7 86 g.2 h' t.1 ((F5 B O T p (C.take g.1)).map (DD B O T))/\(∀y,g.2 y->D.size<=y/\y<h'.size)/\(∃tv,TreeIs (λy=>Pro W h D y\/g.2 y) h' kind x tv (rP B O T p O (C.take g.1))/\h'[F.size]? =some (.cells (jJ tv).toArray 50 (0,0)))/\Upd (· =F.size) D h') (λg=>C.length-g.1) (0,No)
  ⟨rfl,aK _,OwnS.nil MV,λ_ h=>h.elim,⟨to,(io.pro k085).less λy d=>.inl (d.elim id λh=>h.elim),b85⟩,eQ _ _⟩ ?_
 rintro I ⟨i,S⟩ ⟨sv,ti⟩ h88 ⟨e,hi,ho,hS,⟨tv,iv,bv⟩,hu⟩ hI;(try simp only at e hi ho hS iv)
 subst e;have g1:=hu.get f1 (by show ¬h1.size=F.size;omega);have g3:=hu.get f3 (by show ¬h3.size=F.size;omega);have s88:=hu.size;have k088:Upd No h h88:=k085.own hu a4;refine aq (λv=>?_) λhge=>?_
 .have v:i<C.length:=by(try simp only at v);omega
  obtain⟨a,ha,_,hv⟩:=((hsl.upd k85 λ_ h=>h.elim).upd hu λy d=>.inl (by have d:y=F.size:=d;omega)).at (af v)
  refine⟨⟨by(try simp only);omega,by(try simp only);omega⟩,a,ha,_,hv 0 _ rfl,_,hv 1 _ rfl,_,hv 2 _ rfl,_,hv 3 _ rfl,_,hv 4 _ rfl,?_⟩
  have fm:=fM i;have fml:=fm.len;rw[aY]at fml;have hcon:(F5 B O T p (C.take i)).length<=C.length:=aQ WJ (by rw[aY];omega);have hIc:=λS' t h'=>hI (i+1,S') t h'
  simp only[Ot v,Ul v,cF]at hIc;have hceq:=hcC _ (hmem i v);have hc30:=(at30 _ (hmem i v)).1;have hsc:= @hsetC i v;clear hI;generalize C[i]=c at hv hceq hc30 hIc hsc;refine aaI (c:=c) λh96 w k96=>?_
  have s96:=k96.size;have z96:=bw w;have p1:=k96.get0 g1;have k096:=k088.tr k96;have ig:∀{h'},Upd No h96 h'->TreeIs W h' kind x to O:=λk=>io.upd0 (k096.tr k)
  have hWg:∀{h'},Upd No h96 h'->∀y,W y->y<h'.size:=λk y d=>aA (hW y d) (k096.tr k).size
  refine eM (λt h'=>∃b,t=⟨b,0,none⟩/\h'[b]? =some (.cells (uQ (DD B O T c.1)).toArray 86 (0,0))/\Upd No h96 h') (λR Y=>?_) ?_
  .rw[<-hceq]at Y
   refine⟨c.1,vc w 0,c.2.1,vc w 1,c.2.2.2.1,vc w 3,_,vc p1 0,_,vc p1 1,_,vc p1 2,_,vc p1 3,_,vc p1 4,_,vc p1 5,c.1,vc w 0,c.2.2.1,vc w 2,c.2.2.2.2,vc w 4,?_,?_⟩
   .refine SF (ig (eQ _ _)) (hWg (eQ _ _)) fO.up a4 c.1 λh110 k110=>?_
    have q:=k110.get0 w;refine⟨vc q 4,vc q 2,vc q 3,vc q 1,vc q 0,aV λh111 b111 k111=>?_⟩
    have q':=k111.get0 q;refine⟨vc q' 4,vc q' 2,vc q' 3,vc q' 1,vc q' 0,?_⟩;refine cy (c:=uQ Xy) (vs:=uQ (c.1,(c.2.1,c.2.2.2.1),zN (look O c.1),(c.2.2.1,c.2.2.2.2))) b111 rfl λh112 b112 hu112=>Y _ _ ⟨_,rfl,b112,(k110.tr k111).own hu112 k110.size⟩
   .refine aV λh149 b149 G=>?_
    have q:=G.get0 w;have p2:=G.get0 p1;refine⟨vc q 4,vc q 2,vc q 0,⟨vc p2 0,vc p2 1,vc p2 2,vc p2 3,vc p2 4,vc p2 5⟩,vc q 3,vc q 1,vc q 0,?_⟩;refine SF (ig G) (hWg G) fO.up a4 c.1 λh151 Z=>?_
    have q':=Z.get0 q;refine⟨vc q' 4,vc q' 2,vc q' 3,vc q' 1,vc q' 0,?_⟩;refine cy (c:=uQ Xy) (vs:=uQ (c.1,(c.2.1,c.2.2.2.1),zN (look O c.1),(c.2.2.1,c.2.2.2.2))) (Z.get0 b149) rfl λQ P hu152=>Y _ _ ⟨_,rfl,P,(G.tr Z).own hu152 (aj _)⟩
  rintro _ h142 ⟨bx,rfl,n,k142⟩;refine⟨_,gL n 1 0,_,gL n 1 1,_,gL n 3 0,_,gL n 3 1,_,gL n 5 0,_,gL n 5 1,?_⟩;refine VT (b:=zN (look B c.1)) (o:=zN (look O c.1)) (t:=zN (look T c.1)) λh150 L=>?_
  rw[RX];have hok:∀r,tE (look B c.1) (look O c.1) (look T c.1) p=r->tk B O T p c.1=r:=λr e=>e
  have hsz:((tk B O T p c.1).1.getD ⟨#[]⟩).size<=30:=by
   unfold tk;rcases DL (look B c.1) (look O c.1) (look T c.1) p with e|e|e
   .rw[e];exact mQ fB _
   .rw[e];exact mQ fO _
   .rw[e];exact mQ fT _
  have htk:tE (look B c.1) (look O c.1) (look T c.1) p=tk B O T p c.1:=rfl;rw[htk];generalize tk B O T p c.1=tkc at hIc hsz hsc;refine Y9 (s:=zN tkc.1) λQ P k152=>?_
  have z152:=bw P;have f:=((k96.tr k142).tr L).tr k152;have k96152:=(k142.tr L).tr k152;have s150:h88.size<=h150.size:=((k96.tr k142).tr L).size;have s152:=f.size;have bv152:=f.get0 bv;have b96':=k96152.get0 w;have j:=(L.tr k152).get0 n;have iv152:=iv.upd0 f;refine eM (λt h'=>∃S',OwnS uQ 7 86 S' h' t ((F5 B O T p (C.take i)).map (DD B O T)++(if tkc.2=true then[]else[c.1]).map (DD B O T))/\(∀y,S' y->D.size<=y/\y<h'.size)/\TreeIs (λy=>Pro W h D y\/S' y) h' kind x tv (rP B O T p O (C.take i))/\Upd S Q h') (λR Y=>?_) ?_
  .refine ez (λe=>?_) λe=>?_
   .have e2:tkc.2=false:=by simpa using e
    rw[e2,if_neg Bool.false_ne_true]at Y;refine⟨_,vc j 0,_,vc j 1,_,vc j 2,_,vc j 3,_,vc j 4,_,vc j 5,_,vc j 6,?_⟩;refine Lm (c:=DD B O T c.1) (M:=λy=>S y\/Q.size<=y) ((ho.upd f λ_ _ h=>h).more λ_ h=>.inl h) (λ_ h=>.inr h) (by rw[bS];omega) λs163 h164 ho164 H=>?_
    have s164:=H.size;refine Y _ _ ⟨_,ho164.within,λy d=>⟨?_,d.2⟩,?_,H.mono λy d=>d⟩
    .rcases d.1 with h|h
     .exact(hS y h).1
     .omega
    .refine TreeIs.less (λy d=>?_) ((iv152.less (W':=λy=>Pro W h D y\/(S y\/Q.size<=y)) λy d=>?_).updM H λy d=>.inl (.inr d))
     .exact .inl (d.imp id λh=>h.1)
     .rcases d with h|h|h
      .exact .inl (.inl h)
      .exact .inl (.inr h)
      .exact .inr h
   .have e2:tkc.2=true:=by simpa using e
    rw[e2,if_pos rfl,List.map_nil,List.append_nil]at Y;exact Y _ _ ⟨S,ho.upd f λ_ _ h=>h,λy d=>⟨(hS y d).1,by have:=(hS y d).2;omega⟩,iv152,eQ _ _⟩
  rintro sv' h166 ⟨S',ho',hS',it',hu'⟩;have s166:=hu'.size;have nS:∀y,S y->D.size<=y/\y<h88.size:=hS;have m:=hu'.get bv152 λhx=>by have:=nS _ hx;omega
  have b96'':=hu'.get b96' λhx=>by have:=nS _ hx;omega
  have b152':=hu'.get P λhx=>by have:=nS _ hx;omega
  refine⟨_,vc m 0,_,vc m 1,_,vc m 2,_,vc m 3,_,vc m 4,_,vc m 5,c.1,vc b96'' 0,(zN tkc.1).1,vc b152' 0,(zN tkc.1).2,vc b152' 1,?_⟩;refine hsc it' (λy d=>d.elim (λh=>aA (hWP y h) a4) λh=>(hS' y h).2) fm.up fm.fits a4 a4 a4 λh177 t' i177 N=>?_
  have s177:=N.size;refine cy (c:=jJ tv) (vs:=jJ t') (N.get0 m) rfl λh178 b178 E=>?_
  have s178:=E.size;(try simp only)
  rw[mI v a4];refine hIc S' _ _ ⟨rfl,v,(ho'.upd N λ_ _ h=>h).upd E λy d e=>?_,λy d=>⟨(hS' y d).1,by have:=(hS' y d).2;omega⟩,⟨t',i177.updM E λy d=>.inl (.inl (by have d:y=F.size:=d;rw[d];exact hPo)),b178⟩,?_⟩ a4
  .have e:y=F.size:=e
   have:=(hS' y d).1;omega
  .refine((hu.tr f.wide).trans hu' λy d=>.inr (nS y d).1).tr ?_
   exact N.wide.tr E
 .have hiN:i=C.length:=by(try simp only at hge);omega
  subst hiN;rw[bZ]at ho iv;rw[hconK]at ho;rw[hmrg]at iv;have hsvl:=ho.len;rw[bS]at hsvl;have hb:(oW B O T p= [])↔sv.len=0:=by rw[hsvl];exact aJ.symm
  have ho2:OwnS uQ 7 86 (λy=>h.size<=y/\y≠h3.size) h88 sv ((oW B O T p).map (DD B O T)):=ho.more λy d=>by have:=(hS y d).1;omega
  refine eM (λt h'=>t=(decide (p=0)&&decide (sv.len>0))/\h'=h88) (λR Y=>?_) ?_
  .refine ez (λe=>Y _ _ ⟨?_,rfl⟩) λe=>Y _ _ ⟨?_,rfl⟩
   .have e:p=0:=by simpa using e
    rw[decide_eq_true e,ki,decide_eq_decide];(try simp only);omega
   .have e:p≠0:=by simpa using e
    rw[decide_eq_false e,Bool.false_and]
  rintro t h' ⟨rfl,rfl⟩;refine ez (λe=>?_) λe=>?_
  .have e:p=0/\sv.len>0:=by simpa using e
   refine⟨_,vc g1 0,_,vc g1 1,_,vc g1 2,_,vc g1 3,_,vc g1 4,_,vc g1 5,?_⟩;refine cy (c:=jJ wI) (vs:=jJ to) g3 rfl λh198 z hu198=>?_
   refine⟨_,vc z 0,_,vc z 1,_,vc z 2,_,vc z 3,_,vc z 4,_,vc z 5,?_⟩;exact hk0 e.1 (λhc=>by have:=hb.1 hc;omega) h198 sv ((ho2.upd hu198 λy d e=>d.2 e).more λy d=>d.1) (k088.own hu198 a4)
  .have e:p=0->sv.len=0:=λhp=>by
    rw[decide_eq_true hp,ki]at e;have:=of_decide_eq_false e;omega
   refine⟨_,vc bv 0,_,vc bv 1,_,vc bv 2,_,vc bv 3,_,vc bv 4,_,vc bv 5,?_⟩;refine cy (c:=jJ wI) (vs:=jJ tv) g3 rfl λh211 A J=>?_
   refine⟨_,vc A 0,_,vc A 1,_,vc A 2,_,vc A 3,_,vc A 4,_,vc A 5,?_⟩;exact hk (λhp=>hb.2 (e hp)) h211 tv sv ((iv.updM J λy d=>.inl (.inl (by have d:y=h3.size:=d;rw[d];exact hP3))).less λy d=>.inl (.inl (.inl d))) ((ho2.upd J λy d e=>d.2 e).more λy d=>d.1) (k088.own J a4)
theorem QV(a:Few nb B)(d:Few no O)(b:Few nt T):Few (no+(nb+nt)) (ji B O T p):=by
 have h:=Bu (p:=p) a d b (l:=iE B T) (λc hc=>(EL a b c hc).1) d
 exact⟨h.up,aQ h.len (by have:=sZ a.up b.up;have:=a.len;have:=b.len;omega),h.fit⟩
def Met(L:de)(a b d:Int):Prop:=(∀c,UpG L a c->UpG L b c->c<=d)/\(d=0\/UpG L a d/\UpG L b d)/\0<=d
def ya(s:VS)(a:Int)(B:TD):Prop:=(a=0/\B=(s.e,[]))\/(a≠0/\bE s.D a=some B)
section
variable {W:eh} {h:ad} {vp:Nat} {s:VS}
theorem Kf(v:VaultAt W h vp s){id:Int}(hi:id=0\/id∈dM s.L){K:Tr×Int->eu}(a:∀B,ya s id B->∀h',Upd No h h'->K (B.1,0) h'):Py 9 [pV vp,.int .u32 id] K h:=
 NB v id (λe h' k=>a (s.e,[]) (.inl ⟨e,rfl⟩) h' k) (λd hd e h' k=>a d (.inr ⟨e,hd⟩) h' k) λhd e=>absurd ((v.sub id).2 (hi.resolve_left e)) (dJ.1 hd)
theorem PO(v:VaultAt W h vp s){n m:dO}{a b:Int}(ha:bE s.B n=some a)(hb:bE s.B m=some b)(A:0<=p)(L:p<=3)(hn1:¬(b=0\/UpG s.L a b))(hn2:¬(a=0\/UpG s.L b a))
  {O T:TD}(hO:bE s.D a=some O)(hT:bE s.D b=some T){N:Nat}(R:N<=1000)(hF:∀d∈s.D,Few N d.2.2)
  (hS:∀g B,Met s.L a b g->ya s g B->Z8 B.2 T.2/\∀c∈iE B.2 T.2,S8 c.1 (tk B.2 O.2 T.2 p c.1).1){K:Int×f9×Int->eu}
  (U:∀g B,Met s.L a b g->ya s g B->p=0->oW B.2 O.2 T.2 p≠[]->∀h' s',OwnS uQ 7 86 (λy=>h.size<=y) h' s' ((oW B.2 O.2 T.2 p).map (DD B.2 O.2 T.2))->Upd No h h'->K (0,s',8) h')
  (hk:∀g B,Met s.L a b g->ya s g B->(p=0->oW B.2 O.2 T.2 p= [])->∀h' t' s',OwnS uQ 7 86 (λy=>h.size<=y) h' s' ((oW B.2 O.2 T.2 p).map (DD B.2 O.2 T.2))->Upd s.M h h'->
   VaultAt W h' vp (xF s n (t',ji B.2 O.2 T.2 p) (nz [a,b])).2->K (if(xF s n (t',ji B.2 O.2 T.2 p) (nz [a,b])).1.2=0 then((xF s n (t',ji B.2 O.2 T.2 p) (nz [a,b])).1.1,s',0)else(0,⟨none,0,0⟩,(xF s n (t',ji B.2 O.2 T.2 p) (nz [a,b])).1.2)) h'):
  V9 20 [pV vp,.string n,.string m,.int .i64 p] K h:=by
 refine kz (some ⟨vp,0,none⟩) n m p ?_;dsimp only[iI,cB,bh,ai,dC,aF,dH,nv,tD,wJ,uJ,qY,Ob,gD,Xn,uL,wO,mE,cL,Af,F7];refine iG v n (iG v m ?_);rw[ha,hb];refine fo (ag.2 (ag.2 (Cr ?_)));rw[dV,decide_eq_false (Bo A L)];refine ag.2 (tx v b a λc h1 hc k1=>ez (λe=>absurd (hc.1 e) hn1) λ_=>?_)
 have v1:=v.upd0 k1;refine tx v1 a b λc2 h2 hc2 k2=>ez (λe=>absurd (hc2.1 e) hn2) λ_=>?_
 have v2:=v1.upd0 k2;refine⟨_,rfl,_,vc v2.blk 6,Wf v2.g v2.inv.good.toSmall a b λg h3 m1 m2 m3 k3=>?_⟩
 have S:Met s.L a b g:=⟨m1,m2,m3⟩;have v3:=v2.upd0 k3;have Y:=(k1.tr k2).tr k3;have go:∀B:TD,ya s g B->TreeIs W h3 s.kind s.x B.1 B.2/\Few N B.2:=λB t=>by
  rcases t with⟨_,rfl⟩|⟨_,t⟩
  .exact⟨v3.em,cq,aK _,λ_ h=>by cases h⟩
  .exact⟨(v3.ts _ (iH t)).1,hF _ (iH t)⟩
 have gO:∀{h'},VaultAt W h' vp s->jH (.int .u32) (A4 wI) h' (some s.tm) (.int .u32 a) (A4 O.1) true:=λv'=>by
  have:=v'.t.get a (wI,[]);rw[hO]at this;exact this
 have gT:∀{h'},VaultAt W h' vp s->jH (.int .u32) (A4 wI) h' (some s.tm) (.int .u32 b) (A4 T.1) true:=λv'=>by
  have:=v'.t.get b (wI,[]);rw[hT]at this;exact this
 have fO:=hF _ (iH hO);have fT:=hF _ (iH hT);have X:∀y,W y->y<h.size:=v.g.lt;have fin:∀B:TD,ya s g B->∀z x E sv,Upd No h z->Upd No z x->(p=0->oW B.2 O.2 T.2 p= [])->TreeIs W x s.kind s.x E (ji B.2 O.2 T.2 p)->OwnS uQ 7 86 (λy=>z.size<=y) x sv ((oW B.2 O.2 T.2 p).map (DD B.2 O.2 T.2))->
   At (hnew x [.int .u32 a,.int .u32 b] 33) (λh50=>GA 54 [pV vp,.string n,A4 E,.slice (some (aH x)) 2 2] (λ(G:Int×Int) V=>fN (G.2 !=(0:Int)) (K (0,⟨none,0,0⟩,G.2) V) (K (G.1,sv,0) V)) h50):=λB t z x E sv F i A Z os=>by
  have f:=QV (p:=p) (go B t).2 fO fT;refine aV λh8 P k=>?_
  have I:=v.upd0 (F.tr i);refine EH I k n (d:=(E,ji B.2 O.2 T.2 p)) Z f.up f.fits (pb:=x.size) (aj _) (bw P) (sl:=⟨some (aH x),2,2⟩) (ps:= [a,b]) ⟨rfl,j7,aj _,.inr ⟨x.size,[],rfl,rfl,P,rfl⟩⟩ a7 λD w v9=>?_
  have s6:=F.size;have r:=hk g B S t A D E sv ((os.upd w λy o hM=>by have:=X y (v.w y hM);omega).more λy o=>a4) ((F.tr i).wide.tr w) v9
  refine ez (λe=>?_) λe=>?_
  .rw[if_neg (by simpa using e)]at r;exact r
  .rw[if_pos (by simpa using e)]at r;exact r
 refine Kf v3 (S.2.1.imp id λu=>u.1.right) λB t h4 k4=>?_
 have s4:=k4.size;have nt:∀y,W y->y≠h4.size:=λy o=>by have:=X y o;have:=Y.size;omega
 refine aV λh5 b5 k5=>cy (c:=jJ wI) (vs:=jJ B.1) b5 rfl λz J u6=>?_
 have H:Upd No h3 z:=(k4.tr k5).own u6 s4;have j:=v3.upd0 H;have i6:=(go B t).1.upd0 H;have F:=Y.tr H;obtain⟨S1,S2⟩:=hS g B S t;have fB:=(go B t).2;refine⟨_,vc J 0,_,vc J 1,_,vc J 2,_,vc J 3,_,vc J 4,_,vc J 5,_,rfl,_,vc j.blk 7,O.1,true,gO j,_,rfl,_,vc j.blk 7,T.1,true,gT j,?_,?_⟩
 .refine E0 i6 (j.ts _ (iH hO)).1 (j.ts _ (iH hT)).1 j.g.lt fB fO fT R R R A L S1 S2 (λe0 hc x sv os i=>?_) λhc x E sv Z os i=>?_
  .refine⟨vc (j.upd0 i).blk 7,vc (j.upd0 i).blk 7,aV λh8 P k=>⟨vc (j.upd0 (i.tr k)).blk 7,vc (j.upd0 (i.tr k)).blk 7,cy (c:=jJ wI) (vs:=jJ O.1) P rfl λD q w=>aw.2 ?_⟩⟩
   have s7:=i.size;have C:Upd No x D:=k.own w (aj _);exact U g B S t e0 hc D sv ((os.upd (k.own w (aj _)) λ_ _ h=>h).more λy o=>by have:=F.size;omega) ((F.tr i).tr C)
  .refine⟨vc (j.upd0 i).blk 7,vc (j.upd0 i).blk 7,aV λh8 P k=>⟨vc (j.upd0 (i.tr k)).blk 7,vc (j.upd0 (i.tr k)).blk 7,cy (c:=jJ wI) (vs:=jJ E) P rfl λD q w=>ag.2 ?_⟩⟩
   have C:Upd No x D:=k.own w (aj _);refine⟨_,vc q 0,_,vc q 1,_,vc q 2,_,vc q 3,_,vc q 4,_,vc q 5,?_⟩;exact fin B t z D E sv F (i.tr C) hc (Z.upd0 C) (os.upd C λ_ _ h=>h)
 .refine aV λx b7 i=>⟨gT (j.upd0 i),vc (j.upd0 i).blk 7,gO (j.upd0 i),vc (j.upd0 i).blk 7,?_,?_⟩
  .have Q:=i.get0 J
   exact⟨vc Q 0,vc Q 1,vc Q 2,vc Q 3,vc Q 4,vc Q 5⟩
  .have I:=j.upd0 i
   have s6:=i.size;have z7:=bw b7;have hw:∀y,(W y\/y=z.size)->W y\/z.size<=y:=λy o=>o.imp id λe=>a4
   refine E0 (W:=λy=>W y\/y=z.size) (i6.re i (λ_ h=>h.elim) hw) ((j.ts _ (iH hO)).1.re i (λ_ h=>h.elim) hw) ((j.ts _ (iH hT)).1.re i (λ_ h=>h.elim) hw) (λy o=>o.elim (I.g.lt y) λe=>a4) fB fO fT R R R A L S1 S2 (λe0 hc h8 sv os k=>?_) λhc h8 E sv Z os k=>?_
   .refine⟨vc (I.upd0 k).blk 7,vc (I.upd0 k).blk 7,cy (c:=jJ wI) (vs:=jJ O.1) (k.get0 b7) rfl λD q w=>aw.2 ?_⟩
    exact U g B S t e0 hc D sv ((os.upd w λy o e=>by have e:y=z.size:=e;omega).more λy o=>by have:=F.size;omega) (F.tr ((i.tr k).own w (aj _)))
   .refine⟨vc (I.upd0 k).blk 7,vc (I.upd0 k).blk 7,cy (c:=jJ wI) (vs:=jJ E) (k.get0 b7) rfl λD q w=>ag.2 ?_⟩
    refine⟨_,vc q 0,_,vc q 1,_,vc q 2,_,vc q 3,_,vc q 4,_,vc q 5,?_⟩;refine fin B t z D E sv F ((i.tr k).own w (aj _)) hc (Z.re (W':=W) w (λy o=>.inl (.inr o)) λy o=>.inl (.inl o)) ((os.upd w λy o e=>by have e:y=z.size:=e;omega).more λy o=>a4)
end
end
section
variable {h:ad} {n m:dO} {id p:Int} {s:f9} {t:Tr}
end
theorem N7{n:dO}(q:n.size<=1000000){h:ad}{K:Bool->eu}(d:K (pK n) h):eI 111 [.string n] K h:=by
 refine cZ (Fs n) Pm Tryz.func111 Tryz.call111 ?_;dsimp only[Fs,Ir];have f:n.data.toList.length=n.size:=Array.length_toList;refine eF (λ(i:Nat) (t:Int) h'=>t=(i:Int)/\h'=h/\i<=n.size/\∀b∈n.data.toList.take i,w9 b=true) (λi=>n.size-i) 0 ⟨rfl,rfl,aK _,a7⟩ ?_
 rintro I i t h' ⟨rfl,rfl,hi,g⟩ p;refine aq (λc=>?_) λo=>?_
 .have c:i<n.size:=by omega
  have a:i<n.data.toList.length:=a4
  have j:n[(i:Int).toNat]? =some n.data.toList[i]:=by
   rw[bi,getElem?_pos n i c];rfl
  refine eM (λt m=>t=(!w9 n.data.toList[i])/\m=h') (λR k=>⟨_,a4,j,aq (λe=>k _ _ ⟨?_,rfl⟩) λe=>⟨_,a4,j,k _ _ ⟨?_,rfl⟩⟩⟩) ?_
  .unfold w9;rw[decide_eq_false (by omega:¬33<=n.data.toList[i].toNat)];rfl
  .unfold w9;rw[decide_eq_true (by omega:33<=n.data.toList[i].toNat),ki,<-decide_not,decide_eq_decide];omega
  .rintro _ m ⟨rfl,rfl⟩
   refine ez (λe=>?_) λe=>?_
   .rw[show pK n=false from ?_]at d
    .exact d
    .unfold pK
     rw[show n.data.toList.all w9=false from List.all_eq_false.2 ⟨_,aG a,by simpa using e⟩,Bool.and_false]
   .rw[cf (n:=n.size) c a4]
    refine p (i+1) _ _ ⟨rfl,rfl,a4,?_⟩ a4
    rw[ax a];intro b hb;rcases aL.1 hb with hb|hb
    .exact g b hb
    .rw[av.1 hb];simpa using e
 .have:i=n.size:=by omega
  subst this;rw[<-f,bZ]at g;refine aq (λe=>?_) λe=>?_
  .rw[show pK n=decide ((n.size:Int)<33)from by unfold pK;rw[List.all_eq_true.2 g,decide_eq_true (by omega:1<=n.size),ki,Bool.and_true,decide_eq_decide];omega]at d
   exact d
  .rw[show pK n=false from by unfold pK;rw[decide_eq_false (by omega:¬1<=n.size)];rfl]at d
   exact d
section
variable {K:f9×Int->eu}
abbrev zS(p:dO×Int):c5:= [.string p.1,.int .u32 p.2]
theorem tN(p:dO×Int):(zS p).length=2/\0<2:=⟨rfl,a4⟩
theorem Hu:∀xs:BG,cA (xs.flatMap zS)=true
 | []=>rfl
 |_::xs=>Hu xs
theorem M4{h:ad}{ty:TypeId}{M W:eh}{base a:aT}{sl e b c:Nat}{out xs:BG}(g:OwnS zS 2 ty M h ⟨base,sl,e⟩ out)(d:Sl zS 2 W h ⟨a,b,c⟩ xs)(hM:M h.size)(i:out.length+xs.length<=1000000){K:f9->eu}
  (f:∀s' h',OwnS zS 2 ty M h' s' (out++xs)->Upd M h h'->K s' h'):∃v,SRow h a (b*2) v/\AppP (some [.string (⟨#[]⟩:dO),.int .u32 0]) 2 24 ty base sl e b v h K:=
 ⟨_,d.srow,AppP.own g d.len rfl (Hu xs) rfl a8 a4 hM f⟩
section
variable {W:eh} {h:ad} {s:f9} {l:BG} {n:dO} {id:Int}
theorem lK(v:Sl zS 2 W h s l)(J:l.length<=1000000){K:Int->eu}(g:∀i (hi:i<l.length),l[i].1=n->∀h',Upd No h h'->K (i:Int) h')(k:(∀p∈l,p.1≠n)->∀h',Upd No h h'->K (-1) h'):
  fK 64 [.slice s.a s.len s.cap,.string n] K h:=by
 refine cZ (IM s n) Rw Tryz.func64 Tryz.call64 ?_;dsimp only[IM,dT,nv,wK,Jo,En,cP,jz,fE,gj,bq];have G:=v.len;refine eF (λ(i:Nat) (t:Int) h'=>t=(i:Int)/\i<=l.length/\(∀j (f:j<l.length),j<i->l[j].1≠n)/\Upd No h h') (λi=>l.length-i) 0 ⟨rfl,aK _,(λj _ h=>a4),eQ _ _⟩ ?_
 rintro I i t o ⟨rfl,hi,u,d⟩ A;refine aq (λb=>?_) λD=>?_
 .have b:i<l.length:=by omega
  obtain⟨a,F,_,hv⟩:=(v.upd d λ_ h=>h.elim).at (af b)
  refine⟨⟨a4,a4⟩,a,F,_,hv 0 _ rfl,_,hv 1 _ rfl,aV λH z C=>cy (c:= [.string ⟨#[]⟩,.int .u32 0]) (vs:=zS l[i]) z rfl λw y E=>⟨_,vc y 0,?_⟩⟩
  have q:Upd No o w:=C.own E (aj _);rw[dV];refine aq (λe=>g i b e w (d.tr q)) λe=>?_
  rw[cf (n:=l.length) b a4];refine A (i+1) _ _ ⟨rfl,b,λj f x=>?_,d.tr q⟩ a4
  by_cases B:j=i
  .subst B;exact e
  .exact u j f a4
 .exact k (λp m=>by obtain⟨j,f,e⟩:=bJ m;rw[<-e];exact u j f a4) o d
theorem Sy(z:Sl zS 2 W h s l)(hc:s.len<=s.cap)(P:l.length<=1000)(F:∀y,W y->y<h.size)(j:∀i (_:i<l.length),l[i].1=n->∀h' s',Sl zS 2 W h' s' (l.take i++l.drop (i+1))->s'.len<=s'.cap->Upd No h h'->K (s',0) h')(x:(∀p∈l,p.1≠n)->∀h',Upd No h h'->K (s,4) h'):
  MG 62 [.slice s.a s.len s.cap,.string n] K h:=by
 refine cZ (Dc s n) .nil Tryz.func62 Tryz.call62 ?_;dsimp only[Dc,kr,wK,nL,ox,Ga];have D:=z.len;refine lK z a4 (λi hi e B t=>?_) λw B t=>aq (λ_=>x w B t) λh=>absurd a4 h
 have E:ac .i64 ((i:Int)+1)=((i+1:Nat):Int):=cf (n:=l.length) hi a4;rw[E];simp only[bi];refine aq (λh=>absurd h a4) λ_=>⟨⟨a4,a4⟩,⟨a4,a4⟩,?_⟩
 unfold Bd;refine aV λC Q H=>?_
 have a:=t.tr H;have aad:=a.size;have g:=z.upd a λ_ h=>h.elim
 refine M4 (M:=λy=>C.size<=y) (out:= []) (OwnS.nil tN) (g.sub (l:=0) (hi:=i) (m:=s.cap) (c:=0) (aK _) a4 a4) (aj _) a9 λO N I u=>?_
 have o:=g.upd (W:=W) (M:=λy=>C.size<=y) u λy A=>.inr A
 have hd:=o.sub (l:=i+1) (hi:=l.length) (m:=s.cap) (c:=0) hi (aj _) a4;rw[D];refine M4 I hd (by have:=u.size;omega) a9 λq f d v=>?_
 have k:Upd No h f:=(a.fresh u λy A=>a4).fresh v λy A=>a4
 refine j i hi e f q ?_ d.cap k;have:=d.sl (W:=W) λb hb J G=>by have:=F b G;omega
 have L:(l.drop (i+1)).take (l.length-(i+1))=l.drop (i+1):=aS a7;rw[L]at this;simpa using this
theorem Sz{xp xg:Nat}{L:de}{nx:Int}(g:RefAt W h xg L nx){ob:Array Value}{ot:TypeId}(hx:h[xp]? =some (.cells ob ot (0,0))) (h5:ob[5]? =some (.pointer (some ⟨xg,0,none⟩))) (hL:L.length<=100000) (E:Sl zS 2 W h s l) (hc:s.len<=s.cap) (hn:l.length<=1000) (hz:∀p∈l,p.1.size<=40) (hz2:n.size<=40) {B:BG} (r:NmR B l) (no:Bool) 
  (hk:∀h' s',Sl zS 2 W h' s' (if mC B L n id no=0 then Ct l n id else l)->s'.len<=s'.cap->Upd No h h'->K (s',mC B L n id no) h'):
  MG 60 [gV xp,.slice s.a s.len s.cap,.string n,.int .u32 id,.bool no] K h:=by
 refine cZ (Lv (some ⟨xp,0,none⟩) s n id no) UL Tryz.func60 Tryz.call60 ?_;dsimp only[Lv,tD,lG,kr,wK,Jo,nL,ox,En,cP,jz,fE,yF,dC,cL];have hl:=E.len;have lB:=r.pm.length_eq;have hW:∀y,W y->y<h.size:=g.lt;have q:∀e h',mC B L n id no=e->e≠0->Upd No h h'->K (s,e) h':=λe h' he h0 k=>by
  have:=hk h' s (by rw[he,if_neg h0];exact E.upd k λ_ h=>h.elim) hc k
  rw[he]at this;exact this
 refine N7 a4 (ez (λe=>q 1 h ?_ a8 (eQ _ _)) λe=>?_)
 .unfold mC;rw[if_pos (by simpa using e)]
 have e:¬pK n=false:=by simpa using e
 refine lK E a4 (λi hi ei h4 P=>aq (λ_=>q 7 h4 ?_ a8 P) λh=>absurd a4 h) λhno h4 P=>aq (λh=>absurd h a4) λ_=>?_
 .have:=r.at hi
  unfold mC;rw[if_neg e,<-ei,this];exact if_pos rfl
 have Y:¬(bE B n).isSome=true:=by rw[r.no hno];decide
 have g4:=g.upd0 P;refine eM (λt h'=>t=(no|| !decide (id=0\/id∈dM L))/\Upd No h4 h') (λR F=>?_) ?_
 .refine ez (λen=>F _ _ ⟨by rw[en];rfl,eQ _ _⟩) λen=>ez (λC=>⟨_,rfl,_,(vc (P.get0 hx) 5).trans h5,BW g4 a4 id λm h9 k9 hm=>F _ _ ⟨?_,k9⟩⟩) λC=>F _ _ ⟨?_,eQ _ _⟩
  .have C:id≠0:=by simpa using C
   rw[en,Bool.false_or,<-decide_not,decide_eq_decide];constructor
   .intro d hh
    have:=hm.2 (hh.resolve_left C);omega
   .intro hh
    have:¬m>=0:=λu=>hh (.inr (hm.1 u))
    omega
  .have C:id=0:=by simpa using C
   rw[en,C];simp
 rintro t V ⟨rfl,k11⟩;have j:=P.tr k11;refine ez (λe3=>q 4 V ?_ a8 j) λe3=>aq (λe4=>q 6 V ?_ a8 j) λe4=>?_
 .unfold mC;rw[if_neg e,if_neg Y,if_pos e3]
 .unfold mC;rw[if_neg e,if_neg Y,if_neg (by rw[e3];decide),if_pos a4]
 have e5:mC B L n id no=0:=by unfold mC;rw[if_neg e,if_neg Y,if_neg (by rw[e3];decide),if_neg a4]
 rw[e5,if_pos rfl]at hk;refine eF (λ(i:Nat) (t:Int) h'=>t=(i:Int)/\i<=l.length/\(∀v∈l.take i,bM v.1.toList n.toList=true)/\Upd No h h') (λi=>l.length-i) 0 ⟨rfl,aK _,a7,j⟩ ?_
 rintro I i t h14 ⟨rfl,hi,hp,O⟩ hI;refine eM (λt h'=>(t=true↔∃hi:i<l.length,bM l[i].1.toList n.toList=true)/\Upd No h14 h') (λR F=>?_) ?_
 .refine aq (λd=>?_) λu=>F _ _ ⟨⟨λh=>(by cases h),λ⟨hi,_⟩=>absurd a4 u⟩,eQ _ _⟩
  have d:i<l.length:=a4
  obtain⟨a,ha,_,hv⟩:=(E.upd O λ_ h=>h.elim).at (af d)
  refine⟨⟨a4,a4⟩,a,ha,_,hv 0 _ rfl,Hn (by have:=hz _ (aG d);omega) (F _ _ ⟨?_,eQ _ _⟩)⟩
  rw[decide_eq_true_iff];exact⟨λh=>⟨d,h⟩,λ⟨_,h⟩=>h⟩
 rintro t S ⟨ht,k21⟩;have o:=O.tr k21;refine ez (λZ=>?_) λZ=>?_
 .obtain⟨d,hb⟩:=ht.1 Z
  rw[cf (n:=l.length) d a4];refine hI (i+1) _ _ ⟨rfl,d,λv hv=>?_,o⟩ a4
  rw[ax d]at hv;rcases aL.1 hv with hv|hv
  .exact hp v hv
  .rw[av.1 hv];exact hb
 .obtain⟨et,ed⟩:=xG (p:=λv:dO×Int=>bM v.1.toList n.toList) l i hi hp λd=>by
   cases hb:bM l[i].1.toList n.toList with
   |false=>rfl
   |true=>rw[ht.2 ⟨d,hb⟩]at Z;cases Z
  refine fo ?_;refine aV λh23 b23 A=>⟨⟨a4,a4⟩,?_⟩
  rw[bi,hl];have x:=o.tr A;have Q:=E.upd x λ_ h=>h.elim
  refine M4 (M:=λy=>S.size<=y) (out:= [(n,id)]) ((OwnS.one tN b23).more λy w=>by obtain⟨_,a,ha,w⟩:=w;cases ha;exact cI w.symm) (Q.sub (l:=i) (hi:=l.length) (m:=s.cap) (c:=0) hi (aj _) a4) A.size a9 λs25 h26 T G=>?_
  have Y:(l.drop i).take (l.length-i)=l.drop i:=aS a7;rw[Y]at T;have s021:=o.size;have J:Upd No h h26:=x.fresh G λy w=>a4
  refine aV λD b29 z=>⟨⟨a4,a4⟩,?_⟩
  have f:=J.tr z;have s029:=f.size;have U:=E.upd f λ_ h=>h.elim
  have k2129:Upd (λy=>S.size<=y) h23 D:=G.tr z.wide
  have z23:=A.size;have o29:=T.upd z λ_ _ h=>h
  refine M4 (M:=λy=>D.size<=y) (out:= []) (OwnS.nil tN) (U.sub (l:=0) (hi:=i) (m:=s.cap) (c:=0) (aK _) hi a4) (aj _) a9 λs31 h32 o32 u32=>?_
  have hr:=(o29.sl (W:=λy=>D.size<=y) λb _ d u=>a4).upd u32 λy w=>.inl w
  refine M4 o32 (c:=s25.cap) hr (by have:=u32.size;omega) a9 λs34 H N u35=>?_
  have X:Upd No h H:=(f.fresh u32 λy w=>a4).fresh u35 λy w=>a4
  refine hk H s34 ?_ N.cap X;have:=N.sl (W:=W) λb hb d hw=>by have:=hW b hw;omega
  unfold Ct;rw[et,ed];simpa using this
end
end
section
variable {l O:bY}{i:Nat}{p:Int}{K:Int->eu}
theorem nG{W:eh}{x:Hs}{h:ad}{kind:Int}{r:Rt}(i:RefIs W h kind x r l)(j:bO l)(p:Fit l)(t:l.length<=1000000)(k:dO){K:Sd->eu}(g:∀h',Upd No h h'->K (zN (look l k)) h'):Ea 118 [UT r,.string k] K h:=by
 refine cZ (LB r k) .nil Tryz.func118 Tryz.call118 ?_;dsimp only[LB,dH,ee,ou,kr,FJ,yE,uT,bq,iu];refine aV λu b1 k1=>aV λw b2 n=>?_
 have a:=k1.tr n;obtain⟨s,rfl,q,_⟩:=i;refine⟨s,vc (n.get0 b1) 4,?_⟩;refine Sm (q.upd a λ_ h=>h.elim) j p t k λv b f=>?_
 have e:zN (look l k)=(v,cE l k):=SG j b f;rw[e]at g;refine cy (c:= [.string (⟨#[]⟩:dO),.bool false]) (vs:=Zw (v,cE l k)) b2 rfl λo m d=>?_
 exact⟨_,vc m 0,_,vc m 1,g o (a.own d k1.size)⟩
def FU(a l:bY):bY:=l.foldl (λa p=>gw p a) a
theorem zR{a:bY}(hi:i<l.length):FU a (l.take (i+1))=gw l[i] (FU a (l.take i)):=by
 unfold FU;rw[ax hi,List.foldl_append];rfl
theorem xK:∀{l a:bY},bO a->bO (FU a l)
 | [],_,h=>h
 |p::l,_,h=>xK (l:=l) (pj p h)
theorem zU{k:dO}:∀{l a:bY},(look (FU a l) k).isSome=((look a k).isSome||(look l k).isSome)
 | [],a=>by rw[Ow];simp[FU]
 |p::l,a=>by
  show(look (FU (gw p a) l) k).isSome=_
  rw[zU,HH,fa];split
  .simp
  .rfl
def yN(B O T:bY):bY:=FU (FU (FU [] B) O) T
theorem yT{B T:bY}:bO (yN B O T):=xK (xK (xK cq))
theorem HF{B T:bY}{k:dO}(h:(look (yN B O T) k).isSome=false):look B k=none/\look O k=none/\look T k=none:=by
 unfold yN at h;rw[zU,zU,zU,Ow]at h;simpa[and_assoc]using h
def H9(B O T:bY)(p:Int)(l:bY):List dO:=(l.map (·.1)).filter λk=> !(tk B O T p k).2
def Bk(B O T:bY)(p:Int)(l:bY):bY:=l.filterMap λq=>(tk B O T p q.1).1.map λv=>(q.1,v)
theorem Uk{B T:bY}(hi:i<l.length):H9 B O T p (l.take (i+1))=H9 B O T p (l.take i)++if(tk B O T p l[i].1).2 then[]else[l[i].1]:=by
 unfold H9;rw[ax hi,cF,ct];congr 1
 rw[List.map_singleton,aZ,List.filter_nil];cases(tk B O T p l[i].1).2<;>rfl
def Y7(k:dO)(o:Option dO):bY:=(o.map λv=>(k,v)).toList
theorem TS{B T:bY}(hi:i<l.length):Bk B O T p (l.take (i+1))=Bk B O T p (l.take i)++Y7 l[i].1 (tk B O T p l[i].1).1:=by
 unfold Bk Y7;rw[ax hi,List.filterMap_append];congr 1
theorem WI{B T:bY}:(H9 B O T p l).length<=l.length:=aQ (bP ..) (Nat.le_of_eq (bS ..))
theorem VJ{B T:bY}:(Bk B O T p l).length<=l.length:=List.length_filterMap_le ..
theorem VI{B T:bY}:∀{l:bY} {q:Pr},q∈Bk B O T p l->∃r∈l,r.1=q.1:=by
 intro l q h;obtain⟨r,a,e⟩:=List.mem_filterMap.1 h;refine⟨r,a,?_⟩;cases ho:(tk B O T p r.1).1 with
 |none=>rw[ho]at e;cases e
 |some v=>rw[ho]at e;cases e;rfl
theorem Hk{B O T:bY}{p:Int}:∀{l:bY},bO l->bO (Bk B O T p l)
 | [],_=>cq
 |q::l,h=>by
  have h:=aC.1 h;have a:=Hk (B:=B) (O:=O) (T:=T) (p:=p) h.2;unfold Bk at a⊢;rw[kC];split
  .exact a
  .rename_i b e
   cases ho:(tk B O T p q.1).1 with
   |none=>rw[ho]at e;cases e
   |some v=>
    rw[ho]at e;cases e;refine aC.2 ⟨λr d=>?_,a⟩
    obtain⟨f,c,g⟩:=VI d;show kl q.1 r.1
    rw[<-g];exact h.1 f c
theorem KJ{B O T:bY}{p:Int}{k:dO}:∀{l:bY},bO l->look (Bk B O T p l) k=if(look l k).isSome then(tk B O T p k).1 else none
 | [],_=>rfl
 |q::l,h=>by
  have h':=aC.1 h;have a:=KJ (B:=B) (O:=O) (T:=T) (p:=p) (k:=k) h'.2;rw[fa];by_cases e:q.1=k
  .subst e
   rw[if_pos rfl];have b:look l q.1=none:=yZ h'.1;rw[b]at a;show look (Bk B O T p (q::l)) q.1=(tk B O T p q.1).1
   unfold Bk at a⊢;rw[kC];cases ho:(tk B O T p q.1).1 with
   |none=>exact a
   |some v=>show look ((q.1,v)::_) q.1=_;rw[fa,if_pos rfl]
  .rw[if_neg e,<-a]
   unfold Bk;rw[kC];cases ho:(tk B O T p q.1).1 with
   |none=>rfl
   |some v=>show look ((q.1,v)::_) k=_;rw[fa,if_neg e]
theorem Qt{B T:bY}(a:bO B)(f:bO O)(c:bO T):Bk B O T p (yN B O T)=ji B O T p:=by
 refine VW (Hk yT) (xL f) λk=>?_
 rw[KJ yT,HG a c];cases hk:(look (yN B O T) k).isSome with
 |true=>rfl
 |false=>
  obtain⟨d,e,b⟩:=HF hk;unfold tk tE;rw[d,e,b];rfl
theorem Q7{B T:bY}(a:bO B)(b:bO T):H9 B O T p (yN B O T)=oW B O T p:=by
 have e:=yT (B:=B) (O:=O) (T:=T);refine OA ?_ (XL a b) λk=>?_
 .unfold H9
  exact List.Pairwise.sublist List.filter_sublist (fX.2 e)
 .rw[VQ a b]
  unfold H9;rw[bL];refine⟨λh=>by simpa using h.2,λh=>⟨?_,by rw[h];rfl⟩⟩
  cases hk:look (yN B O T) k with
  |some v=>exact aR.2 ⟨_,mR hk,rfl⟩
  |none=>
   obtain⟨f,d,c⟩:=HF (B:=B) (O:=O) (T:=T) (k:=k) (by rw[hk];rfl);unfold tk at h;exact absurd (d.trans c.symm) (NH.1 h).1
theorem Bp{W W':eh}{h h':ad}{kind:Int}{x:Hs}{r q:Rt}{l':bY}(j:RefIs W h kind x r l)(a:RefIs W' h' kind x q l'):E3 r q=true:=by
 obtain⟨s,rfl,_⟩:=j;obtain⟨s',rfl,_⟩:=a;simp[E3]
abbrev XQ(d:Int×Rt):c5:= [.int .u32 d.1,.int .i64 d.2.1,.int .u64 d.2.2.1,.int .u64 d.2.2.2.1,.int .u64 d.2.2.2.2.1,.slice d.2.2.2.2.2.a d.2.2.2.2.2.len d.2.2.2.2.2.cap]
theorem XP(d:Int×Rt):(XQ d).length=6/\0<6:=⟨rfl,a4⟩
structure RS where
 L:de
 nx:Int
 D:List (Int×TD)
 Ds:List (Int×Rt)
 ts:f9
 sB:f9
 sT:f9
 B:BG
 T:BG
def RW(a b:Nat)(q:RS)(y:Nat):Prop:=y=a\/y=b\/sb q.ts y
abbrev rvL(re:Rt)(a:Nat)(q:RS):c5:=uN re++ [Value.pointer (some ⟨a,0,none⟩),.slice q.ts.a q.ts.len q.ts.cap,.slice q.sB.a q.sB.len q.sB.cap,.slice q.sT.a q.sT.len q.sT.cap]
structure Rn(W:eh)(h:ad)(xp xg:Nat)(kind:Int)(x:Hs)(re:Rt)(q:RS):Prop where
 r:RefAt W h xg q.L q.nx
 wx:W xp
 gx:xg≠xp
 blk:h[xp]? =some (.cells (rvL re xg q).toArray 139 (0,0))
 e:RefIs W h kind x re []
 ts:OwnS XQ 6 211 (sb q.ts) h q.ts q.Ds
 tw:∀y,sb q.ts y->W y/\y≠xg/\y≠xp
 b:Sl zS 2 W h q.sB q.B
 bc:q.sB.len<=q.sB.cap
 t:Sl zS 2 W h q.sT q.T
 tc:q.sT.len<=q.sT.cap
 n:q.Ds.length=q.D.length
 par:∀i (h1:i<q.Ds.length) (h2:i<q.D.length),q.Ds[i].1=q.D[i].1/\RefIs W h kind x q.Ds[i].2 q.D[i].2.2
section
variable {W W' M:eh} {h h':ad}
theorem Sl.re{α:Type}{f:α->c5}{sz:Nat}{s:f9}{xs:List α}(i:Sl f sz W h s xs)(k:Upd M h h')(hm:∀b,M b->W b\/h.size<=b)(a:∀b,W' b->W b\/h.size<=b):Sl f sz W' h' s xs:=
 ((i.less (W':=λb=>W b\/h.size<=b) λ_ hb=>hb).upd k λb hb=>.inl (hm b hb)).less λb hb=>.inl (a b hb)
theorem RefIs.re{kind:Int}{x:Hs}{r:Rt}(i:RefIs W h kind x r l)(k:Upd M h h')(hm:∀b,M b->W b\/h.size<=b)(a:∀b,W' b->W b\/h.size<=b):RefIs W' h' kind x r l:=
 RefIs.less (λb hb=>.inl (a b hb)) (RefIs.updM (W:=λb=>W b\/h.size<=b) k (λb hb=>.inl (hm b hb)) (RefIs.less (λ_ hb=>hb) i))
theorem Y6(k:Upd M h h')(hm:∀b,M b->W b\/h.size<=b)(a:∀b,W' b->W b\/h.size<=b):∀{l:List (Int×f9)} {m:de},Par W h l m->Par W' h' l m
 | [],[],_=>trivial
 |_::_,_::_,g=>⟨g.1,Sl.re g.2.1 k hm a,Y6 k hm a g.2.2⟩
theorem RefAt.re{d:Nat}{L:de}{nx:Int}(g:RefAt W h d L nx)(k:Upd M h h')(hm:∀b,M b->(W b/\b≠d)\/h.size<=b)(f:∀b,W' b->(W b\/h.size<=b)/\b<h'.size)(j:W' d):RefAt W' h' d L nx:=by
 have c:∀b,M b->W b\/h.size<=b:=λb hb=>(hm b hb).imp (·.1) id
 have a:∀b,W' b->W b\/h.size<=b:=λb hb=>(f b hb).1
 obtain⟨s,t,Ls,o,m,i,n⟩:=g.blk;exact⟨⟨s,t,Ls,k.get o λe=>(hm _ e).elim (λe=>e.2 rfl) λe=>absurd (g.lt _ g.wp) (df.2 e),Sl.re m k c a,Y6 k c a i,n⟩,j,λb hb=>(f b hb).2⟩
variable {xp xg:Nat} {kind:Int} {x:Hs} {re:Rt} {q:RS}
theorem Rn.lt(g:Rn W h xp xg kind x re q):∀y,W y->y<h.size:=g.r.lt
theorem Rn.rw(g:Rn W h xp xg kind x re q):∀y,RW xg xp q y->W y:=λy a=>a.elim (λe=>e▸g.r.wp) λa=>a.elim (λe=>e▸g.wx) λa=>(g.tw y a).1
theorem Rn.mv(g:Rn W h xp xg kind x re q)(k:Upd M h h')(hm:∀b,M b->(W b/\¬RW xg xp q b)\/h.size<=b)(j:∀b,W' b->(W b\/h.size<=b)/\b<h'.size)(f:∀y,RW xg xp q y->W' y):Rn W' h' xp xg kind x re q:=by
 have c:∀b,M b->W b\/h.size<=b:=λb hb=>(hm b hb).imp (·.1) id
 have a:∀b,W' b->W b\/h.size<=b:=λb hb=>(j b hb).1
 have no:∀y,RW xg xp q y->¬M y:=λy d hM=>(hm y hM).elim (λe=>e.2 d) λe=>absurd (g.lt y (g.rw y d)) (df.2 e)
 exact⟨g.r.re k (λb hb=>(hm b hb).imp (λe=>⟨e.1,λo=>e.2 (.inl o)⟩) id) j (f _ (.inl rfl)),f _ (.inr (.inl rfl)),g.gx,k.get g.blk (no _ (.inr (.inl rfl))),g.e.re k c a,
  g.ts.upd k λy d=>no y (.inr (.inr d)),λy d=>⟨f y (.inr (.inr d)),(g.tw y d).2⟩,Sl.re g.b k c a,g.bc,Sl.re g.t k c a,g.tc,g.n,λi m n=>⟨(g.par i m n).1,(g.par i m n).2.re k c a⟩⟩
theorem Rn.upd(g:Rn W h xp xg kind x re q)(k:Upd M h h')(hm:∀b,M b->(W b/\¬RW xg xp q b)\/h.size<=b):Rn W h' xp xg kind x re q:=
 g.mv k hm (λb hb=>⟨.inl hb,aA (g.lt b hb) k.size⟩) g.rw
theorem Rn.upd0(g:Rn W h xp xg kind x re q)(k:Upd No h h'):Rn W h' xp xg kind x re q:=g.upd k λ_ h=>h.elim
theorem Rn.names(g:Rn W h xp xg kind x re q)(k:Upd M h h')(hm:∀y,M y->y=xp\/h.size<=y){sB sT:f9}{B T:BG}(hb:h'[xp]? =some (.cells (rvL re xg {q with sB:=sB,sT:=sT,B:=B,T:=T}).toArray 139 (0,0))) (b:Sl zS 2 W h' sB B) (bc:sB.len<=sB.cap) (t:Sl zS 2 W h' sT T) (tc:sT.len<=sT.cap):
  Rn W h' xp xg kind x re {q with sB:=sB,sT:=sT,B:=B,T:=T}:=by
 have a:∀b,M b->W b\/h.size<=b:=λb e=>(hm b e).imp (λ(e:b=xp)=>e▸g.wx) id
 have hx:∀b,M b->(W b/\b≠xg)\/h.size<=b:=λb e=>(hm b e).imp (λ(e:b=xp)=>⟨e▸g.wx,λj=>g.gx (j.symm.trans e)⟩) id
 exact⟨g.r.upd k hx,g.wx,g.gx,hb,g.e.updM k a,g.ts.upd k λy d e=>(hm y e).elim (λe=>(g.tw y d).2.2 e) λe=>absurd (g.lt y (g.tw y d).1) (df.2 e),g.tw,b,bc,t,tc,g.n,λi c f=>⟨(g.par i c f).1,(g.par i c f).2.updM k a⟩⟩
theorem wp(g:Rn W h xp xg kind x re q)(_:Upd No h h'):∀b,b=xp->W b\/h'.size<=b:=λ_ e=>.inl (e▸g.wx)
variable (g:Rn W h xp xg kind x re q) (hL:q.L.length<=100000) {n:dO} {id:Int}
include g
include hL in
theorem PA(t:q.B.length<=1000)(j:∀p∈q.B,p.1.size<=40)(c:n.size<=40){B:BG}(r:NmR B q.B)
  (f:∀h' s',Upd (· =xp) h h'->Rn W h' xp xg kind x re {q with sB:=s',B:=if mC B q.L n id false=0 then Ct q.B n id else q.B}->K (mC B q.L n id false) h'):fK 24 [gV xp,.string n,.int .u32 id] K h:=by
 refine cZ (De (some ⟨xp,0,none⟩) n id) .nil Tryz.func24 Tryz.call24 ?_;dsimp only[De,XJ,cL,iL,dh,xe,cj];refine⟨_,rfl,q.sB,vc g.blk 7,Sz g.r g.blk rfl hL g.b g.bc t j c r false λu d o m a=>⟨_,rfl,tC (i:=7) (a.get0 g.blk) a7 rfl λk s b=>?_⟩⟩
 exact f k d (a.wide.tr b) (g.names (sB:=d) (sT:=q.sT) (T:=q.T) (a.wide.tr b) (λy e=>.inl e) s (o.upd b (wp g a)) m ((g.upd0 a).t.upd b (wp g a)) g.tc)
include hL in
theorem Xz(t:q.T.length<=1000)(j:∀p∈q.T,p.1.size<=40)(c:n.size<=40){B:BG}(r:NmR B q.T)
  (f:∀h' s',Upd (· =xp) h h'->Rn W h' xp xg kind x re {q with sT:=s',T:=if mC B q.L n id (id==0)=0 then Ct q.T n id else q.T}->K (mC B q.L n id (id==0)) h'):fK 28 [gV xp,.string n,.int .u32 id] K h:=by
 refine cZ (Lw (some ⟨xp,0,none⟩) n id) .nil Tryz.func28 Tryz.call28 ?_;dsimp only[Lw,cj,XJ,cL,iL,dh];refine⟨_,rfl,q.sT,vc g.blk 8,Sz g.r g.blk rfl hL g.t g.tc t j c r (id==0) λu d o m a=>⟨_,rfl,tC (i:=8) (a.get0 g.blk) a7 rfl λk s b=>?_⟩⟩
 exact f k d (a.wide.tr b) (g.names (sT:=d) (sB:=q.sB) (B:=q.B) (a.wide.tr b) (λy e=>.inl e) s ((g.upd0 a).b.upd b (wp g a)) g.bc (o.upd b (wp g a)) m)
theorem GF(u:q.B.length<=1000)(c:∀i (_:i<q.B.length),q.B[i].1=n->∀h' s',Upd (· =xp) h h'->Rn W h' xp xg kind x re {q with sB:=s',B:=q.B.take i++q.B.drop (i+1)}->K 0 h')
  (d:(∀p∈q.B,p.1≠n)->∀h',Upd (· =xp) h h'->Rn W h' xp xg kind x re q->K 4 h'):fK 26 [gV xp,.string n] K h:=by
 refine cZ (Dd (some ⟨xp,0,none⟩) n) .nil Tryz.func26 Tryz.call26 ?_;dsimp only[Dd,kr,cL,iL,dh,xe,cj];refine⟨_,rfl,q.sB,vc g.blk 7,Sy g.b g.bc u g.lt (λi hi e o m t s a=>⟨_,rfl,tC (i:=7) (a.get0 g.blk) a7 rfl λk j b=>?_⟩) λf o a=>⟨_,rfl,tC (i:=7) (a.get0 g.blk) a7 rfl λk j b=>?_⟩⟩
 .exact c i hi e k m (a.wide.tr b) (g.names (sB:=m) (sT:=q.sT) (T:=q.T) (a.wide.tr b) (λy e=>.inl e) j (t.upd b (wp g a)) s ((g.upd0 a).t.upd b (wp g a)) g.tc)
 .exact d f k (a.wide.tr b) (g.names (sB:=q.sB) (sT:=q.sT) (T:=q.T) (a.wide.tr b) (λy e=>.inl e) j ((g.upd0 a).b.upd b (wp g a)) g.bc ((g.upd0 a).t.upd b (wp g a)) g.tc)
theorem Kc(u:q.T.length<=1000)(c:∀i (_:i<q.T.length),q.T[i].1=n->∀h' s',Upd (· =xp) h h'->Rn W h' xp xg kind x re {q with sT:=s',T:=q.T.take i++q.T.drop (i+1)}->K 0 h')
  (d:(∀p∈q.T,p.1≠n)->∀h',Upd (· =xp) h h'->Rn W h' xp xg kind x re q->K 4 h'):fK 30 [gV xp,.string n] K h:=by
 refine cZ (Fq (some ⟨xp,0,none⟩) n) .nil Tryz.func30 Tryz.call30 ?_;dsimp only[Fq,cj,kr,cL,iL,dh];refine⟨_,rfl,q.sT,vc g.blk 8,Sy g.t g.tc u g.lt (λi hi e o m t s a=>⟨_,rfl,tC (i:=8) (a.get0 g.blk) a7 rfl λk j b=>?_⟩) λf o a=>⟨_,rfl,tC (i:=8) (a.get0 g.blk) a7 rfl λk j b=>?_⟩⟩
 .exact c i hi e k m (a.wide.tr b) (g.names (sT:=m) (sB:=q.sB) (B:=q.B) (a.wide.tr b) (λy e=>.inl e) j ((g.upd0 a).b.upd b (wp g a)) g.bc (t.upd b (wp g a)) s)
 .exact d f k (a.wide.tr b) (g.names (sB:=q.sB) (B:=q.B) (sT:=q.sT) (T:=q.T) (a.wide.tr b) (λy e=>.inl e) j ((g.upd0 a).b.upd b (wp g a)) g.bc ((g.upd0 a).t.upd b (wp g a)) g.tc)
end
end
section
variable {h:ad}{K:f9->eu}{N:Nat}{S:List Int->Prop}{Q:eh}
theorem Aa{M:eh}{so:f9}{out:List Int}{x:Int}(d:OwnS u32 1 33 M h so out)(hM:∀b,h.size<=b->M b)(f:out.length<=1000000000)
  (c:∀s' h',OwnS u32 1 33 M h' s' (out++ [x])->Upd M h h'->K s' h'):
  ∃xs,SRow (hnew h [.int .u32 x] 33) (some (aH h)) (1*1) xs/\AppP (some [.int .u32 0]) 1 4 33 so.a so.len so.cap 1 xs (hnew h [.int .u32 x] 33) K:=by
 have k:=fD No h [.int .u32 x] 33;refine⟨_,((PY (M:=λ_=>True) h x trivial).sl (W:=No) λ_ _ _ h=>h).srow,?_⟩
 refine AppP.own (ys:= [x]) (d.upd k λ_ _ h=>h) rfl rfl rfl rfl a4 (by simp only[List.length_singleton];omega) (hM _ (by rw[dA];omega)) λs' h' a e=>?_
 exact c s' h' a ((fD M h _ _).tr e)
theorem V3{r:Nat}{m:List (Int×f9)}(hm:MapAt KE sv h r m){K:Value->eu}
  (i:∀fv h',Gives PG fv u32 m.length (λxs=>xs.Perm (m.map (·.1))) (λb=>b=r\/b=h.size) h'->Upd No h h'->K fv h'):JC 39 [.map (some r)] K h:=by
 refine cZ (jF (some r)) .nil Tryz.func39 Tryz.call39 ?_;unfold jF;have k:=fD No h [.map (some r)] 32;refine i _ _ ?_ k;refine QH (hm.upd k id) (bx:=h.size) (bV ..) λy p K hb a=>oa y ⟨h.size,0,none⟩ ?_
 dsimp only[fg,Pc];obtain⟨c,⟨es,d⟩,a⟩:=a;refine⟨some r,by rw[ba hb];rfl,c,.inr ⟨r,es,rfl,d⟩,?_⟩
 refine(a _ rfl).imp λI t h n=>n.imp id λe q ⟨x,v,j,f,g,o⟩=>⟨rfl,e,x,v,j,f,g,o⟩
theorem M2{V:Value}(hg:Gives PG V u32 N S Q h)(hN:N<=1000000000)
  (hk:∀s' h' xs,S xs->OwnS u32 1 33 (λb=>h.size<=b) h' s' xs->Upd No h h'->K s' h'):dS 130 [.slice none 0 0,V] K h:=by
 refine rZ ⟨none,0,0⟩ V ?_;unfold lU V4;have k0:=fD No h [.slice none 0 0] 45;have Z:=bV h [.slice none 0 0] 45;have W:(hnew h [.slice none 0 0] 45).size=h.size+1:=dA ..;have J:=hg.upd k0 λ_ _=>id
 simp only[At];generalize hnew h [.slice none 0 0] 45=h1 at J k0 Z W;refine⟨λlo hlo g=>?_⟩
 obtain⟨f,first,cap,rfl,G⟩:=J.run
 refine⟨f,first,cap,rfl,?_⟩
 have k1:Upd No h1 ((h1.push (.deferred (some []))).push (lo .ready none)):=(Upd.push No _ _).tr (Upd.push No _ _);have l2:((h1.push (.deferred (some []))).push (lo .ready none))[h1.size+1]? =some (lo .ready none):=by
  have:=mO (h1.push (.deferred (some []))) (lo .ready none);rwa [Array.size_push]at this
 have l1:((h1.push (.deferred (some []))).push (lo .ready none))[h1.size]? =some (.deferred (some [])):=(Upd.push No _ _).get0 (mO h1 _);refine G (.func (.yield (h1.size+1)) #[] #[]) (λpre A h'=>(∀b,A b->b<h'.size/\h.size<=b)/\A h.size/\A h1.size/\A (h1.size+1)/\h'[h1.size]? =some (.deferred (some []))/\h'[h1.size+1]? =some (lo .ready none)/\
   ∃s:f9,h'[h.size]? =some (.cells #[sv s] 45 (0,0))/\OwnS u32 1 33 (λb=>A b/\h1.size+1<b) h' s pre/\pre.length<=N)
  (λb=>b=h.size\/b=h1.size\/b=h1.size+1) No _ _ ⟨λ_ _ _ z b hb=>(z.1 b hb).1,λpre A h' h'' B z p O=>?_,λpre A h' x K' z hlen hK=>?_⟩ ?_ k1 (λ_ _=>id) (λb hb hq=>?_) ?_
 .obtain⟨E,D,i,j,L,h6,s,h7,h8,h9⟩:=z
  exact⟨λb hb=>⟨aA (E b hb).1 p.size,(E b hb).2⟩,D,i,j,p.get L (O _ i),p.get h6 (O _ j),s,p.get h7 (O _ D),h8.upd p λb hb=>O b hb.1,h9⟩
 .obtain⟨q,c,n,a,hd,u,s,P,U,Y⟩:=z
  refine g x h' K' u ⟨u,?_⟩;have k:Upd (· =h1.size+1) h' (h'.setIfInBounds (h1.size+1) (lo .busy none)):=Upd.set _ _ rfl
  have X:=dE (o:=lo .busy none) u;have sb:=k.size;generalize h'.setIfInBounds (h1.size+1) (lo .busy none)=D at k X sb;refine⟨s,by rw[cD,ba (k.get P a4)];rfl,?_⟩
  refine Aa (M:=λb=>(A b\/D.size<=b)/\h1.size+1<b) ((U.upd k λb hb=>a4).more λb hb=>⟨.inl hb.1,hb.2⟩) (λb hb=>⟨.inr hb,by have:=bw X;omega⟩) a4 λs' i T e=>?_
  have m:i[h.size]? =some (.cells #[sv s] 45 (0,0)):=e.get (k.get P a4) a4;refine⟨by rw[cD];exact eH m a7,?_⟩;have t:Upd (· =h.size) i (hset i (aH h) (.slice s'.a s'.len s'.cap)):=Upd.hset _ _ rfl
  have I:(hset i (aH h) (.slice s'.a s'.len s'.cap))[h.size]? =some (.cells #[sv s'] 45 (0,0)):=by
   rw[cD,kH m,dE m];rfl
  generalize hset i (aH h) (.slice s'.a s'.len s'.cap)=j at t I;have C:j[h1.size+1]? =some (lo .busy none):=t.get (e.get X a4) a4;refine⟨C,?_⟩;have d:Upd (· =h1.size+1) j (j.setIfInBounds (h1.size+1) (lo .ready none)):=Upd.set _ _ rfl
  have R:=dE (o:=lo .ready none) C;have H:Upd A h' j:=((k.mono (M':=A) λb hb=>.inl (hb▸a)).trans e λb hb=>hb.1.imp id λh=>a4).trans t λb hb=>.inl (hb▸c)
  have z3:=e.size;have z4:=t.size;have z5:=d.size;refine hK _ (λb=>(A b\/D.size<=b)/\b<j.size) ⟨λb hb=>⟨aA hb.2 z5,hb.1.elim (λh=>(q b h).2) λh=>by have:=(q _ c).1;omega⟩,⟨.inl c,by have:=(q _ c).1;omega⟩,⟨.inl n,by have:=(q _ n).1;omega⟩,⟨.inl a,by have:=(q _ a).1;omega⟩,
   d.get (t.get (e.get (k.get hd a4) a4) a4) a4,R,s',d.get I a4,?_,a9⟩ (H.trans d λb hb=>.inl (hb▸a)) λb hb=>hb.1.imp id λh=>a4
  exact(((T.upd t λb hb=>a4).within).more λb hb=>⟨⟨hb.1.1,hb.2⟩,hb.1.2⟩).upd d λb hb=>a4
 .refine⟨λb hb=>?_,.inl rfl,.inr (.inl rfl),.inr (.inr rfl),l1,l2,⟨none,0,0⟩,k1.get0 Z,OwnS.nil j7,aK _⟩
  have:=bw l2;rcases hb with rfl|rfl|rfl<;>omega
 .have:=hg.lt b hq
  rcases hb with rfl|rfl|rfl<;>omega
 .rintro xs A' h' hS ⟨q,c,n,a,hd,u,s,P,U,Y⟩ p hA'
  refine⟨.ready,none,a8,u,?_⟩
  have d:Upd (· =h1.size+1) h' (h'.setIfInBounds (h1.size+1) (lo .exhausted none)):=Upd.set _ _ rfl
  show∃v:f9,aI (h'.setIfInBounds (h1.size+1) (lo .exhausted none)) (aH h)=some (.slice v.a v.len v.cap)/\_
  have y:=d.get hd (show ¬h1.size=h1.size+1 by omega)
  have w:=d.get P (show ¬h.size=h1.size+1 by omega)
  have F:=U.upd d λb hb=>a4
  generalize h'.setIfInBounds (h1.size+1) (lo .exhausted none)=L at d y w F;refine⟨s,by rw[cD,ba w];rfl,y,?_⟩
  have k6:Upd (· =h1.size) L (L.setIfInBounds h1.size (.deferred none)):=Upd.set _ _ rfl
  refine hk s _ xs hS ((F.upd k6 λb hb=>a4).more λb hb=>(q b hb.1).2) ?_
  refine(((k0.tr k1).trans p λb hb=>?_).trans d λb hb=>.inr a4).trans k6 λb hb=>.inr a4
  rcases hb with rfl|rfl|rfl<;>(right;omega)
theorem Q8{a:Value}(d:Gives PG a u32 N S Q h)(c:N<=1000000000)
  (e:∀s' h' xs,S xs->OwnS u32 1 33 (λb=>h.size<=b) h' s' xs->Upd No h h'->K s' h'):dS 82 [a] K h:=by
 refine cZ (rD a) .nil Tryz.func82 Tryz.call82 ?_;unfold rD;exact M2 d c e
end
theorem VR:∀{xs:List Int},xs≠[]->∃m∈xs,∀x∈xs,x<=m
 | [],h=>absurd rfl h
 | [x],_=>⟨x,av.2 rfl,λy c=>by rw[av.1 c];exact eC _⟩
 |x::y::xs,_=>by
  obtain⟨m,hm,b⟩:=VR (xs:=y::xs) a7;by_cases h:x<=m
  .exact⟨m,ay _ hm,λz a=>by rcases au.1 a with rfl|a;exact h;exact b z a⟩
  .exact⟨x,al ..,λz a=>by
    rcases au.1 a with rfl|a
    .exact eC _
    .have:=b z a;omega⟩
theorem UW{W:eh}{h:ad}{xp:Nat}{L:de}{nx:Int}(g:RefAt W h xp L nx)(gd:Good L)(a b:Int)
  {K:Int×Bool->eu}(hk:∀d h',(∀c,UpG L a c->UpG L b c->c<=d)->(d=0\/UpG L a d/\UpG L b d)->0<=d->Upd No h h'->K (d,decide (d>0)) h'):
  JB 68 [gV xp,.int .u32 a,.int .u32 b] K h:=by
 refine cZ (IP (some ⟨xp,0,none⟩) a b) Rx Tryz.func68 Tryz.call68 ?_;dsimp only[IP,tD,PM,uK,cB,fE,rU];have hL:=gd.len;refine wM g gd a λs1 h1 xs hx1 Y B S=>?_
 refine wM (g.upd0 S) gd b λs2 h2 ys hy1 hy2 hs2 hu2=>?_
 have hs1':=(B.less (W':=No) λ_ h=>h.elim).upd hu2 λ_ h=>h.elim
 have V:=hs2.less (W':=No) λ_ h=>h.elim
 have hxl:xs.length<=L.length:=by
  have:=mK (hx1.imp λh=>qd h) (l':=dM L) λy H=>((Y y).1 H).right
  simpa using this
 have hyl:ys.length<=L.length:=by
  have:=mK (hy1.imp λh=>qd h) (l':=dM L) λy H=>((hy2 y).1 H).right
  simpa using this
 have D:=S.tr hu2;refine eF (λ(i:Nat) (t:f9×Int) h'=>t.2=(i:Int)/\i<=xs.length/\Upd No h2 h'/\OwnS u32 1 33 (λb=>h2.size<=b) h' t.1 ((xs.take i).filter λx=>decide (x∈ys))) (λi=>xs.length-i) 0
  ⟨rfl,aK _,eQ _ _,OwnS.nil j7⟩ ?_
 rintro I i ⟨so,t⟩ h' ⟨ht,hi,N,T⟩ hI;(try simp only at ht T)
 subst ht;refine aq (λf=>?_) λO=>?_
 .rw[B.len]at f
  have f:i<xs.length:=a4
  obtain⟨a1,F,_,hx⟩:=Nums.at (hs1'.upd N λ_ h=>h.elim) f
  refine fo ⟨by rw[B.len];omega,a1,F,_,hx,Gy (V.upd N λ_ h=>h.elim) a4 _ (aq (λhm=>?_) λhm=>?_)⟩
  .refine Aa T (λb hb=>aQ N.size hb) (by have:=bP (λx=>decide (x∈ys)) (xs.take i);simp at this;omega) λs' h3 ho3 s=>?_
   (try simp only)
   rw[cf f a4];refine hI (i+1) _ _ ⟨rfl,f,N.trans s λb hb=>.inr hb,?_⟩ a4
   rw[ax f,ct,aZ,if_pos (decide_eq_true hm)];exact ho3
  ·(try simp only)
   rw[cf f a4];refine hI (i+1) _ _ ⟨rfl,f,N,?_⟩ a4;rw[ax f,ct,aZ,if_neg (by simpa using hm)];simpa using T
 .rw[B.len]at O
  have:i=xs.length:=a4
  rw[aS a4]at T;have G:∀y,y∈(xs.filter λx=>decide (x∈ys))↔UpG L a y/\UpG L b y:=λy=>by
   rw[bL,decide_eq_true_iff,Y,hy2]
  have hbl:(xs.filter λx=>decide (x∈ys)).length<=L.length:=aQ (bP ..) hxl
  have q:Nums No h' so (xs.filter λx=>decide (x∈ys)):=T.sl λ_ _ _ h=>h
  generalize hbo:(xs.filter λx=>decide (x∈ys))=both at q G hbl
  have g2:=g.upd0 D;have g3:=g2.upd0 N;refine eF (λ(i:Nat) (t:Int×Int) h2'=>t.2=(i:Int)/\i<=both.length/\Upd No h' h2'/\0<=t.1/\(t.1=0\/t.1∈both)/\∀x∈both.take i,(∀y∈both,y<=x)->x<=t.1) (λi=>both.length-i) 0
   ⟨rfl,aK _,eQ _ _,eC _,.inl rfl,λx hx=>by simp at hx⟩ ?_
  rintro I2 j ⟨d,t⟩ h3 ⟨ht,hj,s,hb0,J,A⟩ hI2;(try simp only at ht hb0 J A)
  subst ht;have Z:=q.upd s λ_ h=>h.elim
  refine aq (λf=>?_) λO=>?_
  .rw[q.len]at f
   have f:j<both.length:=a4
   obtain⟨a1,F,_,hx⟩:=Nums.at Z f;refine fo ⟨by rw[q.len];omega,a1,F,_,hx,?_⟩;refine eF (λ(i:Nat) (t:Bool×Int) h4=>t.2=(i:Int)/\i<=both.length/\Upd No h3 h4/\(t.1=false->∃y∈both,both[j]<y)) (λi=>both.length-i) 0
    ⟨rfl,aK _,eQ _ _,λe=>by cases e⟩ ?_
   rintro I3 k ⟨w,t⟩ h4 ⟨ht,hkl,v,u⟩ Q;(try simp only at ht u)
   subst ht;have hs4:=Z.upd v λ_ h=>h.elim
   refine aq (λo=>?_) λhge2=>?_
   .rw[q.len]at o
    have o:k<both.length:=a4
    obtain⟨a2,ha2,_,hx'⟩:=Nums.at hs4 o;refine fo ⟨by rw[q.len];omega,a2,ha2,_,hx',?_⟩;refine eM (λt P=>Upd No h4 P/\(t=true->both[j]<both[k])) (λR hR=>?_) ?_
    .refine ez (λhne=>?_) λ_=>hR _ _ ⟨eQ _ _,λe=>by cases e⟩
     have hne:both[k]≠both[j]:=by simpa using hne
     refine wM ((g3.upd0 s).upd0 v) gd both[k] λs5 P zs hz1 U hs5 z=>?_
     have hzl:zs.length<=L.length:=by
      have:=mK (hz1.imp λh=>qd h) (l':=dM L) λy H=>((U y).1 H).right
      simpa using this
     refine Gy hs5 a4 _ (hR _ _ ⟨z,λe=>?_⟩)
     have:=(U _).1 (of_decide_eq_true e);have:=UpG.le gd this;omega
    .rintro t P ⟨z,C⟩
     refine ez (λe=>?_) λe=>?_
     ·(try simp only)
      rw[cf o a4];exact Q (k+1) _ _ ⟨rfl,o,v.tr z,λ_=>⟨_,aG o,C e⟩⟩ a4
     ·(try simp only)
      rw[cf o a4];exact Q (k+1) _ _ ⟨rfl,o,v.tr z,u⟩ a4
   .have step:∀n:Int,(n=d\/n=both[j])->d<=n->((∀y∈both,y<=both[j])->both[j]<=n)->I2 (n,IntKind.wrap .i64 ((j:Int)+1)) h4:=λn h1 h2 h3'=>by
     rw[cf f a4];refine hI2 (j+1) _ _ ⟨rfl,f,s.tr v,by(try simp only);omega,?_,λx hx p=>?_⟩ a4
     .rcases h1 with rfl|rfl
      .exact J
      .exact .inr (aG f)
     .rw[ax f]at hx
      rcases List.mem_append.1 hx with hx|hx
      .have:=A x hx p;(try simp only);omega
      .rw[av.1 hx]at p⊢;exact h3' p
    refine eM (λt P=>P=h4/\(t=true->w=true/\both[j]>d)/\(t=false->w=true->¬both[j]>d)) (λR hR=>?_) ?_
    .refine ez (λe=>hR _ _ ⟨rfl,λE=>⟨e,of_decide_eq_true E⟩,λE _=>of_decide_eq_false E⟩) λe=>hR _ _ ⟨rfl,λE=>(by cases E),λ_ E=>(by have e:w=false:=e;rw[e]at E;cases E)⟩
    .rintro t P ⟨rfl,q1,q2⟩
     refine ez (λe=>?_) λe=>?_
     .obtain⟨_,hgt⟩:=q1 e
      exact step _ (.inr rfl) a4 λ_=>eC _
     .refine step _ (.inl rfl) (eC _) λp=>?_
      cases hl:w with
      |true=>have:=q2 e hl;omega
      |false=>
       obtain⟨y,H,C⟩:=u hl;have:=p y H;omega
  .rw[q.len]at O
   have:j=both.length:=a4
   rw[aS a4]at A;refine hk d h3 (λc q1 q2=>?_) (J.imp (λh=>h) λhb=>(G _).1 hb) hb0 ((D.tr N).tr s)
   have hc:=(G c).2 ⟨q1,q2⟩;obtain⟨m,hm,X⟩:=VR (xs:=both) (List.ne_nil_of_mem hc);exact Int.le_trans (X c hc) (A m hm X)
section
variable {i:Nat}
theorem ON:∀(xs:BG) (i:Nat) (hi:i<xs.length) (id:Int),(xs.flatMap zS).set (i*2+1) (.int .u32 id)=(xs.set i (xs[i].1,id)).flatMap zS
 |p::xs,0,_,id=>rfl
 |p::xs,i+1,hi,id=>by
  have a:=ON xs i (by simpa using hi) id;rw[show(i+1)*2+1=i*2+1+1+1 by omega]
  simp only[List.flatMap_cons,List.set_cons_succ,List.getElem_cons_succ,List.cons_append,cX,a]
theorem abI{ty:TypeId}{M:eh}{h:ad}{s:f9}{xs:BG}(o:OwnS zS 2 ty M h s xs)(hi:i<xs.length)(id:Int){k:eu}(m:∀h',OwnS zS 2 ty M h' s (xs.set i (xs[i].1,id))->Upd M h h'->k h'):
  ∃a,s.a=some a/\Wr h (adr (adr a (i*2)) 1)/\At (hset h (adr (adr a (i*2)) 1) (.int .u32 id)) k:=by
 have f:=o.len;have c:=o.cap;rcases o.blk with t|⟨b,d,j,hb,hc,n⟩
 .omega
 have g:(xs.flatMap zS).length=xs.length*2:=gZ (λx=>(tN x).1) xs
 refine⟨_,j,?_⟩;rw[oJ];refine tC hc (by rw[List.size_toArray,List.length_append,g];omega) (List.setIfInBounds_toArray ..) λq b2 p=>m q ⟨by rw[List.length_set];exact f,tN,c,.inr ⟨b,d,j,hb,?_,n⟩⟩ (p.mono λ_ e=>.inl (e▸hb))
 rw[b2,List.set_append_left _ _ (by rw[g];omega),ON xs i hi id]
section
variable {W:eh} {h:ad} {xp xg:Nat} {kind:Int} {x:Hs} {re:Rt} {q:RS}
def LJ(q:RS)(id:Int)(B:TD):Prop:=(id=0/\B.2= [])\/(id≠0/\id∈dM q.L/\bE q.D id=some B)
theorem LN(g:Rn W h xp xg kind x re q)(nd:(q.D.map (·.1)).Nodup){id:Int}{B:TD}(O:LJ q id B)(hL:q.L.length<=100000)(hDl:q.D.length<=100000){K:Rt×Int->eu}(P:∀h' r,RefIs W h' kind x r B.2->Upd No h h'->K (r,0) h'):
  F0 69 [gV xp,.int .u32 id] K h:=by
 refine cZ (Ph (some ⟨xp,0,none⟩) id) Xl Tryz.func69 Tryz.call69 ?_;dsimp only[Ph,uY,dT,iw,dH,nv,tD,fH,sN,cj,LW,Xw,XG,ww,bh,ai,ee,jz,fE,cL,zq,yF,dC];refine aV λh1 b1 k1=>ez (λe=>?_) λe=>?_
 .have e:id=0:=by simpa using e
  have G:B.2= []:=O.elim (·.2) λh=>absurd e h.1
  have c1:=k1.get0 g.blk;refine⟨_,rfl,_,gL c1 0 0,_,gL c1 0 1,_,gL c1 0 2,_,gL c1 0 3,re.2.2.2.2,gL c1 0 4,?_⟩;refine cy (c:=uN Sf) (vs:=uN re) b1 rfl λJ b2 V=>⟨_,vc b2 0,_,vc b2 1,_,vc b2 2,_,vc b2 3,re.2.2.2.2,vc b2 4,?_⟩
  have H:Upd No h J:=k1.own V (aj _);exact P J re (by rw[G];exact g.e.upd0 H) H
 have e:id≠0:=by simpa using e
 obtain⟨_,hi,hd⟩:=O.resolve_left λh=>e h.1
 refine eM (λ_ _=>False) (λR _=>⟨_,rfl,_,vc (k1.get0 g.blk) 5,BW (g.r.upd0 k1) a4 id λn D o N=>aq (λ_=>?_) λe=>absurd (N.2 hi) e⟩) λ_ _ h=>h.elim
 have k:=k1.tr o;have u:=g.upd0 k;have s1:=k.size;have z1:=bw b1;have s18:=o.size;refine⟨_,rfl,q.ts,vc u.blk 6,?_⟩;have G:=g.ts.len;have N:=g.n;refine eF (λ(i:Nat) (t:Int) h'=>t=(i:Int)/\i<=q.Ds.length/\(∀j (z:j<q.D.length),j<i->q.D[j].1≠id)/\Upd No D h') (λi=>q.Ds.length-i) 0 ⟨rfl,aK _,(λj _ h=>a4),eQ _ _⟩ ?_
 rintro I i t F ⟨rfl,Z,Q,m⟩ X;have v:=u.upd0 m;refine aq (λb=>?_) λhge=>?_
 .have b:i<q.Ds.length:=by omega
  obtain⟨a,ha,_,hv⟩:=(v.ts.sl (W:=No) λ_ _ _ h=>h).at (af b)
  obtain⟨L,pr⟩:=v.par i b a4;refine⟨⟨a4,a4⟩,a,ha,_,hv 0 _ rfl,_,hv 1 _ rfl,_,hv 2 _ rfl,_,hv 3 _ rfl,_,hv 4 _ rfl,q.Ds[i].2.2.2.2.2,hv 5 _ rfl,?_⟩
  refine aV λS C E=>cy (c:= [.int .u32 0,.int .i64 0,.int .u64 0,.int .u64 0,.int .u64 0,.slice none 0 0]) (vs:=XQ q.Ds[i]) C rfl λy d u32=>⟨_,vc d 0,?_⟩
  have p:Upd No F y:=E.own u32 (aj _);have U:=m.size;refine ez (λe=>?_) λe=>?_
  .have e:q.D[i].1=id:=by rw[<-L];simpa using e
   have ed:q.D[i].2=B:=by
    have hm:(q.D[i].1,q.D[i].2)∈q.D:=aG (show i<q.D.length by omega)
    have:=(eJ nd).2 hm;rw[e,hd]at this;exact(Option.some.inj this).symm
   have bt:y[h.size]? =some (.cells (uN Sf).toArray 129 (0,0)):=p.get0 (m.get0 (o.get0 b1));refine⟨_,gL d 1 0,_,gL d 1 1,_,gL d 1 2,_,gL d 1 3,q.Ds[i].2.2.2.2.2,gL d 1 4,?_⟩;refine cy (c:=uN Sf) (vs:=uN q.Ds[i].2) bt rfl λs f A=>?_
   have w:Upd No h s:=((k.tr m).tr p).own A (aj _);refine⟨_,vc f 0,_,vc f 1,_,vc f 2,_,vc f 3,q.Ds[i].2.2.2.2.2,vc f 4,P s q.Ds[i].2 ?_ w⟩;rw[<-ed];exact(g.par i b a4).2.upd0 w
  .have e:q.D[i].1≠id:=by rw[<-L];simpa using e
   rw[cf (n:=q.Ds.length) b a4];refine X (i+1) _ _ ⟨rfl,b,λj z T=>?_,m.tr p⟩ a4
   by_cases Y:j=i
   .subst Y;exact e
   .exact Q j z a4
 .obtain⟨j,z,e⟩:=List.getElem_of_mem (iH hd)
  exact absurd (by rw[e]) (Q j z a4)
theorem LM(g:Rn W h xp xg kind x re q)(hi:i<q.B.length)(id:Int)(G:q.B.length<=1000){K:uU []->eu}(C:∀h' s',Upd (· =xp) h h'->Rn W h' xp xg kind x re {q with sB:=s',B:=q.B.set i (q.B[i].1,id)}->K () h'):
  dx 67 [gV xp,.int .i64 i,.int .u32 id] K h:=by
 refine cZ (Lu (some ⟨xp,0,none⟩) i id) UK Tryz.func67 Tryz.call67 ?_;dsimp only[Lu,dh,wK,jz,fE,cL,iL,xe,cj];refine fo (aV λp b2 m=>⟨_,rfl,q.sB,vc (m.get0 g.blk) 7,?_⟩)
 have H:=m.size;have z:=bw g.blk;refine M4 (M:=λy=>p.size<=y) (out:= []) (c:=q.sB.cap) (OwnS.nil tN) (g.upd0 m).b (aj _) a9 λo A D w=>?_
 have s:Upd No h A:=m.fresh w λy a=>a4
 refine⟨_,rfl,tC (i:=7) (s.get0 g.blk) a7 rfl λF t u=>?_⟩
 have n:=D.upd u λy a e=>by have e:y=xp:=e;omega
 rw[cX]at n;have E:=n.len;refine⟨_,rfl,o,vc t 7,⟨a4,a4⟩,?_⟩
 rw[Int.toNat_natCast];refine abI n hi id λj f k=>?_
 have d:Upd (λy=>y=xp\/p.size<=y) h j:=(s.wide.tr (u.mono λy a=>.inl (.inl a))).tr (k.mono λy a=>.inl (.inr a))
 refine C j o (d.mono λy a=>a.imp (λh=>h) λa=>a4) (g.names (sT:=q.sT) (T:=q.T) d (λy a=>a.imp (λh=>h) λa=>a4) (k.get t λa=>a4) (f.sl λb hb _ v=>by have:=g.lt b v;omega) f.cap (g.t.upd d λy a=>a.imp (λ(e:y=xp)=>e▸g.wx) λa=>a4) g.tc)
end
end
def yM(q:RS)(i:Nat)(hi:i<q.B.length)(d:TD)(ps:List Int)(r:Rt)(ts sB:f9):RS:=
 if(fF q.L q.nx ps).1.2≠0 then q
 else{q with L:=(fF q.L q.nx ps).2.1,nx:=(fF q.L q.nx ps).2.2,D:=q.D++ [(q.nx,d)],Ds:=q.Ds++ [(q.nx,r)],ts:=ts,sB:=sB,B:=q.B.set i (q.B[i].1,q.nx)}
section
variable {W:eh} {h:ad} {xp xg:Nat} {kind:Int} {x:Hs} {re:Rt} {q:RS}
theorem EE(g:Rn W h xp xg kind x re q)(hnx:0<=q.nx)(hL:q.L.length<=100000)(hD:q.Ds.length<=100000)(hn:q.B.length<=1000){i:Nat}(hi:i<q.B.length){d:TD}{r:Rt}(j:RefIs W h kind x r d.2){sl:f9}{ps:List Int}(hs:Nums W h sl ps)(hps:ps.length<=1000)
  {K:Int×Int->eu}(Y:∀h' ts sB,Upd (RW xg xp q) h h'->(∀y,sb ts y->sb q.ts y\/h.size<=y)->(∀W':Nat->Prop,(∀y,W' y->(W y\/sb (yM q i hi d ps r ts sB).ts y))->(∀y,RW xg xp (yM q i hi d ps r ts sB) y->W' y)->Rn W' h' xp xg kind x re (yM q i hi d ps r ts sB))->K (fF q.L q.nx ps).1 h'):
  GA 71 [gV xp,.int .i64 i,UT r,.slice sl.a sl.len sl.cap] K h:=by
 refine cZ (AO (some ⟨xp,0,none⟩) i r sl) J0 Tryz.func71 Tryz.call71 ?_;dsimp only[AO,ou,cj,Nx,yL,Xw,XG,ww,bh,ai,ee,cL,iL,dh,JI,yF,dC];have lt:=g.lt;refine aV λC b1 k1=>⟨_,rfl,_,vc (k1.get0 g.blk) 5,XB (g.upd0 k1).r hnx hL (hs.upd k1 λ_ h=>h.elim) a4 λU u5 X=>?_⟩
 have s1:=k1.size;have s5:=u5.size;have wx:=lt _ g.wx;have wg:=lt _ g.r.wp;have c:Upd (· =xg) h U:=k1.wide.tr u5
 have V:=c.get g.blk λe=>g.gx e.symm
 have O:=u5.oth b1 (show h.size≠xg by omega)
 refine ez (λe=>?_) λe=>?_
 .have e:(fF q.L q.nx ps).1.2≠0:=by simpa using e
  have Z:=O8 e;have hv:∀ts sB,yM q i hi d ps r ts sB=q:=λts sB=>by unfold yM;rw[if_pos e]
  have:=Y U q.ts q.sB (c.mono λy a=>.inl (.inl a)) (λy a=>.inl a) λW' R P=>?_
  .rw[show(fF q.L q.nx ps).1=(0,(fF q.L q.nx ps).1.2)from Prod.ext (by unfold fF at e⊢;split;rfl;split;rfl;split;rfl;rename_i C J h3;rw[if_neg C,if_neg J,if_neg h3]at e;exact absurd rfl e) rfl]at this
   exact this
  .rw[hv]at R P⊢
   rw[Z]at X;have I:∀y,W' y->W y:=λy a=>(R y a).elim id λh=>(g.tw y h).1
   have hm:∀b,b=xg->W b\/h.size<=b:=λb e=>.inl (e▸g.r.wp)
   have z:∀b,W' b->W b\/h.size<=b:=λb hb=>.inl (I b hb)
   exact⟨X.re (eQ No U) (λ_ h=>h.elim) (λb hb=>⟨.inl (I b hb),by have:=lt b (I b hb);omega⟩) (P _ (.inl rfl)),P _ (.inr (.inl rfl)),g.gx,V,g.e.re c hm z,g.ts.upd c λy a e=>(g.tw y a).2.1 e,λy a=>⟨P y (.inr (.inr a)),(g.tw y a).2⟩,Sl.re g.b c hm z,g.bc,Sl.re g.t c hm z,g.tc,g.n,λi C J=>⟨(g.par i C J).1,(g.par i C J).2.re c hm z⟩⟩
 have e:(fF q.L q.nx ps).1.2=0:=by simpa using e
 have Z:=Ab e;have hv:∀ts sB,yM q i hi d ps r ts sB={q with L:=ws q.L q.nx ps,nx:=q.nx+1,D:=q.D++ [(q.nx,d)],Ds:=q.Ds++ [(q.nx,r)],ts:=ts,sB:=sB,B:=q.B.set i (q.B[i].1,q.nx)}:=λts sB=>by
  unfold yM;rw[if_neg (by rw[e];simp),Z]
 simp only[hv]at Y;rw[Z]at X Y⊢;refine fo ⟨_,rfl,q.ts,vc V 6,_,vc O 0,_,vc O 1,_,vc O 2,_,vc O 3,r.2.2.2.2,vc O 4,?_⟩;have o5:=g.ts.upd c λy a e=>(g.tw y a).2.1 e
 refine aV λh14 b14 k=>?_
 have s14:=k.size;have s:=k.get0 O;refine⟨⟨vc s 0,vc s 1,vc s 2,vc s 3,vc s 4⟩,vc (k.get0 V) 6,?_⟩;refine Z3 (f:=XQ) (t:=(q.nx,r)) (so:=q.ts) (o5.upd k λ_ _ h=>h) b14 rfl rfl ⟨a4,a4⟩ a4 λm h17 o17 u w=>?_
 have s17:=u.size;have nt:¬sb q.ts h.size:=λa=>by have:=lt _ (g.tw _ a).1;omega
 have nx:¬sb q.ts xp:=λa=>(g.tw _ a).2.2 rfl
 have ng:¬sb q.ts xg:=λa=>(g.tw _ a).2.1 rfl
 have v:=u.get s nt;have x17:=u.get (k.get0 V) nx;have n:∀y,sb m y->sb q.ts y\/h.size<=y:=λy a=>(w y a).1.imp id λh=>a4
 refine⟨⟨vc v 0,vc v 1,vc v 2,vc v 3,vc v 4⟩,_,rfl,tC (i:=6) x17 a7 rfl λA b19 E=>?_⟩
 have s19:=E.size;have p:Upd (RW xg xp q) h A:=(((c.mono λy a=>.inl (.inl a)).tr k.wide).tr (u.mono λy a=>.inl (.inr (.inr a)))).tr (E.mono λy a=>.inl (.inr (.inl a)))
 have Q:Upd (λy=>y=xp\/sb q.ts y) U A:=(k.wide.tr (u.mono λy a=>.inl (.inr a))).tr (E.mono λy a=>.inl (.inl a))
 have H:∀y,sb m y->y≠xg/\y≠xp:=λy a=>(n y a).elim (λh=>(g.tw y h).2) λh=>⟨a4,a4⟩
 have hm:∀b,RW xg xp q b->W b\/h.size<=b:=λb hb=>.inl (g.rw b hb)
 have o:∀b,(W b\/sb m b)->W b\/h.size<=b:=λb hb=>hb.elim .inl λhb=>(n b hb).imp (λh=>(g.tw b h).1) id
 have F:∀b,(W b\/sb m b)->b<A.size:=λb hb=>hb.elim (λhb=>by have:=lt b hb;omega) λhb=>by have:=(w b hb).2;omega
 have G:Rn (λb=>W b\/sb m b) A xp xg kind x re {q with L:=ws q.L q.nx ps,nx:=q.nx+1,D:=q.D++ [(q.nx,d)],Ds:=q.Ds++ [(q.nx,r)],ts:=m}:=by
  refine⟨X.re Q (λb hb=>.inl (hb.elim (λe=>⟨e▸g.wx,λe'=>g.gx (e'.symm.trans e)⟩) λh=>⟨(g.tw b h).1,(g.tw b h).2.1⟩)) (λb hb=>⟨(o b hb).imp id λh=>?_,F b hb⟩) (.inl g.r.wp),.inl g.wx,g.gx,b19,g.e.re p hm o,o17.upd E λy a e=>(H y a).2 e,λy a=>⟨.inr a,H y a⟩,Sl.re g.b p hm o,g.bc,Sl.re g.t p hm o,g.tc,by simp[g.n],λi C J=>?_⟩
  .rcases hb with hb|hb
   .exact absurd (lt b hb) (df.2 h)
   .rcases(w b hb).1 with h'|h'
    .exact absurd (lt b (g.tw b h').1) (df.2 h)
    .omega
  .by_cases N:i<q.Ds.length
   .have:=g.n
    simp only[List.getElem_append_left N,List.getElem_append_left (show i<q.D.length by omega)]
    exact⟨(g.par i N a4).1,(g.par i N a4).2.re p hm o⟩
   .have:=g.n
    have ei:i=q.Ds.length:=by simp at C;omega
    rw[show(q.Ds++ [(q.nx,r)])[i]'C=(q.nx,r)from List.getElem_concat_length ei C,show(q.D++ [(q.nx,d)])[i]'J=(q.nx,d)from List.getElem_concat_length a4 J]
    exact⟨rfl,j.re p hm o⟩
 refine LM G hi q.nx hn λT sB S G2=>?_
 have s23:=S.size;refine Y T m sB (p.tr (S.mono λy a=>.inl (.inr (.inl a)))) n λW' R P=>G2.mv (eQ No T) (λ_ h=>h.elim) (λb hb=>⟨.inl (R b hb),by have:=F b (R b hb);omega⟩) P
end
theorem Hv{α:Type}[DecidableEq α]:∀{l m:List α},l.Nodup->(∀y∈l,y∈m)->l.length<=m.length
 | [],_,_,_=>aK _
 |a::l,m,b,hs=>by
  have b:=List.nodup_cons.1 b;have d:=hs a al;have:=Hv (m:=m.erase a) b.2 λy c=>(List.mem_erase_of_ne λe:y=a=>b.1 (by rw[<-e];exact c)).2 (hs y (ay _ c))
  rw[List.length_erase_of_mem d]at this;have:=List.length_pos_of_mem d;rw[List.length_cons];omega
structure Kin(U:List dO)(l:bY):Prop where
 up:bO l
 fit:∀p∈l,p.1∈U/\p.1.size<=30/\p.2.size<=30
section
variable {U V:List dO} {l B O T:bY}
theorem Kin.few(f:Kin U l){n:Nat}(h:U.length<=n):Few n l:=by
 refine⟨f.up,aQ ?_ h,λp c=>(f.fit p c).2⟩
 have:=Hv (l:=l.map (·.1)) (m:=U) (fX.2 (f.up.imp λ{a b} (h:kl a.1 b.1) e=>bT a.1 (by rw[<-e]at h;exact h))) λy d=>by
  obtain⟨p,c,rfl⟩:=aR.1 d;exact(f.fit p c).1
 rw[bS]at this;exact this
theorem Kin.nil:Kin U []:=⟨cq,λ_ h=>by cases h⟩
theorem Kin.more(f:Kin U l)(h:∀k∈U,k∈V):Kin V l:=⟨f.up,λp a=>⟨h _ (f.fit p a).1,(f.fit p a).2⟩⟩
theorem Kin.ins(f:Kin U l)(p:Pr)(a:p.1.size<=30)(b:p.2.size<=30):Kin (p.1::U) (gw p l):=
 ⟨pj p f.up,λq c=>(tO c).elim (λe=>by rw[e];exact⟨al,a,b⟩) λh=>⟨ay _ (f.fit q h).1,(f.fit q h).2⟩⟩
theorem Kin.del(f:Kin U l)(k:dO):Kin U (mW k l):=⟨DX f.up,λp a=>f.fit p (Gt.1 a).1⟩
theorem Kin.merge(a:Kin U B)(b:Kin U O)(c:Kin U T)(p:Int):Kin U (ji B O T p):=by
 have r:bO (ji B O T p):=xL b.up;refine⟨r,λq d=>?_⟩
 have h:=tB r (k:=q.1) (v:=q.2) d;rw[HG a.up c.up]at h;unfold tk at h;rcases DL (look B q.1) (look O q.1) (look T q.1) p with e|e|e
 .rw[e]at h;exact a.fit _ (mR h)
 .rw[e]at h;exact b.fit _ (mR h)
 .rw[e]at h;exact c.fit _ (mR h)
end
section
variable {n:dO}{r:Rt}{K:Int×Int->eu}{i:Nat}{id:Int}
section
variable {W:eh} {h h':ad} {xp xg:Nat} {kind:Int} {x:Hs} {re:Rt} {q:RS}
theorem AV(g:Rn W h xp xg kind x re q)(d:Good q.L)(n:q.L.length<=100000)(id fr:Int){K:Bool->eu}(a:∀b h',(b=true↔id=0\/UpG q.L fr id)->Upd No h h'->K b h'):eI 66 [gV xp,.int .u32 id,.int .u32 fr] K h:=by
 refine cZ (Fp (some ⟨xp,0,none⟩) id fr) .nil Tryz.func66 Tryz.call66 ?_;dsimp only[Fp,tD,PM,yF,dC,cL];refine ez (λe=>a _ _ ⟨λ_=>.inl (by simpa using e),λ_=>rfl⟩ (eQ _ _)) λe=>⟨_,rfl,_,vc g.blk 5,wM g.r d fr λs' k xs f hx i c=>Gy i ?_ id (a _ _ ?_ c)⟩
 .have:=Hv (l:=xs) (m:=dM q.L) (f.imp λh=>qd h) λy j=>((hx y).1 j).right
  rw[bS]at this;omega
 .have e:id≠0:=by simpa using e
  rw[decide_eq_true_iff,hx];exact⟨.inr,λh=>h.resolve_left e⟩
theorem Np(g:Rn W h xp xg kind x re q)(j:q.B.length<=1000)(a:∀p∈q.B,p.1≠n)(c:∀h',Upd No h h'->K (0,4) h'):
  GA 80 [gV xp,.string n,UT r] K h:=by
 refine xY (some ⟨xp,0,none⟩) n r ?_;dsimp only[te,ou,cj,kr,px,ww,bh,ai,ee,cL,zq,uY,fH,F9,dT,jz,fE,rU,xe];exact aV λf b1 k1=>⟨_,rfl,q.sB,vc (k1.get0 g.blk) 7,lK (g.upd0 k1).b a4 (λi hi e=>absurd e (a _ (aG hi))) λ_ b d=>aq (λ_=>c b (k1.tr d)) λh=>absurd a4 h⟩
theorem Nq(g:Rn W h xp xg kind x re q)(v:q.B.length<=1000)(hi:i<q.B.length)(o:q.B[i].1=n)(k:E3 r re=false)(m:∀h',Upd No h h'->K (0,11) h'):
  GA 80 [gV xp,.string n,UT r] K h:=by
 refine xY (some ⟨xp,0,none⟩) n r ?_;dsimp only[te,ou,cj,kr,px,ww,bh,ai,ee,cL,zq,uY,fH,F9,dT,jz,fE,rU,xe];refine aV λt b1 k1=>⟨_,rfl,q.sB,vc (k1.get0 g.blk) 7,lK (g.upd0 k1).b a4 (λj u p s d=>aq (λh=>absurd h a4) λ_=>?_) λc=>absurd o (c _ (aG hi))⟩
 have a:=d.get0 b1;have b:=(k1.tr d).get0 g.blk;refine⟨_,vc a 0,_,vc a 1,_,vc a 2,_,vc a 3,r.2.2.2.2,vc a 4,_,rfl,_,gL b 0 0,_,gL b 0 1,_,gL b 0 2,_,gL b 0 3,re.2.2.2.2,gL b 0 4,Ci (r:=r) (q:=re) λf e=>?_⟩
 rw[k];exact aw.2 (m f ((k1.tr d).tr e))
theorem ZG{v:Int}(h:0<=v):nz [v]=if 0<v then[v]else[]:=by
 unfold nz;by_cases e:0<v
 .rw[if_pos e];simp;omega
 .rw[if_neg e];simp;omega
theorem PB(g:Rn W h xp xg kind x re q)(A:0<=q.nx)(V:q.L.length<=100000)(hD:q.Ds.length<=100000)(Z:q.B.length<=1000)(hi:i<q.B.length)(nd:NUp q.B)(N:q.B[i].1=n)(hp:0<=q.B[i].2){d:TD}(j:RefIs W h kind x r d.2)
  (hk:∀h' ts sB,Upd (RW xg xp q) h h'->(∀y,sb ts y->sb q.ts y\/h.size<=y)->(∀W':Nat->Prop,(∀y,W' y->(W y\/sb (yM q i hi d (nz [q.B[i].2]) r ts sB).ts y))->(∀y,RW xg xp (yM q i hi d (nz [q.B[i].2]) r ts sB) y->W' y)->Rn W' h' xp xg kind x re (yM q i hi d (nz [q.B[i].2]) r ts sB))->K (fF q.L q.nx (nz [q.B[i].2])).1 h'):
  GA 80 [gV xp,.string n,UT r] K h:=by
 refine xY (some ⟨xp,0,none⟩) n r ?_;dsimp only[te,ou,cj,kr,px,ww,bh,ai,ee,cL,zq,uY,fH,F9,dT,jz,fE,rU,xe];have lt:=g.lt;refine aV λh1 b1 k1=>⟨_,rfl,q.sB,vc (k1.get0 g.blk) 7,lK (g.upd0 k1).b a4 (λH hj X h5 B=>aq (λh=>absurd h a4) λ_=>?_) λE=>absurd N (E _ (aG hi))⟩
 have w:H=i:=by
  have:=nU nd.nd (i:=H) (j:=i) (h₀:=by simpa using hj) (h₁:=by simpa using hi)
  exact this.1 (by simp[X,N])
 subst w;have p:=B.get0 b1;have s:=(k1.tr B).get0 g.blk;refine⟨_,vc p 0,_,vc p 1,_,vc p 2,_,vc p 3,r.2.2.2.2,vc p 4,_,rfl,_,gL s 0 0,_,gL s 0 1,_,gL s 0 2,_,gL s 0 3,re.2.2.2.2,gL s 0 4,Ci (r:=r) (q:=re) λo u=>?_⟩
 rw[Bp j g.e];have k:=(k1.tr B).tr u;have P:=k.size;have m:=g.upd0 k;refine ag.2 (eM (λ(t:f9) h'=>OwnS u32 1 33 (λy=>o.size<=y) h' t (nz [q.B[H].2])/\Upd No o h') (λR F=>?_) ?_)
 .obtain⟨a,O,_,hv⟩:=m.b.at (af hi)
  have lb:=g.b.len;refine⟨_,rfl,q.sB,vc m.blk 7,⟨a4,a4⟩,a,O,_,hv 1 _ rfl,?_⟩
  rw[ZG hp]at F;refine aq (λe=>?_) λe=>F _ _ ⟨by rw[if_neg e];exact OwnS.nil j7,eQ _ _⟩
  refine⟨_,rfl,q.sB,vc m.blk 7,⟨a4,a4⟩,a,O,_,hv 1 _ rfl,bF (Aa (M:=λy=>o.size<=y) (OwnS.nil j7) (λb hb=>hb) a7 λY S I C=>F _ _ ⟨?_,C.mono λy L=>.inr L⟩)⟩
  rw[if_pos e];exact I
 .rintro t T ⟨z,v⟩
  have f:=(u.tr v).get0 p;have c:=k.tr v;have Q:=c.size;refine⟨_,vc f 0,_,vc f 1,_,vc f 2,_,vc f 3,r.2.2.2.2,vc f 4,?_⟩;refine EE (g.upd0 c) A V hD Z hi (j.upd0 c) (z.sl (W:=W) λb hb _ U=>by have:=lt b U;omega) (aQ (bP ..) a7) λJ ts sB D ht G=>hk J ts sB (c.wide.tr D) (λy L=>(ht y L).imp id λh=>a4) G
theorem Jk(g:Rn W h xp xg kind x re q)(f:q.B.length<=1000)(a:∀p∈q.B,p.1≠n){K:Int->eu}(d:∀h',Upd No h h'->K 4 h'):
  fK 32 [gV xp,.string n,.int .u32 id] K h:=by
 refine zu (some ⟨xp,0,none⟩) n id ?_;dsimp only[uv,tD,uL,kr,Nx,F9,dT,cj,jz,fE,cL,yF,dC,xe];exact⟨_,rfl,q.sB,vc g.blk 7,lK g.b a4 (λi hi e=>absurd e (a _ (aG hi))) λ_ c b=>fo (aq (λ_=>aw.2 (d c b)) λh=>absurd a4 h)⟩
theorem xE(g:Rn W h xp xg kind x re q)(O:Good q.L)(L:q.L.length<=100000)(P:q.B.length<=1000)(hi:i<q.B.length)(nd:NUp q.B)(F:q.B[i].1=n){K:Int->eu}
  (u:¬(id=0\/id∈dM q.L)->∀h',Upd No h h'->K 4 h')(p:(id=0\/id∈dM q.L)->¬(id=0\/UpG q.L q.B[i].2 id)->∀h',Upd No h h'->K 13 h')
  (U:(id=0\/id∈dM q.L)->(id=0\/UpG q.L q.B[i].2 id)->∀h' s',Upd (· =xp) h h'->Rn W h' xp xg kind x re {q with sB:=s',B:=q.B.set i (q.B[i].1,id)}->K 0 h'):
  fK 32 [gV xp,.string n,.int .u32 id] K h:=by
 refine zu (some ⟨xp,0,none⟩) n id ?_;dsimp only[uv,tD,uL,kr,Nx,F9,dT,cj,jz,fE,cL,yF,dC,xe];refine⟨_,rfl,q.sB,vc g.blk 7,lK g.b a4 (λj X N Q H=>?_) λC=>absurd F (C _ (aG hi))⟩
 have v:j=i:=by
  have:=nU nd.nd (i:=j) (j:=i) (h₀:=by simpa using X) (h₁:=by simpa using hi)
  exact this.1 (by simp[N,F])
 subst v;have J:=g.upd0 H;refine eM (λ(t:Bool) h'=>(t=false↔id=0\/id∈dM q.L)/\Upd No Q h') (λR I=>aq (λh=>absurd h a4) λ_=>ez (λf=>⟨_,rfl,_,vc J.blk 5,BW J.r a4 id λm Y V hm=>I _ _ ⟨?_,V⟩⟩) λf=>I _ _ ⟨?_,eQ _ _⟩) ?_
 .have f:id≠0:=by simpa using f
  rw[decide_eq_false_iff_not];exact⟨λo=>.inr (hm.1 a4),λo T=>by have:=hm.2 (o.resolve_left f);omega⟩
 .have f:id=0:=by simpa using f
  simp[f]
 rintro t A ⟨ht,y⟩;have c:=H.tr y;have k:=g.upd0 c;refine ez (λe=>u (λo=>by rw[ht.2 o]at e;cases e) A c) λe=>?_
 obtain⟨a,S,_,hv⟩:=k.b.at (af hi);have Z:=g.b.len;refine⟨_,rfl,q.sB,vc k.blk 7,⟨a4,a4⟩,a,S,_,hv 1 _ rfl,AV k O L id _ λb D hb w=>?_⟩
 have d:=c.tr w;refine ez (λs=>p (ht.1 e) (λo=>by rw[hb.2 o]at s;cases s) D d) λs=>LM (g.upd0 d) hi id P λz s' E G=>U (ht.1 e) (hb.1 (by simpa using s)) z s' (d.wide.tr E) G
theorem Rn.graph(g:Rn W h xp xg kind x re q)(k:Upd (· =xg) h h'){L:de}{nx:Int}(r:RefAt W h' xg L nx):Rn W h' xp xg kind x re {q with L:=L,nx:=nx}:=by
 have hm:∀b,b=xg->W b\/h.size<=b:=λb e=>.inl (e▸g.r.wp)
 exact⟨r,g.wx,g.gx,k.get g.blk λe=>g.gx e.symm,g.e.updM k hm,g.ts.upd k λy d e=>(g.tw y d).2.1 e,g.tw,g.b.upd k hm,g.bc,g.t.upd k hm,g.tc,g.n,λi a c=>⟨(g.par i a c).1,(g.par i a c).2.updM k hm⟩⟩
end
end
set_option maxHeartbeats 1000000 in
theorem VC{W:eh}{x:Hs}{h:ad}{kind p:Int}{rb ro rt:Rt}{B O T:bY}{nb no nt:Nat}(jb:RefIs W h kind x rb B)(jo:RefIs W h kind x ro O)(jt:RefIs W h kind x rt T)(hW:∀y,W y->y<h.size)(fB:Few nb B)(fO:Few no O)(fT:Few nt T)(lb:nb<=1000)(lo:no<=1000)(lt:nt<=1000)
  (hp0:0<=p)(hp1:p<=3){K:Rt×f9×Int->eu}
  (hk0:p=0->oW B O T p≠[]->∀h' s',Sl uQ 7 (λb=>b<h.size) h' s' ((oW B O T p).map (DD B O T))->Upd No h h'->K (ro,s',8) h')
  (hk:(p=0->oW B O T p= [])->∀h' r' s',RefIs W h' kind x r' (ji B O T p)->Sl uQ 7 (λb=>b<h.size) h' s' ((oW B O T p).map (DD B O T))->Upd No h h'->K (r',s',0) h'):
  aa6 70 [UT rb,UT ro,UT rt,.int .i64 p] K h:=by
 refine cZ (Pi rb ro rt p) Xm Tryz.func70 Tryz.call70 ?_;dsimp only[Pi,fE,bh,ai,bq,iu,dH,nv,qf,FK,FQ,dh,lG,ee,sN,ou,cj,px,nC,LX,FJ,yE,LW,aaq,ww,DE,cP,jz,nW,zq,uY,fH,iL,zo,fL,Gb,JI,UB,gj];refine aV λh1 b1 k1=>aV λz b2 k2=>aV λh3 b3 k3=>aV λh4 b4 k4=>?_
 have z1:=bw b1;have z2:=bw b2;have z3:=bw b3;have z4:=bw b4;have s1:h.size<=h1.size:=k1.size;have s2:h1.size<=z.size:=k2.size;have s3:z.size<=h3.size:=k3.size;have s4:=k4.size;have k04:=((k1.tr k2).tr k3).tr k4;have c0:=k4.get0 (k3.get0 (k2.get0 b1));have c1:=k4.get0 (k3.get0 b2);have c2:=k4.get0 b3;refine eM (λt h'=>t=false/\h'=h4) (λR hR=>?_) ?_
 .refine aq (λe=>absurd e a4) λ_=>hR _ _ ⟨decide_eq_false a4,rfl⟩
 rintro _ h7 ⟨rfl,e7⟩;rw[e7];refine ag.2 ?_;refine eM (λt h'=>t=false/\Upd No h4 h') (λR hR=>?_) ?_
 .refine⟨_,vc c0 0,_,vc c0 1,_,vc c0 2,_,vc c0 3,rb.2.2.2.2,vc c0 4,_,vc c1 0,_,vc c1 1,_,vc c1 2,_,vc c1 3,ro.2.2.2.2,vc c1 4,?_⟩
  refine Ci (r:=rb) (q:=ro) λh5 k5=>?_
  rw[Bp jb jo];have d0:=k5.get0 c0;have d2:=k5.get0 c2;refine ag.2 ⟨_,vc d0 0,_,vc d0 1,_,vc d0 2,_,vc d0 3,rb.2.2.2.2,vc d0 4,_,vc d2 0,_,vc d2 1,_,vc d2 2,_,vc d2 3,rt.2.2.2.2,vc d2 4,?_⟩;refine Ci (r:=rb) (q:=rt) λh6 k6=>?_
  rw[Bp jb jt];exact hR _ _ ⟨rfl,k5.tr k6⟩
 rintro t h45 ⟨rfl,k45⟩;have d0:=k45.get0 c0;have d1:=k45.get0 c1;have d2:=k45.get0 c2;have d3:=k45.get0 b4;have k045:=k04.tr k45;have s45:=k45.size;have nB:=fB.len;have nO:=fO.len;have nT:=fT.len;refine ag.2 ⟨_,vc d0 0,_,vc d0 1,_,vc d0 2,_,vc d0 3,rb.2.2.2.2,vc d0 4,_,vc d1 0,_,vc d1 1,_,vc d1 2,_,vc d1 3,ro.2.2.2.2,vc d1 4,_,vc d2 0,_,vc d2 1,_,vc d2 2,_,vc d2 3,rt.2.2.2.2,vc d2 4,?_⟩;refine aV λh72 b72 k72=>?_
 have s72:=k72.size;have k072:=k045.tr k72;have hrow:∀i,i<3->∃r l,[B,O,T][i]? =some l/\RefIs W h kind x r l/\(l.length<=1000/\Few l.length l)/\∀h',Upd No h72 h'->aI h' (adr (adr (aH h45) (i*5)) 0)=some (.int .i64 r.1)/\aI h' (adr (adr (aH h45) (i*5)) 1)=some (.int .u64 r.2.1)/\aI h' (adr (adr (aH h45) (i*5)) 2)=some (.int .u64 r.2.2.1)/\aI h' (adr (adr (aH h45) (i*5)) 3)=some (.int .u64 r.2.2.2.1)/\aI h' (adr (adr (aH h45) (i*5)) 4)=some (.slice r.2.2.2.2.a r.2.2.2.2.len r.2.2.2.2.cap):=λi hi=>by
  have hi:i=0\/i=1\/i=2:=a4
  rcases hi with rfl|rfl|rfl
  .exact⟨rb,B,rfl,jb,⟨a4,fB.up,aj _,fB.fit⟩,λh' k'=>have q:=k'.get0 b72;⟨gL q (0*5) 0,gL q (0*5) 1,gL q (0*5) 2,gL q (0*5) 3,gL q (0*5) 4⟩⟩
  .exact⟨ro,O,rfl,jo,⟨a4,fO.up,aj _,fO.fit⟩,λh' k'=>have q:=k'.get0 b72;⟨gL q (1*5) 0,gL q (1*5) 1,gL q (1*5) 2,gL q (1*5) 3,gL q (1*5) 4⟩⟩
  .exact⟨rt,T,rfl,jt,⟨a4,fT.up,aj _,fT.fit⟩,λh' k'=>have q:=k'.get0 b72;⟨gL q (2*5) 0,gL q (2*5) 1,gL q (2*5) 2,gL q (2*5) 3,gL q (2*5) 4⟩⟩
 refine eF (λ(i:Nat) (t:f9×Int) h'=>t.2=(i:Int)/\i<=3/\(∃acc,acc=([B,O,T].take i).foldl FU []/\Sl dZ 2 No h' t.1 acc/\bO acc/\acc.length<=i*1000/\∀q∈acc,q.1.size<=30)/\Upd No h72 h') (λi=>3-i) 0 ⟨rfl,aK _,⟨[],rfl,Sl.nil fP,cq,aK _,λ_ h=>(by cases h)⟩,eQ _ _⟩ ?_
 rintro I i ⟨sa,ti⟩ D ⟨e,hi,⟨acc,Y,hs,hra,hla,hka⟩,hu⟩ hI;(try simp only at e hs)
 subst e;refine aq (λhlt=>?_) λhge=>?_
 .have hlt:i<3:=by(try simp only at hlt);omega
  obtain⟨r,l,el,⟨s,er,hl,_⟩,⟨ln,fl⟩,hc⟩:=hrow i hlt;obtain⟨e0,e1,e2,e3,e4⟩:=hc D hu;subst er;refine⟨⟨by(try simp only);omega,by(try simp only);omega⟩,_,rfl,_,e0,_,e1,_,e2,_,e3,s,e4,?_⟩
  refine Hx (r:=(kind,hx kind x.k0,hx kind x.k1,hx kind x.mask,s)) λh83 b83 k83=>⟨s,vc b83 4,?_⟩
  have k083:=(k072.tr hu).tr k83;have hll:=hl.len;refine eF (λ(q:Nat) (t:f9×Int) h'=>t.2=(q:Int)/\q<=l.length/\(∃ac2,ac2=FU acc (l.take q)/\Sl dZ 2 No h' t.1 ac2/\bO ac2/\ac2.length<=acc.length+q/\∀q∈ac2,q.1.size<=30)/\Upd No h83 h') (λq=>l.length-q) 0 ⟨rfl,aK _,⟨acc,rfl,hs.upd k83 λ_ h=>h.elim,hra,aj _,hka⟩,eQ _ _⟩ ?_
  rintro I2 q ⟨sb,tq⟩ h87 ⟨e,hq,⟨ac2,eac2,hsb,hra2,hla2,hka2⟩,hu2⟩ hI2;(try simp only at e hsb)
  subst e;refine aq (λu=>?_) λhgq=>?_
  .have u:q<l.length:=by(try simp only at u);omega
   obtain⟨a,ha,_,hv⟩:=(hl.upd (k083.tr hu2) λ_ h=>h.elim).at (af u)
   refine⟨⟨by(try simp only);omega,by(try simp only);omega⟩,a,ha,l[q].1,hv 0 _ rfl,l[q].2,hv 1 _ rfl,?_⟩
   have f30:=fl.fit _ (aG u);refine yk (p:=l[q]) λh92 b92 k92=>⟨_,vc b92 0,_,vc b92 1,?_⟩
   refine Sj (p:=l[q]) (hsb.upd k92 λ_ h=>h.elim) hra2 a4 a4 λs' h96 ho96 k96=>?_
   have hl1:=D6 l[q] (l:=ac2);(try simp only)
   rw[mI u a4];refine hI2 (q+1) _ _ ⟨rfl,u,⟨_,rfl,?_,?_,?_,?_⟩,(hu2.tr k92).tr k96⟩ a4
   .rw[zR u,<-eac2];exact ho96.sl λ_ _ _ h=>h
   .rw[zR u,<-eac2];exact pj _ hra2
   .rw[zR u,<-eac2];omega
   .rw[zR u,<-eac2]
    intro q' hq';rcases tO hq' with rfl|hq'
    .exact f30.1
    .exact hka2 q' hq'
  .have hql:q=l.length:=by(try simp only at hgq);omega
   subst hql;rw[bZ]at eac2;(try simp only)
   rw[mI hlt a4];refine hI (i+1) _ _ ⟨rfl,hlt,⟨ac2,?_,hsb,hra2,a4,hka2⟩,(hu.tr k83).tr hu2⟩ a4
   rw[List.take_add_one,el,List.foldl_append,<-Y];exact eac2
 .have hi3:i=3:=by(try simp only at hge);omega
  subst hi3;have Y:acc=yN B O T:=Y;have hU:bO acc:=hra;have u75:=k72.tr hu;have g0:=u75.get0 d0;have g1:=u75.get0 d1;have g2:=u75.get0 d2;have g3:=u75.get0 d3;have k075:=k045.tr u75;have s75:=u75.size;have jo':=jo;obtain⟨so,er,_,_⟩:=jo';subst er;refine⟨_,vc g1 0,_,vc g1 1,_,vc g1 2,_,vc g1 3,so,vc g1 4,?_⟩;refine Hx (r:=(kind,hx kind x.k0,hx kind x.k1,hx kind x.mask,so)) λh103 b103 k103=>?_
  have s103:=k103.size;have z103:=bw b103;refine tC (i:=4) (c':=(uN (kind,hx kind x.k0,hx kind x.k1,hx kind x.mask,⟨none,0,0⟩)).toArray) b103 (show 4<5 by decide) rfl λC b104 hu104=>?_
  have U:Upd No D C:=k103.own hu104 (aj _);have s104:=U.size;have z104:=bw b104;have hlen:=hs.len;have hM:Bk B O T p acc=ji B O T p:=by rw[Y];exact Qt fB.up fO.up fT.up
  have hC:H9 B O T p acc=oW B O T p:=by rw[Y];exact Q7 fB.up fT.up
  clear Y hI;have hsU:Sl dZ 2 (λy=>D.size<=y) C sa acc:=(hs.less λb hb=>.inr hb).upd U λ_ h=>h.elim
  refine eF (λ(g:Nat×(eh)×(eh)) (t:f9×Int) z=>t.2=(g.1:Int)/\g.1<=acc.length/\OwnS uQ 7 89 g.2.1 z t.1 ((H9 B O T p (acc.take g.1)).map (DD B O T))/\(∃sv,OwnS dZ 2 166 g.2.2 z sv (Bk B O T p (acc.take g.1))/\z[D.size]? =some (.cells (uN (kind,hx kind x.k0,hx kind x.k1,hx kind x.mask,sv)).toArray 129 (0,0)))/\(∀y,g.2.1 y->C.size<=y/\y<z.size/\¬g.2.2 y)/\(∀y,g.2.2 y->C.size<=y/\y<z.size)/\Upd (· =D.size) C z) (λg=>acc.length-g.1) (0,No,No)
   ⟨rfl,aK _,OwnS.nil MV,⟨⟨none,0,0⟩,OwnS.nil fP,b104⟩,λ_ h=>h.elim,λ_ h=>h.elim,eQ _ _⟩ ?_
  rintro I3 ⟨q,S1,S2⟩ ⟨sc,tq⟩ h107 ⟨e,hq,hoc,⟨sv,hov,bv⟩,L,hS2,hu3⟩ hI3;(try simp only at e hq hoc hov L hS2)
  subst e;have s107:=hu3.size;have hn:∀{b:Nat},b<D.size->¬b=D.size:=λh e=>a4
  have q0:=hu3.get (U.get0 g0) (hn a4);have q1:=hu3.get (U.get0 g1) (hn a4);have q2:=hu3.get (U.get0 g2) (hn a4);have q3:=hu3.get (U.get0 g3) (hn a4);have k0107:Upd No h h107:=(k075.tr U).own hu3 a4;refine aq (λu=>?_) λhgq=>?_
  .have u:q<acc.length:=by(try simp only at u);omega
   obtain⟨a,ha,_,hv⟩:=(hsU.upd hu3 λy f=>.inl (by have f:y=D.size:=f;show D.size<=y;omega)).at (af u)
   have hcl:=WI (B:=B) (O:=O) (T:=T) (p:=p) (l:=acc.take q);have hol:=VJ (B:=B) (O:=O) (T:=T) (p:=p) (l:=acc.take q);rw[List.length_take]at hcl hol;refine eM (λt z=>∃H S2',OwnS uQ 7 89 H z t ((H9 B O T p (acc.take (q+1))).map (DD B O T))/\(∃sv,OwnS dZ 2 166 S2' z sv (Bk B O T p (acc.take (q+1)))/\z[D.size]? =some (.cells (uN (kind,hx kind x.k0,hx kind x.k1,hx kind x.mask,sv)).toArray 129 (0,0)))/\(∀y,H y->C.size<=y/\y<z.size/\¬S2' y)/\(∀y,S2' y->C.size<=y/\y<z.size)/\Upd (· =D.size) C z) (λR hR=>⟨⟨by(try simp only);omega,by(try simp only);omega⟩,a,ha,acc[q].1,hv 0 _ rfl,acc[q].2,hv 1 _ rfl,?_⟩) ?_
   .rw[Uk u,TS u,cF]at hR
    have hk30:=hka _ (aG u);generalize acc[q]=c at hR hk30⊢;obtain⟨k,v⟩:=c;(try simp only at hR hk30)
    refine yk (p:=(k,v)) λh113 J k113=>?_
    have s113:=k113.size;have z113:=bw J;have r0:=k113.get0 q0;have r1:=k113.get0 q1;have r2:=k113.get0 q2;have n:=k0107.tr k113;have hB:Fit B:=fB.fits;have hO:Fit O:=fO.fits;have hT:Fit T:=fT.fits;refine eM (λt z=>∃b,t=⟨b,0,none⟩/\z[b]? =some (.cells (uQ (DD B O T k)).toArray 89 (0,0))/\Upd No h113 z) (λR2 hR2=>?_) ?_
    .refine⟨k,vc J 0,_,vc r0 0,_,vc r0 1,_,vc r0 2,_,vc r0 3,rb.2.2.2.2,vc r0 4,k,vc J 0,_,vc r1 0,_,vc r1 1,_,vc r1 2,_,vc r1 3,so,vc r1 4,k,vc J 0,_,vc r2 0,_,vc r2 1,_,vc r2 2,_,vc r2 3,rt.2.2.2.2,vc r2 4,k,vc J 0,?_,?_⟩
     .refine nG (jb.upd0 n) fB.up hB a4 k λh183 V=>?_
      have b183:=V.get0 J;have N:=V.get0 r1;have d:=V.get0 r2;refine⟨vc b183 0,⟨vc d 0,vc d 1,vc d 2,vc d 3,vc d 4⟩,vc b183 0,⟨vc N 0,vc N 1,vc N 2,vc N 3,vc N 4⟩,vc b183 0,?_,?_⟩
      .refine nG (jo.upd0 (n.tr V)) fO.up hO a4 k λh185 k185=>?_
       have b185:=k185.get0 b183;have d:=k185.get0 d;have u185:=V.tr k185;refine⟨vc b185 0,⟨vc d 0,vc d 1,vc d 2,vc d 3,vc d 4⟩,vc b185 0,?_,?_⟩
       .refine nG (jt.upd0 (n.tr u185)) fT.up hT a4 k λh187 k187=>?_
        have u187:=u185.tr k187;refine⟨vc (k187.get0 b185) 0,aV λh188 b188 k188=>⟨vc (k188.get0 (k187.get0 b185)) 0,?_⟩⟩
        exact cy (c:=uQ Xy) (vs:=uQ (DD B O T k)) b188 rfl λh189 S F=>hR2 _ _ ⟨_,rfl,S,(u187.tr k188).own F u187.size⟩
       .refine aV λh190 b190 k190=>?_
        have b190':=k190.get0 b185;have d:=k190.get0 d;have u190:=u185.tr k190;refine⟨vc b190' 0,⟨vc d 0,vc d 1,vc d 2,vc d 3,vc d 4⟩,vc b190' 0,?_⟩;refine nG (jt.upd0 (n.tr u190)) fT.up hT a4 k λh192 k192=>?_
        refine⟨vc (k192.get0 b190') 0,?_⟩;exact cy (c:=uQ Xy) (vs:=uQ (DD B O T k)) (k192.get0 b190) rfl λh189 S F=>hR2 _ _ ⟨_,rfl,S,(u190.tr k192).own F u185.size⟩
      .refine aV λh194 b194 k194=>?_
       have b194':=k194.get0 b183;have N:=k194.get0 N;have d:=k194.get0 d;have u194:=V.tr k194;refine⟨vc b194' 0,⟨vc d 0,vc d 1,vc d 2,vc d 3,vc d 4⟩,vc b194' 0,⟨vc N 0,vc N 1,vc N 2,vc N 3,vc N 4⟩,vc b194' 0,?_⟩;refine nG (jo.upd0 (n.tr u194)) fO.up hO a4 k λh196 k196=>?_
       have b196':=k196.get0 b194';have b196:=k196.get0 b194;have d:=k196.get0 d;have u196:=u194.tr k196;refine⟨vc b196' 0,⟨vc d 0,vc d 1,vc d 2,vc d 3,vc d 4⟩,vc b196' 0,?_⟩;refine nG (jt.upd0 (n.tr u196)) fT.up hT a4 k λh198 k198=>?_
       refine⟨vc (k198.get0 b196') 0,?_⟩;exact cy (c:=uQ Xy) (vs:=uQ (DD B O T k)) (k198.get0 b196) rfl λh189 S F=>hR2 _ _ ⟨_,rfl,S,(u196.tr k198).own F V.size⟩
     .refine aV λh200 b200 X=>?_
      have Q:=X.get0 J;have p0:=X.get0 r0;have N:=X.get0 r1;have d:=X.get0 r2;refine⟨vc Q 0,⟨vc d 0,vc d 1,vc d 2,vc d 3,vc d 4⟩,vc Q 0,⟨vc N 0,vc N 1,vc N 2,vc N 3,vc N 4⟩,vc Q 0,⟨vc p0 0,vc p0 1,vc p0 2,vc p0 3,vc p0 4⟩,vc Q 0,?_⟩;refine nG (jb.upd0 (n.tr X)) fB.up hB a4 k λh202 k202=>?_
      have b202':=k202.get0 Q;have b202:=k202.get0 b200;have N:=k202.get0 N;have d:=k202.get0 d;have u202:=X.tr k202;refine⟨vc b202' 0,⟨vc d 0,vc d 1,vc d 2,vc d 3,vc d 4⟩,vc b202' 0,⟨vc N 0,vc N 1,vc N 2,vc N 3,vc N 4⟩,vc b202' 0,?_⟩;refine nG (jo.upd0 (n.tr u202)) fO.up hO a4 k λh204 k204=>?_
      have b204':=k204.get0 b202';have b204:=k204.get0 b202;have d:=k204.get0 d;have u204:=u202.tr k204;refine⟨vc b204' 0,⟨vc d 0,vc d 1,vc d 2,vc d 3,vc d 4⟩,vc b204' 0,?_⟩;refine nG (jt.upd0 (n.tr u204)) fT.up hT a4 k λh206 k206=>?_
      refine⟨vc (k206.get0 b204') 0,?_⟩;exact cy (c:=uQ Xy) (vs:=uQ (DD B O T k)) (k206.get0 b204) rfl λh189 S F=>hR2 _ _ ⟨_,rfl,S,(u204.tr k206).own F (aj _)⟩
    rintro _ h142 ⟨bx,rfl,P,k142⟩;refine⟨_,gL P 1 0,_,gL P 1 1,_,gL P 3 0,_,gL P 3 1,_,gL P 5 0,_,gL P 5 1,?_⟩;refine Vz (b:=zN (look B k)) (o:=zN (look O k)) (t:=zN (look T k)) λh150 k150=>?_
    rw[RX];have htk:tE (look B k) (look O k) (look T k) p=tk B O T p k:=rfl;rw[htk];generalize tk B O T p k=tkc at hR;refine Y9 (s:=zN tkc.1) λh152 b152 k152=>?_
    have z152:=bw b152;have u152:=(k142.tr k150).tr k152;have u107:=k113.tr u152;have s152:=u107.size;have s150:h113.size<=h150.size:=(k142.tr k150).size;have b113':=u152.get0 J;have E:=(k150.tr k152).get0 P;have bv152:=u107.get0 bv;refine eM (λt z=>∃H,OwnS uQ 7 89 H z t ((H9 B O T p (acc.take q)).map (DD B O T)++(if tkc.2=true then[]else[k]).map (DD B O T))/\(∀y,H y->C.size<=y/\y<z.size/\¬S2 y)/\(∀y,H y->S1 y\/h152.size<=y)/\Upd H h152 z) (λR3 hR3=>?_) ?_
    .refine ez (λe=>?_) λe=>?_
     .have e2:tkc.2=false:=by simpa using e
      rw[e2,if_neg Bool.false_ne_true]at hR3;refine⟨_,vc E 0,_,vc E 1,_,vc E 2,_,vc E 3,_,vc E 4,_,vc E 5,_,vc E 6,?_⟩;refine Lm (c:=DD B O T k) (M:=λy=>S1 y\/h152.size<=y) ((hoc.upd u107 λ_ _ h=>h).more λ_ h=>.inl h) (λ_ h=>.inr h) (by rw[bS];omega) λs163 Z ho164 m=>?_
      have s164:=m.size;refine hR3 _ _ ⟨_,ho164.within,λy f=>⟨?_,f.2,λz=>?_⟩,λy f=>f.1,?_⟩
      .rcases f.1 with h|h
       .exact(L y h).1
       .omega
      .rcases f.1 with h|h
       .exact(L y h).2.2 z
       .have:=(hS2 y z).2;omega
      .exact m.mono λy f=>f.elim (λh=>.inl ⟨.inl h,by have:=(L y h).2.1;omega⟩) .inr
     .have e2:tkc.2=true:=by simpa using e
      rw[e2,if_pos rfl,List.map_nil,aX]at hR3;exact hR3 _ _ ⟨S1,hoc.upd u107 λ_ _ h=>h,λy f=>⟨(L y f).1,by have:=(L y f).2.1;omega,(L y f).2.2⟩,λy f=>.inl f,eQ _ _⟩
    rintro sc' Z ⟨H,hoc',j,hS1n,m⟩;have s164:=m.size;have nS:∀{b:Nat},b<C.size\/(h107.size<=b/\b<h152.size)->¬H b:=λ{b} hb hb'=>by
     have h1:=(j b hb').1;rcases hS1n b hb' with h|h
     .have:=(L b h).2.1;omega
     .omega
    have b152':=m.get b152 (nS a4);have b113'':=m.get b113' (nS a4);have bv164:=m.get bv152 (nS a4);have hov164:=(hov.upd u107 λ_ _ h=>h).upd m λy f h1=>(j y h1).2.2 f
    have hu104:Upd (· =D.size) C Z:=(hu3.tr u107.wide).trans m λy f=>.inr (j y f).1
    refine⟨(zN tkc.1).2,vc b152' 1,?_⟩;cases hc1:tkc.1 with
    |none=>
     rw[hc1]at hR;refine ag.2 (hR _ _ ⟨H,S2,hoc',⟨sv,?_,bv164⟩,j,λy f=>⟨(hS2 y f).1,by have:=(hS2 y f).2;omega⟩,hu104⟩)
     show OwnS dZ 2 166 S2 Z sv (_++ [])
     rw[aX];exact hov164
    |some w=>
     rw[hc1]at hR;rw[hc1]at b152';refine aw.2 ⟨sv,vc bv164 4,k,vc b113'' 0,w,vc b152' 0,bF ?_⟩;refine ua (p:=(k,w)) (M:=λy=>S2 y\/Z.size<=y) (hov164.more λ_ h=>.inl h) (λ_ h=>.inr h) a4 λs171 h172 ho172 hu172=>?_
     have s172:=hu172.size;have nS2:¬(S2 D.size\/Z.size<=D.size):=λh=>by
      rcases h with h|h
      .have:=(hS2 _ h).1;omega
      .omega
     refine tC (i:=4) (c':=(uN (kind,hx kind x.k0,hx kind x.k1,hx kind x.mask,s171)).toArray) (hu172.get bv164 nS2) (show 4<5 by decide) rfl λh173 b173 hu173=>?_
     have s173:=hu173.size;refine hR _ _ ⟨H,λy=>(S2 y\/Z.size<=y)/\y<h172.size,(hoc'.upd hu172 λy f z=>?_).upd hu173 λy f e=>?_,⟨s171,ho172.within.upd hu173 λy f e=>?_,b173⟩,λy f=>⟨(j y f).1,by have:=(j y f).2.1;omega,λz=>?_⟩,λy f=>⟨?_,a4⟩,?_⟩
     .rcases z with z|z
      .exact(j y f).2.2 z
      .have:=(j y f).2.1;omega
     .have e:y=D.size:=e
      have:=(j y f).1;omega
     .have e:y=D.size:=e
      exact nS2 (e▸f.1)
     .rcases z.1 with z|z
      .exact(j y f).2.2 z
      .have:=(j y f).2.1;omega
     .rcases f.1 with h|h
      .exact(hS2 y h).1
      .omega
     .refine(hu104.trans hu172 λy f=>.inr ?_).tr hu173
      rcases f with h|h
      .exact(hS2 y h).1
      .omega
   .rintro sc' z ⟨H,S2',hoc',hex,j,hS2',hu'⟩
    (try simp only)
    rw[mI u a4];exact hI3 (q+1,H,S2') _ _ ⟨rfl,u,hoc',hex,j,hS2',hu'⟩ (by show acc.length-(q+1)<acc.length-q;omega)
  .have hql:q=acc.length:=by(try simp only at hgq);omega
   subst hql;rw[bZ]at hoc hov;rw[hC]at hoc;rw[hM]at hov;have hscl:=hoc.len;rw[bS]at hscl;have hb:(oW B O T p= [])↔sc.len=0:=by rw[hscl];exact List.length_eq_zero_iff.symm
   refine eM (λt h'=>t=(decide (p=0)&&decide (sc.len>0))/\h'=h107) (λR hR=>?_) ?_
   .refine ez (λe=>hR _ _ ⟨?_,rfl⟩) λe=>hR _ _ ⟨?_,rfl⟩
    .have e:p=0:=by simpa using e
     rw[decide_eq_true e,ki,decide_eq_decide];(try simp only);omega
    .have e:p≠0:=by simpa using e
     rw[decide_eq_false e,Bool.false_and]
   rintro t h' ⟨rfl,e'⟩;rw[e'];have hslc:Sl uQ 7 No h107 sc ((oW B O T p).map (DD B O T)):=hoc.sl λ_ _ _ h=>h
   refine ez (λe=>?_) λe=>?_
   .have e:p=0/\sc.len>0:=by simpa using e
    refine⟨_,vc q1 0,_,vc q1 1,_,vc q1 2,_,vc q1 3,so,vc q1 4,?_⟩;refine cy (c:=uN Sf) (vs:=uN (kind,hx kind x.k0,hx kind x.k1,hx kind x.mask,so)) q3 rfl λh198 A G=>?_
    refine⟨_,vc A 0,_,vc A 1,_,vc A 2,_,vc A 3,so,vc A 4,?_⟩;refine hk0 e.1 (λhc=>by have:=hb.1 hc;omega) h198 sc ((hoc.upd G λy f e=>?_).sl λb hb _ hw=>by have:=(L b hb).1;have hw:b<h.size:=hw;omega) (k0107.own G a4)
    have e:y=h3.size:=e;have:=(L y f).1;omega
   .have e:p=0->sc.len=0:=λhp=>by
     rw[decide_eq_true hp,ki]at e;have:=of_decide_eq_false e;omega
    refine⟨_,vc bv 0,_,vc bv 1,_,vc bv 2,_,vc bv 3,sv,vc bv 4,?_⟩;refine cy (c:=uN Sf) (vs:=uN (kind,hx kind x.k0,hx kind x.k1,hx kind x.mask,sv)) q3 rfl λh198 A G=>?_
    refine⟨_,vc A 0,_,vc A 1,_,vc A 2,_,vc A 3,sv,vc A 4,?_⟩;refine hk (λhp=>hb.2 (e hp)) h198 (kind,hx kind x.k0,hx kind x.k1,hx kind x.mask,sv) sc ⟨sv,rfl,(hov.upd G λy f e=>?_).sl λy f _ hw=>?_,hov.cap⟩ ((hoc.upd G λy f e=>?_).sl λb hb _ hw=>by have:=(L b hb).1;have hw:b<h.size:=hw;omega) (k0107.own G a4)
    .have e:y=h3.size:=e
     have:=(hS2 y f).1;omega
    .have h1:=(hS2 y f).1
     have z:=hW y hw;omega
    .have e:y=h3.size:=e
     have:=(L y f).1;omega
end Go.Proofs
