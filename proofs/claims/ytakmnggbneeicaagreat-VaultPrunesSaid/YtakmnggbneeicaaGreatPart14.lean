/- A part of the proof that the named laws of this program answer true, whatever the input. -/
import Derived.Test.YtakmnggbneeicaaGreatPart13
import Derived.Test.YtakmnggbneeicaaGreatPart9
open Bool renaming eq_iff_iff→eJ,eq_false_iff→ey
open ByteArray renaming size_extract→jV
open Go.IntKind renaming wrap→ac
open Int renaming tmod→fW
open List renaming mem_cons_of_mem→ax,getElem_mem→aH,getElem?_eq_getElem→af,length_filter_le→bF,length_map→bS,filter_congr→ef,mem_map→aP,mem_filter→bE,mem_singleton→al
open List.Pairwise renaming nil→cf
open Nat renaming lt_of_lt_of_le→az,le_refl→ai,le_succ→i5,zero_le→aN,le_trans→aW,min_eq_left→bZ
namespace Go.Proofs
open Go Go.Lift
abbrev VC:=Int×ByteArray×ByteArray×Int×Int×Int×ByteArray×ByteArray×Bool×Int
abbrev Cj(a:VC):List Value:= [.int .u8 a.1,.string a.2.1,.string a.2.2.1,.int .u8 a.2.2.2.1,.int .u8 a.2.2.2.2.1,.int .u32 a.2.2.2.2.2.1,.string a.2.2.2.2.2.2.1,.string a.2.2.2.2.2.2.2.1,.bool a.2.2.2.2.2.2.2.2.1,.int .i64 a.2.2.2.2.2.2.2.2.2]
theorem HQ{t:ByteArray}{b:Int}(hb:0≤b){h:ad}{K:ByteArray→ad→Prop}(a:∀h' r,r.size≤40→Upd No h h'→K r h'):AD 25 [.string t,.int .u8 b] K h:=by
 refine cW (GE t b) .nil Tryz.func25 Tryz.call25 ?_;unfold GE cB fQ W6;refine⟨by decide,CondP.intro (fun _=>⟨⟨by split<;>omega,by split<;>omega⟩,?_⟩) fun _=>?_⟩
 ·unfold Bd
  refine a h _ ?_ (Upd.refl _ _);rw[jV];split<;>omega
 ·obtain⟨j,g,f⟩:∃j:Nat,j<4∧fW b 4=(j:Int):=⟨(b%4).toNat,by omega,by rw[Int.tmod_eq_emod_of_nonneg hb];omega⟩
  rw[f];refine ba fun d b2 c=>⟨by decide,⟨by omega,by omega⟩,_,rfl,?_⟩
  have e:j=0∨j=1∨j=2∨j=3:=by omega
  rcases e with rfl|rfl|rfl|rfl
  ·exact⟨_,vc b2 0,a d _ (by decide) c⟩
  ·exact⟨_,vc b2 1,a d _ (by decide) c⟩
  ·exact⟨_,vc b2 2,a d _ (by decide) c⟩
  ·exact⟨_,vc b2 3,a d _ (by decide) c⟩
section
variable {X:Nat→Prop} {h:ad} {z vp xp xg st:Nat} {re:Rt} {s:VS} {q:RS} {U:List ByteArray} {n:Nat}
theorem QA{W W':Nat→Prop}{h h':ad}{k k':Int}{x a:Hs}{t u:Tr}{l l':List Pr}(i:TreeIs W h k x t l)(b:TreeIs W' h' k' a u l')(e:k≠k'):lz t u=false:=by
 cases hb:lz t u with
 |false=>rfl
 |true=>exact absurd (Qy i b hb).1.symm e
theorem Qz{W W':Nat→Prop}{h h':ad}{k k':Int}{x a:Hs}{t u:Rt}{l l':List Pr}(i:RefIs W h k x t l)(b:RefIs W' h' k' a u l')(e:k≠k'):CU t u=false:=by
 obtain⟨_,rfl,_⟩:=i;obtain⟨_,rfl,_⟩:=b;unfold CU;rw[show(k==k')=false from beq_eq_false_iff_ne.2 e];rfl
theorem TP{L:cT}{nx:Int}{ps:List Int}(h:(eZ L nx ps).1.2≠0):(eZ L nx ps).1=(0,(eZ L nx ps).1.2):=by
 unfold eZ at h⊢;split
 ·rfl
 ·split
  ·rfl
  ·split
   ·rfl
   ·rename_i h1 h2 h3
    rw[if_neg h1,if_neg h2,if_neg h3]at h;exact absurd rfl h
theorem KO{b:ByteArray}{d:TD}{ps:List Int}:(wG s b d ps).1=(eZ s.L s.nx ps).1:=by
 unfold wG;split
 ·rename_i h;exact(TP h).symm
 ·rename_i h
  have e:(eZ s.L s.nx ps).1.2=0:=Decidable.not_not.1 h;exact Prod.ext rfl e.symm
theorem OT{i:Nat}{hi:i<q.B.length}{d:TD}{ps:List Int}{r:Rt}{ts sB:SliceV}{z y:Nat}(ht:∀y,sb ts y→sb q.ts y∨z≤y)(a:sb (wN q i hi d ps r ts sB).ts y):sb q.ts y∨z≤y:=by
 unfold wN at a;split at a
 ·exact .inl a
 ·exact ht y a
set_option maxHeartbeats 4000000 in
theorem Mc(g:Dz X z h vp xp xg re s q U n)(hn:n≤200)(T:h[st]? =some (.cells #[.pointer (some ⟨vp,0,none⟩),.pointer (some ⟨xp,0,none⟩)] 41 (0,0))) (hX:X st) {b:ByteArray} {a:VC} {K:Bool→ad→Prop}
  (hK:∀h' s' q' U',Evo s s'→Dz X z h' vp xp xg re s' q' U' (n+1)→Upd (DM s xg xp q) h h'→K true h'):
  fI 38 [gS st,.string b,.agg (Cj a).toArray] K h:=by
 refine cW (sx (some ⟨st,0,none⟩) b a) zU Tryz.func38 Tryz.call38 ?_;dsimp only[sx,aY,rG,gI,dt,nv,sL,ux,tf,WX,oW,sM,X8,fP,qR,mL,yg,nV,mY,nh,aD,wL,aj,Hf,cZ,mF,bi,jg,dM,vN,dg,cH,F9,fY];have hL:q.L.length≤1024:=g.p.eL▸g.v.inv.few;have lt:=g.lt;have hnx:=g.v.inv.nx1;obtain⟨hd,ehd,hdv⟩:∃hd,(bC s.B b).getD 0=hd∧(hd=0∨hd∈dF s.L):=by
  refine⟨_,rfl,?_⟩;cases e:bC s.B b with
  |none=>exact .inl rfl
  |some v=>exact(g.p.hb _ ((g.p.nb.iff b v).1 e)).1
 refine ba fun h1 b1 k1=>⟨_,rfl,_,vc (k1.get0 T) 0,gN (g.v.upd0 k1) b ⟨_,rfl,_,vc (k1.get0 T) 0,?_⟩⟩
 rw[ehd];have s1:=k1.size;refine Ht (g.v.upd0 k1) hdv fun B hB Y k9=>?_
 have k09:=k1.tr k9;have s9:=k09.size;refine ba fun h10 b10 k10=>cn (c:=iH sY) (vs:=iH B.1) b10 rfl fun h11 b11 u11=>?_
 have V:Upd No h h11:=(k09.tr k10).own u11 s9;have s11:=V.size;refine⟨_,rfl,_,vc (V.get0 T) 1,?_⟩;obtain⟨xB,kB⟩:=g.base hB hdv;have z11:=bw b11;have G11:Rn (fun y=>DW X s xg xp q y∨y=Y.size) h11 xp xg s.kind s.x re q:=g.f.mv V (fun _ h=>h.elim) (fun y m=>⟨m.imp id fun e=>by omega,m.elim (fun m=>az (lt y m) s11) fun e=>e▸z11⟩) fun y m=>.inl (.inr (.inl m))
 refine IV G11 g.p.nd xB (by omega) (by have:=g.p.dl;omega) fun t r jr k15=>?_
 have k015:=V.tr k15;have s15:=k015.size;have z10:=bw b11;refine ba fun h16 b16 k16=>cn (c:=sN O9) (vs:=sN r) b16 rfl fun h17 b17 u17=>?_
 have k017:Upd No h h17:=(k015.tr k16).own u17 s15;have k1117:Upd No h11 h17:=(k15.tr k16).own u17 k15.size;have s17:=k017.size;have z17:=bw b17;have s1511:=k15.size;refine CondP.intro (fun e=>absurd e (by simp)) fun _=>?_
 have c17:=(k9.tr ((k10.own u11 (ai _)).tr k1117)).get0 b1;refine⟨_,gw c17 6 0,_,gw c17 6 1,Tc (p:=(a.2.2.2.2.2.2.1,a.2.2.2.2.2.2.2.1)) fun h21 k21=>?_⟩
 obtain⟨p,ep⟩:∃p,p=XS (a.2.2.2.2.2.2.1,a.2.2.2.2.2.2.2.1):=⟨_,rfl⟩;have hp1:p.1.size≤30:=ep▸FT _;have hp2:p.2.size≤30:=ep▸FT _;rw[←ep];have s21:=k21.size;refine ba fun h22 b22 k22=>cn (c:= [.string ⟨#[]⟩,.string ⟨#[]⟩]) (vs:= [.string p.1,.string p.2]) b22 rfl fun J b23 u23=>?_
 have w:Upd No h17 J:=(k21.tr k22).own u23 s21;have k023:=k017.tr w;have s23:=k023.size;obtain⟨O,Z⟩:∃O:Nat→Prop,O=fun y=>DW X s xg xp q y∨y=Y.size∨y=t.size:=⟨_,rfl⟩
 have w1:∀y,O y→DW X s xg xp q y∨h.size≤y:=fun y m=>by
  rw[Z]at m;exact m.imp id fun m=>by omega
 have w1':∀y,DW X s xg xp q y→O y:=fun y m=>by rw[Z];exact .inl m
 have Q:∀y,O y→y<J.size:=fun y m=>by
  rw[Z]at m;have:=w.size;rcases m with m|m|m
  ·have:=lt y m;omega
  ·omega
  ·omega
 have tb:O Y.size:=by rw[Z];exact .inr (.inl rfl)
 have rb:O t.size:=by rw[Z];exact .inr (.inr rfl)
 have i23:TreeIs O J s.kind s.x B.1 B.2:=(g.tree hB).re k023 (fun _ h=>h.elim) w1
 have j23:RefIs O J s.kind s.x r B.2:=by
  refine RefIs.re jr ((k16.own u17 (ai _)).tr w) (fun _ h=>h.elim) fun y m=>?_
  rw[Z]at m;rcases m with m|m|m
  ·exact .inl (.inl m)
  ·exact .inl (.inr m)
  ·exact .inr (by omega)
 have u:=(k1117.tr w).get0 b11;have r23:=w.get0 b17;have a23:=w.get0 c17;have fB:=kB.few (ai _);have lB:B.2.length≤1000000:=by have:=fB.len;have:=g.p.ul;omega
 have ne:Y.size≠t.size:=by omega
 have a0:=bw b1;have nb9:h.size≠Y.size:=by have:=k9.size;omega
 have nb15:h.size≠t.size:=by omega
 refine Join.intro (fun _ h'=>∃E F l',TreeIs O h' s.kind s.x E l'∧RefIs O h' s.kind s.x F l'∧Kin (p.1::U) l'∧h'[Y.size]? =some (.cells (iH E).toArray 53 (0,0))∧h'[t.size]? =some (.cells (sN F).toArray 111 (0,0))∧Upd (fun y=>y=Y.size∨y=t.size) J h') (fun R hR=>?_) ?_
 ·refine⟨_,vc a23 8,CondP.intro (fun _=>?_) fun _=>?_⟩
  ·refine⟨_,vc u 0,_,vc u 1,_,vc u 2,_,vc u 3,_,vc u 4,_,vc u 5,_,vc b23 0,CC i23 Q fB.up fB.fits lB p.1 (by omega) fun h34 E i34 _ H=>cn (c:=iH B.1) (vs:=iH E) (H.get0 u) rfl fun h35 b35 L=>?_⟩
   have A:=L.oth (H.get0 r23) ne.symm;have p35:=L.oth (H.get0 b23) (by omega);have kk:Upd (fun y=>y=Y.size∨y=t.size) J h35:=H.wide.tr (L.mono fun y e=>.inl (.inl e))
   have hm:∀y,(y=Y.size∨y=t.size)→O y∨J.size≤y:=fun y m=>.inl (m.elim (fun e=>e▸tb) fun e=>e▸rb)
   refine⟨_,vc A 0,_,vc A 1,_,vc A 2,_,vc A 3,r.2.2.2.2,vc A 4,_,vc p35 0,Lm (j23.updM kk hm) (fun y m=>az (Q y m) kk.size) fB.up fB.fits lB p.1 (by omega) fun h43 F e j43 N=>cn (c:=sN r) (vs:=sN F) (N.get0 A) rfl fun h44 b44 I=>hR _ _ ?_⟩
   refine⟨E,F,_,((i34.updM L fun y e=>.inl (by have e:y=Y.size:=e;exact e▸tb)).upd0 N).updM I fun y e=>.inl (by have e:y=t.size:=e;exact e▸rb),j43.updM I fun y e=>.inl (by have e:y=t.size:=e;exact e▸rb),(kB.del p.1).more fun y m=>ax _ m,I.oth (N.get0 b35) ne,b44,(kk.tr N.wide).tr (I.mono fun y e=>.inl (.inr e))⟩
  ·refine⟨_,vc u 0,_,vc u 1,_,vc u 2,_,vc u 3,_,vc u 4,_,vc u 5,_,vc b23 0,_,vc b23 1,Af i23 Q fB.up lB p (by omega) (by omega) fun h34 E i34 _ H=>cn (c:=iH B.1) (vs:=iH E) (H.get0 u) rfl fun h35 b35 L=>?_⟩
   have A:=L.oth (H.get0 r23) ne.symm;have p35:=L.oth (H.get0 b23) (by omega);have kk:Upd (fun y=>y=Y.size∨y=t.size) J h35:=H.wide.tr (L.mono fun y e=>.inl (.inl e))
   have hm:∀y,(y=Y.size∨y=t.size)→O y∨J.size≤y:=fun y m=>.inl (m.elim (fun e=>e▸tb) fun e=>e▸rb)
   refine⟨_,vc A 0,_,vc A 1,_,vc A 2,_,vc A 3,r.2.2.2.2,vc A 4,_,vc p35 0,_,vc p35 1,Sc (j23.updM kk hm) (fun y m=>az (Q y m) kk.size) fB.up lB p (by omega) (by omega) fun h43 F j43 N=>cn (c:=sN r) (vs:=sN F) (N.get0 A) rfl fun h44 b44 I=>hR _ _ ?_⟩
   refine⟨E,F,_,((i34.updM L fun y e=>.inl (by have e:y=Y.size:=e;exact e▸tb)).upd0 N).updM I fun y e=>.inl (by have e:y=t.size:=e;exact e▸rb),j43.updM I fun y e=>.inl (by have e:y=t.size:=e;exact e▸rb),kB.ins p hp1 hp2,I.oth (N.get0 b35) ne,b44,(kk.tr N.wide).tr (I.mono fun y e=>.inl (.inr e))⟩
 rintro _ h67 ⟨E,F,l',i67,j67,kl67,C,br67,u67⟩;have s67:=u67.size;have a67:=u67.get a23 fun e=>e.elim nb9 nb15
 have lt67:∀y,O y→y<h67.size:=fun y m=>az (Q y m) s67
 have k067:Upd No h h67:=k023.fresh u67 fun y m=>by omega
 refine Join.intro (fun _ h'=>∃E F,((∃l',TreeIs O h' s.kind s.x E l'∧RefIs O h' s.kind s.x F l'∧Kin (p.1::U) l')∨(lz E s.e=false∧CU F re=false))∧h'[Y.size]? =some (.cells (iH E).toArray 53 (0,0))∧h'[t.size]? =some (.cells (sN F).toArray 111 (0,0))∧Upd No h h') (fun R hR=>⟨_,vc a67 0,by decide,CondP.intro (fun _=>?_) fun _=>hR _ _ ⟨E,F,.inl ⟨l',i67,j67,kl67⟩,C,br67,k067⟩⟩) ?_
 ·have et:E.1=s.kind:=by
   rcases i67 with⟨e,b,rfl,_⟩|⟨e,b,rfl,_⟩
   ·exact e.symm
   ·exact e.symm
  have er:F.1=s.kind:=by obtain⟨_,rfl,_⟩:=j67;rfl
  obtain⟨kd,ekd,hkd,hne⟩:∃kd,ac .i64 (1-s.kind)=kd∧(kd=0∨kd=1)∧kd≠s.kind:=by
   rcases g.v.kd with e|e
   ·exact⟨1,by rw[e];decide,.inr rfl,by omega⟩
   ·exact⟨0,by rw[e];decide,.inl rfl,by omega⟩
  refine⟨_,vc C 0,_,vc C 1,_,vc C 2,_,vc C 3,_,vc C 4,_,vc C 5,KZ fun h77 k77=>?_⟩
  rw[et,ekd];refine O1 (W:=O) (x:=⟨0,0,0⟩) (fun y m=>az (lt67 y m) k77.size) hkd fun h79 t2 i79 k79=>cn (c:=iH E) (vs:=iH t2) ((k77.tr k79).get0 C) rfl fun h80 b80 u80=>?_
  have r80:=u80.oth ((k77.tr k79).get0 br67) ne.symm;refine⟨_,vc r80 0,?_⟩;rw[er,ekd];refine Pd (W:=O) (x:=⟨0,0,0⟩) hkd fun h83 r2 j83 k83=>cn (c:=sN F) (vs:=sN r2) (k83.get0 r80) rfl fun h84 b84 u84=>hR _ _ ⟨t2,r2,.inr ⟨QA i79 g.v.em hne,Qz j83 g.f.e hne⟩,u84.oth (k83.get0 b80) ne,b84,?_⟩
  exact((((k067.tr k77).tr k79).own u80 s9).tr k83).own u84 s15
 rintro _ h86 ⟨E,F,hc,bt,br,o⟩;have s86:=o.size;have v86:=g.v.upd0 o;have f86:=(g.upd0 o).f;refine⟨_,rfl,_,vc (o.get0 T) 0,_,vc bt 0,_,vc bt 1,_,vc bt 2,_,vc bt 3,_,vc bt 4,_,vc bt 5,?_⟩;have hnB:q.B.length≤1000:=by have:=g.p.bl;omega
 have same:∀h',Upd No h h'→K true h':=fun h' k=>hK h' s q U (.names s.B s.G) ((g.upd0 k).more (i5 n)) k.wide
 cases eb:bC s.B b with
 |none=>
  refine KQ v86 eb fun h96 P=>⟨_,rfl,_,vc ((o.tr P).get0 T) 1,?_⟩
  have j:=P.get0 br;refine⟨_,vc j 0,_,vc j 1,_,vc j 2,_,vc j 3,F.2.2.2.2,vc j 4,KB (f86.upd0 P) hnB (g.p.nb.miss eb) fun S k105=>aw.2 (same S ((o.tr P).tr k105))⟩
 |some hd'=>
  obtain⟨i,hi,ei,ev⟩:=g.p.nb.hit eb;have ehd':hd'=hd:=by rw[eb]at ehd;exact ehd
  rcases hc with⟨l',i86,j86,kl⟩|⟨lb,lr⟩
  ·have f:=kl.few (ai _)
   have hw1:∀y,DW X s xg xp q y→O y∨h86.size≤y:=fun y m=>.inl (w1' y m)
   refine yV v86 b eb (d:=(E,l')) (i86.less hw1) f.up f.fits fun h96 u96 v96=>⟨_,rfl,_,vc (u96.get (o.get0 T) fun hm=>(g.xd _ hX).1 hm) 1,?_⟩
   have lM:∀y,s.M y→y<h.size:=fun y m=>g.v.size m
   have j:=u96.get br fun hm=>by have:=lM _ hm;omega
   have f96:=(g.upd0 o).f1 u96;refine⟨_,vc j 0,_,vc j 1,_,vc j 2,_,vc j 3,F.2.2.2.2,vc j 4,?_⟩;have hp0:0≤q.B[i].2:=by
    rcases(g.p.hb _ (aH hi)).1 with e|e
    ·omega
    ·have:=(g.v.inv.pos _ e).1;omega
   refine MM f96 (by rw[g.p.en];omega) (by omega) (by have:=g.f.n;have:=g.p.dl;omega) hnB hi g.p.nb.up ei hp0 (d:=(E,l')) ((j86.less hw1).updM u96 fun y m=>.inl (.inl m)) fun S ts sB u105 ht G=>?_
   rw[ev]at G⊢;obtain⟨D,ku⟩:=g.fin (o.wide.tr u96) v96 (.ver b (E,l') (nz [hd'])) u105 (fun y m=>OT ht m) G (g.p.ver g.v.inv hi ei kl (fun y m=>ax _ m) (by have:=g.p.ul;simp;omega))
   rw[g.p.eL,g.p.en,KO];refine CondP.intro (fun _=>?_) fun e=>absurd e (by simp)
   rw[beq_self_eq_true];exact hK S _ _ _ (.ver b (E,l') (nz [hd'])) D ku
  ·refine KS v86 eb lb fun h96 P=>⟨_,rfl,_,vc ((o.tr P).get0 T) 1,?_⟩
   have j:=P.get0 br;refine⟨_,vc j 0,_,vc j 1,_,vc j 2,_,vc j 3,F.2.2.2.2,vc j 4,KC (f86.upd0 P) hnB hi ei lr fun S k105=>aw.2 (same S ((o.tr P).tr k105))⟩
end
end Go.Proofs
namespace Go.Proofs
open Go Go.Lift
set_option maxHeartbeats 1000000 in
theorem nL{W W':Nat→Prop}{h:ad}{a e:Int}{y k:SliceV}{l:List Cf}(H:Sl sP 7 W h y l)(z:Sl sP 7 W' h k l)(Q:l.length≤1000000){K:Bool→ad→Prop}(P:∀h',Upd No h h'→K true h'):
  Join (fun(C:Bool) u=>
   CondP C (
    K false u) (
    LoopP (fun E (b:Int) f=>
     CondP (decide (b<(y.len:Int))) (
      (((0:Int)≤b∧b<((y.len:Nat):Int))∧∃a76:Addr,y.a=some a76∧
       ∃v77:ByteArray,aK f (adr (adr a76 (b.toNat*7)) 0)=some (.string v77)∧
       ∃v78:ByteArray,aK f (adr (adr a76 (b.toNat*7)) 1)=some (.string v78)∧
       ∃v79:Bool,aK f (adr (adr a76 (b.toNat*7)) 2)=some (.bool v79)∧
       ∃v80:ByteArray,aK f (adr (adr a76 (b.toNat*7)) 3)=some (.string v80)∧
       ∃v81:Bool,aK f (adr (adr a76 (b.toNat*7)) 4)=some (.bool v81)∧
       ∃v82:ByteArray,aK f (adr (adr a76 (b.toNat*7)) 5)=some (.string v82)∧
       ∃v83:Bool,aK f (adr (adr a76 (b.toNat*7)) 6)=some (.bool v83)∧
       At (hnew f [.string (⟨#[]⟩:ByteArray),.string (⟨#[]⟩:ByteArray),.bool false,.string (⟨#[]⟩:ByteArray),.bool false,.string (⟨#[]⟩:ByteArray),.bool false] 85) (fun w=>
        (pk w (some (aL f)) 0 [.string v77,.string v78,.bool v79,.string v80,.bool v81,.string v82,.bool v83]∧
         At (eN w (aL f) 0 [.string v77,.string v78,.bool v79,.string v80,.bool v81,.string v82,.bool v83]) (fun d=>
          Join (fun(v:Bool) o=>
           CondP v (
            K false o) (
            E (ac .i64 (b+1)) o)) (fun m=>
           ∃v87:ByteArray,aK d (adr (aL f) 0)=some (.string v87)∧
           (((0:Int)≤b∧b<((k.len:Nat):Int))∧∃a88:Addr,k.a=some a88∧
            ∃v89:ByteArray,aK d (adr (adr a88 (b.toNat*7)) 0)=some (.string v89)∧
            CondP (!(v87.toList==v89.toList)) (
             m true d) (
             ∃v90:ByteArray,aK d (adr (adr (aL f) 1) 0)=some (.string v90)∧
             ∃v91:Bool,aK d (adr (adr (aL f) 1) 1)=some (.bool v91)∧
             (((0:Int)≤b∧b<((k.len:Nat):Int))∧∃a92:Addr,k.a=some a92∧
              ∃v93:ByteArray,aK d (adr (adr (adr a92 (b.toNat*7)) 1) 0)=some (.string v93)∧
              ∃v94:Bool,aK d (adr (adr (adr a92 (b.toNat*7)) 1) 1)=some (.bool v94)∧
              CondP (!(((v90.toList==v93.toList)&&((v91==v94)&&true)))) (
               m true d) (
               ∃v95:ByteArray,aK d (adr (adr (aL f) 3) 0)=some (.string v95)∧
               ∃v96:Bool,aK d (adr (adr (aL f) 3) 1)=some (.bool v96)∧
               (((0:Int)≤b∧b<((k.len:Nat):Int))∧∃a97:Addr,k.a=some a97∧
                ∃v98:ByteArray,aK d (adr (adr (adr a97 (b.toNat*7)) 3) 0)=some (.string v98)∧
                ∃v99:Bool,aK d (adr (adr (adr a97 (b.toNat*7)) 3) 1)=some (.bool v99)∧
                CondP (!(((v95.toList==v98.toList)&&((v96==v99)&&true)))) (
                 m true d) (
                 ∃v100:ByteArray,aK d (adr (adr (aL f) 5) 0)=some (.string v100)∧
                 ∃v101:Bool,aK d (adr (adr (aL f) 5) 1)=some (.bool v101)∧
                 (((0:Int)≤b∧b<((k.len:Nat):Int))∧∃a102:Addr,k.a=some a102∧
                  ∃v103:ByteArray,aK d (adr (adr (adr a102 (b.toNat*7)) 5) 0)=some (.string v103)∧
                  ∃v104:Bool,aK d (adr (adr (adr a102 (b.toNat*7)) 5) 1)=some (.bool v104)∧
                  m (!(((v100.toList==v103.toList)&&((v101==v104)&&true)))) d))))))))))))) (
      K true f)) 0 u)) (fun q=>
   CondP (a !=a) (
    q true h) (
    CondP (e !=e) (
     q true h) (
     q ((y.len:Int) !=(k.len:Int)) h))):=by
 have O:=H.len;have N:=z.len;refine Join.intro (fun t h'=>t=false∧h'=h) (fun R D=>CondP.intro (fun e=>absurd e (by simp)) fun _=>CondP.intro (fun e=>absurd e (by simp)) fun _=>D _ _ ⟨by rw[O,N];simp,rfl⟩) ?_
 rintro t h' ⟨rfl,F⟩;rw[F];refine ag.2 (LoopP.ghost (fun(i:Nat) (t:Int) h'=>t=(i:Int)∧i≤l.length∧Upd No h h') (fun i=>l.length-i) 0 ⟨rfl,aN _,Upd.refl _ _⟩ ?_)
 rintro I i t h' ⟨rfl,hi,A⟩ L;refine ao (fun j=>?_) fun _=>P _ A
 have j:i<l.length:=by omega
 obtain⟨a,J,_,hv⟩:=(H.upd A fun _ h=>h.elim).at (af j)
 have s:=z.upd A fun _ h=>h.elim
 refine⟨⟨by omega,by omega⟩,a,J,_,hv 0 _ rfl,_,hv 1 _ rfl,_,hv 2 _ rfl,_,hv 3 _ rfl,_,hv 4 _ rfl,_,hv 5 _ rfl,_,hv 6 _ rfl,?_⟩
 refine Xo (c:=l[i]) fun B g x=>?_
 obtain⟨a',n,_,p⟩:=(s.upd x fun _ h=>h.elim).at (af j)
 generalize l[i]=c at g p⊢;refine Join.intro (fun t G=>t=false∧G=B) (fun R D=>?_) ?_
 ·refine⟨c.1,vc g 0,⟨by omega,by omega⟩,a',n,c.1,p 0 _ rfl,?_⟩
  rw[dI,decide_eq_true rfl];refine ag.2 ⟨c.2.1.1,gw g 1 0,c.2.1.2,gw g 1 1,⟨by omega,by omega⟩,a',n,c.2.1.1,by rw[nf];exact p 1 _ rfl,c.2.1.2,by rw[nf];exact p 2 _ rfl,?_⟩
  rw[Jn c.2.1 c.2.1,decide_eq_true rfl];refine ag.2 ⟨c.2.2.1.1,gw g 3 0,c.2.2.1.2,gw g 3 1,⟨by omega,by omega⟩,a',n,c.2.2.1.1,by rw[nf];exact p 3 _ rfl,c.2.2.1.2,by rw[nf];exact p 4 _ rfl,?_⟩
  rw[Jn c.2.2.1 c.2.2.1,decide_eq_true rfl];refine ag.2 ⟨c.2.2.2.1,gw g 5 0,c.2.2.2.2,gw g 5 1,⟨by omega,by omega⟩,a',n,c.2.2.2.1,by rw[nf];exact p 5 _ rfl,c.2.2.2.2,by rw[nf];exact p 6 _ rfl,?_⟩
  rw[Jn c.2.2.2 c.2.2.2,decide_eq_true rfl];exact D _ _ ⟨rfl,rfl⟩
 ·rintro t G ⟨rfl,F⟩
  rw[F];refine ag.2 ?_;rw[cp j (by omega)];exact L (i+1) _ _ ⟨rfl,j,A.tr x⟩ (by omega)
theorem Mb{B O T:List Pr}{p:Int}(b:bM B)(a:bM T):(ns B O T p).length≤B.length+T.length:=by
 unfold ns DX;exact aW (bF ..) (by rw[bS];exact ri b a)
section
variable {X:Nat→Prop} {h:ad} {z vp xp xg st:Nat} {re:Rt} {s:VS} {q:RS} {U:List ByteArray} {n:Nat}
set_option maxHeartbeats 4000000 in
theorem Vd(g:Dz X z h vp xp xg re s q U n)(hn:n≤200)(hst:h[st]? =some (.cells #[.pointer (some ⟨vp,0,none⟩),.pointer (some ⟨xp,0,none⟩)] 41 (0,0))) (hX:X st) {a:VC} (ha:0≤a.2.2.2.1) (hb:0≤a.2.2.2.2.1) {K:Bool→ad→Prop}
  (hK:∀h' s' q' U',Evo s s'→Dz X z h' vp xp xg re s' q' U' (n+1)→Upd (DM s xg xp q) h h'→K true h'):
  fI 7 [gS st,.agg (Cj a).toArray] K h:=by
 refine cW (xI (some ⟨st,0,none⟩) a) GM Tryz.func7 Tryz.call7 ?_;dsimp only[xI,aY,rG,gn,dg,cZ,bi,nv,X5,VV,Ri,X8,VZ,fP,DE,DI,RF,jA,fQ,xy,gl,vN,cH,F9,fY,QZ,Hf,Vu,gI];have hL:q.L.length≤100000:=by have:=g.p.eL▸g.v.inv.few;omega
 have gd:Good q.L:=g.p.eL▸g.v.inv.good;have lM:∀y,s.M y→y<h.size:=fun y hy=>g.v.size hy
 have x:q.B.length≤1000:=by have:=g.p.bl;omega
 have hnT:q.T.length≤1000:=by have:=g.p.tl;omega
 have hbm:s.M s.bm:=.inr (.inr (.inr (.inl rfl)));have hnm:s.M s.nm:=.inr (.inr (.inr (.inr rfl)));refine ba fun h1 b1 k1=>⟨_,vc b1 1,_,vc b1 3,_,vc b1 2,_,vc b1 4,HQ ha fun h7 m1 hm1 k7=>⟨vc (k7.get0 b1) 4,vc (k7.get0 b1) 2,HQ hb fun h9 m2 hm2 k9=>?_⟩⟩
 have Z:=(k1.tr k7).tr k9;have C:=k9.get0 (k7.get0 b1);have b:=Z.get0 hst;have f:=g.upd0 Z;have s9:=Z.size;have V:∀{M:Nat→Prop} {h':ad},Upd M h9 h'→(∀y,M y→s.M y)→h'[st]? =some (.cells #[.pointer (some ⟨vp,0,none⟩),.pointer (some ⟨xp,0,none⟩)] 41 (0,0)):=fun u hM=>u.get b fun hm=>(g.xd _ hX).1 (hM _ hm)
 have aM:∀{M:Nat→Prop} {h':ad},Upd M h9 h'→(∀y,M y→s.M y)→h'[h.size]? =some (.cells (Cj a).toArray 35 (0,0)):=fun u hM=>u.get C fun hm=>by have:=lM _ (hM _ hm);omega
 have fin:∀{h1 h2 s' q'},Upd s.M h9 h1→VaultAt (DW X s xg xp q) h1 vp s'→Evo s s'→Upd (RW xg xp q) h1 h2→q'.ts=q.ts→Rn (DW X s xg xp q) h2 xp xg s.kind s.x re q'→Dp s' q' U (n+1)→K true h2:=fun u1 v1 e u2 ht G p=>by
  obtain⟨D,ku⟩:=f.fin0 u1 v1 e u2 ht G p;exact hK _ _ _ _ e D (Z.wide.tr ku)
 have bmU:∀{h'},Upd (· =s.bm) h9 h'→Upd s.M h9 h':=fun u=>u.mono fun y (e:y=s.bm)=>.inl (e▸hbm)
 have nmU:∀{h'},Upd (· =s.nm) h9 h'→Upd s.M h9 h':=fun u=>u.mono fun y (e:y=s.nm)=>.inl (e▸hnm)
 have xpU:∀{h1 h2},Upd (· =xp) h1 h2→Upd (RW xg xp q) h1 h2:=fun u=>u.mono fun y (e:y=xp)=>.inl (.inr (.inl e))
 have mm:∀y,s.M y→s.M y:=fun _ h=>h
 have zz:∀{h'},Upd No h9 h'→K true h':=fun k=>hK _ s q U (.names s.B s.G) ((f.upd0 k).more (i5 n)) (Z.tr k).wide
 have same:∀{h1 h2},Upd No h9 h1→Upd (· =xp) h1 h2→Rn (DW X s xg xp q) h2 xp xg s.kind s.x re q→K true h2:=fun k u G=>fin (s':=s) (q':=q) k.wide (f.v.upd0 k) (.names s.B s.G) (xpU u) (by rfl) G (g.p.more (i5 n))
 refine⟨_,vc C 0,by decide,CondP.intro (fun _=>?_) fun _=>CondP.intro (fun _=>?_) fun _=>CondP.intro (fun _=>?_) fun _=>CondP.intro (fun _=>?_) fun _=>CondP.intro (fun _=>?_) fun _=>?_⟩
 ·
  refine⟨_,rfl,_,vc b 0,_,vc C 5,_,rfl,_,vc b 1,_,vc C 5,yU f.v m1 _ fun h18 H L=>?_⟩
  have w:=bmU H;refine⟨vc (aM w mm) 5,vc (V w mm) 1,ML (f.f1 w) hL x (fun p hp=>(g.p.hb p hp).2) hm1 g.p.nb fun P s' E G=>?_⟩
  have:=fin w L (.names _ s.G) (xpU E) (by rfl) G (g.p.create hm1);rw[g.p.eL,beq_self_eq_true];exact this
 ·
  refine⟨_,rfl,_,vc b 0,_,rfl,_,vc b 1,MX f.v (fun e h18 H L=>?_) fun e=>?_⟩
  ·have w:=bmU H
   refine⟨vc (V w mm) 1,EA (f.f1 w) x (fun i hi I P s' E G=>fin w L (.names _ s.G) (xpU E) (by rfl) G (g.p.remove hi I)) fun hno=>?_⟩
   rw[g.p.nb.no hno]at e;cases e
  ·refine⟨vc b 1,EA f.f x (fun i hi I=>?_) fun _ P E G=>same (Upd.refl _ _) E G⟩
   rw[←I,g.p.nb.at hi]at e;cases e
 ·
  refine⟨_,rfl,_,vc b 0,_,vc C 5,_,rfl,_,vc b 1,_,vc C 5,Uq f.v fun h18 H L=>?_⟩
  have w:=nmU H;refine⟨vc (aM w mm) 5,vc (V w mm) 1,Ug (f.f1 w) hL hnT (fun p hp=>(g.p.ht p hp).2) hm1 g.p.ng fun P s' E G=>?_⟩
  have:=fin w L (.names s.B _) (xpU E) (by rfl) G (g.p.tag hm1);rw[g.p.eL,beq_self_eq_true];exact this
 ·
  refine⟨_,rfl,_,vc b 0,_,rfl,_,vc b 1,P1 f.v (fun e h18 H L=>?_) fun e=>?_⟩
  ·have w:=nmU H
   refine⟨vc (V w mm) 1,Hp (f.f1 w) hnT (fun i hi I P s' E G=>fin w L (.names s.B _) (xpU E) (by rfl) G (g.p.untag hi I)) fun hno=>?_⟩
   rw[g.p.ng.no hno]at e;cases e
  ·refine⟨vc b 1,Hp f.f hnT (fun i hi I=>?_) fun _ P E G=>same (Upd.refl _ _) E G⟩
   rw[←I,g.p.ng.at hi]at e;cases e
 ·
  refine⟨_,rfl,_,vc b 0,_,vc C 5,_,rfl,_,vc b 1,_,vc C 5,GT f.v (fun e h18 A=>?_) (fun hd e hv h18 A=>?_) (fun hd e hv hu h18 A=>?_) fun hd e hv hu h18 H L=>?_⟩
  ·exact⟨vc (A.get0 C) 5,vc (A.get0 b) 1,GO (f.upd0 A).f x (g.p.nb.miss e) fun P k20=>zz (A.tr k20)⟩
  ·obtain⟨i,hi,I,ev⟩:=g.p.nb.hit e
   exact⟨vc (A.get0 C) 5,vc (A.get0 b) 1,vq (f.upd0 A).f gd hL x hi g.p.nb.up I (fun _ P k20=>zz (A.tr k20)) (fun h=>absurd (g.p.eL▸h) hv) fun h=>absurd (g.p.eL▸h) hv⟩
  ·obtain⟨i,hi,I,ev⟩:=g.p.nb.hit e
   exact⟨vc (A.get0 C) 5,vc (A.get0 b) 1,vq (f.upd0 A).f gd hL x hi g.p.nb.up I (fun h=>absurd hv (g.p.eL▸h)) (fun _ _ P k20=>zz (A.tr k20)) fun _ h=>absurd (by rw[g.p.eL,ev]at h;exact h) hu⟩
  ·obtain⟨i,hi,I,ev⟩:=g.p.nb.hit e
   exact⟨vc (aM H mm) 5,vc (V H mm) 1,vq (f.f1 H) gd hL x hi g.p.nb.up I (fun h=>absurd hv (g.p.eL▸h)) (fun _ h=>absurd (by rw[g.p.eL,ev];exact hu) h) fun _ _ P s' E G=>fin H L (.names _ s.G) (xpU E) (by rfl) G (g.p.head hi I hv)⟩
 ·
  refine Join.intro (fun _ h'=>h'=h9) (fun R hR=>CondP.intro (fun _=>hR _ _ rfl) fun _=>hR _ _ rfl) ?_
  rintro t h59 e59;rw[e59];refine CondP.intro (fun _=>?_) fun _=>CondP.intro (fun _=>?_) fun _=>?_
  ·
   refine⟨_,rfl,_,vc b 0,_,vc C 9,?_⟩;obtain⟨p,ep⟩:∃p,p=a.2.2.2.2.2.2.2.2.2:=⟨_,rfl⟩;have a9p:∀{h'},h'[h.size]? =some (.cells (Cj a).toArray 35 (0,0))→aK h' (adr (aL h) 9)=some (.int .i64 p):=fun e=>by rw[ep];exact vc e 9
   rw[←ep];have hD:q.D.length≤100000:=by have:=g.p.dl;omega
   have hnx:0≤q.nx:=by have:=g.v.inv.nx1;rw[g.p.en];omega
   have nil:∀{h'},Sl sP 7 No h' ⟨none,0,0⟩ []:=Sl.nil Ka;cases e1:bC s.B m1 with
   |none=>exact EM f.v (.inl e1) ⟨_,rfl,_,vc b 1,_,a9p C,EB f.f x (.inl (g.p.nb.miss e1)) fun h69 J=>nL (l:= []) nil nil (by simp) fun h k=>zz (J.tr k)⟩
   |some va=>
   cases e2:bC s.B m2 with
   |none=>exact EM f.v (.inr e2) ⟨_,rfl,_,vc b 1,_,a9p C,EB f.f x (.inr (g.p.nb.miss e2)) fun h69 J=>nL (l:= []) nil nil (by simp) fun h k=>zz (J.tr k)⟩
   |some vb=>
   obtain⟨i,hi,I,ev⟩:=g.p.nb.hit e1;obtain⟨j,hj,ej,ew⟩:=g.p.nb.hit e2;have c1:(q.B[j].2=0∨UpG q.L q.B[i].2 q.B[j].2)↔(vb=0∨UpG s.L va vb):=by rw[g.p.eL,ev,ew]
   have c2:(q.B[i].2=0∨UpG q.L q.B[j].2 q.B[i].2)↔(va=0∨UpG s.L vb va):=by rw[g.p.eL,ev,ew]
   by_cases Y:p<0∨3<p
   ·exact MZ f.v e1 e2 Y ⟨_,rfl,_,vc b 1,_,a9p C,uy f.f g.v.kd gd hnx g.p.nd hL hD x hi hj g.p.nb.up I ej (fun _ h69 J=>nL (l:= []) nil nil (by simp) fun h k=>zz (J.tr k)) (fun _ _=>absurd Y (by omega)) (fun _ _=>absurd Y (by omega)) fun _ _=>absurd Y (by omega)⟩
   have p0:0≤p:=by omega
   have p3:p≤3:=by omega
   have hnm':((CQ p).toList==(⟨#[]⟩:ByteArray).toList)=false:=by rw[dI,decide_eq_false (zl p0 p3)]
   by_cases f1:vb=0∨UpG s.L va vb
   ·refine yT f.v e1 e2 hnm' (.inl f1) (fun _ h64 Q=>⟨_,rfl,_,vc (Q.get0 b) 1,_,a9p (Q.get0 C),uy (f.upd0 Q).f g.v.kd gd hnx g.p.nd hL hD x hi hj g.p.nb.up I ej (fun h=>absurd h Y) (fun _ _ _ h69 J=>?_) (fun _ _ h=>absurd (c1.2 f1) h) fun _ _ h=>absurd (c1.2 f1) h⟩) fun h=>absurd f1 h
    rw[ev];exact nL (l:= []) nil nil (by simp) fun h k=>zz ((Q.tr J).tr k)
   by_cases f2:va=0∨UpG s.L vb va
   ·refine yT f.v e1 e2 hnm' (.inr f2) (fun h=>absurd h f1) fun _ h64 S v64=>⟨_,rfl,_,vc (V S mm) 1,_,a9p (aM S mm),uy (f.f1 S) g.v.kd gd hnx g.p.nd hL hD x hi hj g.p.nb.up I ej (fun h=>absurd h Y) (fun _ _ h=>absurd (c1.1 h) f1) (fun _ _ _ _ h69 s' u69 G=>?_) fun _ _ _ h=>absurd (c2.2 f2) h⟩
    rw[ew]at G⊢;refine nL (l:= []) nil nil (by simp) fun h2 k2=>?_
    have hv:vb=0∨vb∈dF s.L:=ew▸(g.p.hb _ (aH hj)).1;obtain⟨D,ku⟩:=f.fin0 S v64 (.names _ s.G) (xpU u69) (by rfl) G (g.p.head hi I hv);exact hK _ _ _ _ (.names _ s.G) (D.upd0 k2) (Z.wide.tr (ku.tr k2.wide))
   have na:va≠0:=fun e=>f2 (.inl e)
   have nb:vb≠0:=fun e=>f1 (.inl e)
   have ma:va∈dF s.L:=(ev▸(g.p.hb _ (aH hi)).1:va=0∨va∈dF s.L).resolve_left na;have mb:vb∈dF s.L:=(ew▸(g.p.hb _ (aH hj)).1:vb=0∨vb∈dF s.L).resolve_left nb;have get:∀{id},id∈dF s.L→∃d,bC s.D id=some d:=fun{id} hm=>by
    cases e:bC s.D id with
    |none=>exact absurd ((g.v.sub id).2 hm) (dN.1 e)
    |some d=>exact⟨d,rfl⟩
   obtain⟨O,hO⟩:=get ma;obtain⟨T,hT⟩:=get mb;have F:=g.p.ul;obtain⟨xO,kO⟩:=g.base (.inr ⟨na,hO⟩) (.inr ma);obtain⟨xT,kT⟩:=g.base (.inr ⟨nb,hT⟩) (.inr mb);have metQ:∀{o},Met s.L va vb o→Met q.L q.B[i].2 q.B[j].2 o:=fun m=>by rw[g.p.eL,ev,ew];exact m
   have bs:∀{o B},Met s.L va vb o→vR s o B→IR q o B∧Kin U B.2:=fun m hB=>g.base hB (m.2.1.imp (fun h=>h) fun h=>h.1.right)
   refine MY f.v e1 e2 p0 p3 f1 f2 hO hT (N:=n) (by omega) (fun d hd=>(g.p.kin d (g.p.ed d hd)).few F) (fun o B m hB=>⟨XQ ((bs m hB).2.few F) (kT.few F) (by omega) (by omega),fun c _=>Xg _ _⟩) (fun o B m hB e0 hne h64 s1 o1 Q=>?_) fun o B m hB hc h64 t1 s1 o1 S v64=>?_
   ·refine⟨_,rfl,_,vc (Q.get0 b) 1,_,a9p (Q.get0 C),uy (f.upd0 Q).f g.v.kd gd hnx g.p.nd hL hD x hi hj g.p.nb.up I ej (fun h=>absurd h Y) (fun _ _ h=>absurd (c1.1 h) f1) (fun _ _ _ h=>absurd (c2.1 h) f2) fun _ _ _ _=>⟨o,B,O,T,n,sY,metQ m,(bs m hB).1,ev.symm▸xO,ew.symm▸xT,(bs m hB).2.few F,kO.few F,kT.few F,by omega,fun _ _ h69 s2 o2 J=>?_,fun h=>absurd (h e0) hne⟩⟩
    exact nL ((o1.upd J fun _ _ h=>h).sl (W:=No) fun _ _ _ h=>h) o2 (by rw[bS];exact by have:=Mb (O:=O.2) (p:=p) (bs m hB).2.up kT.up;have:=((bs m hB).2.few F).len;have:=(kT.few F).len;omega) fun h k=>zz ((Q.tr J).tr k)
   ·have kml:Kin U (is B.2 O.2 T.2 p):=(bs m hB).2.merge kO kT p
    refine⟨_,rfl,_,vc (V S mm) 1,_,a9p (aM S mm),uy (f.f1 S) g.v.kd gd hnx g.p.nd hL hD x hi hj g.p.nb.up I ej (fun h=>absurd h Y) (fun _ _ h=>absurd (c1.1 h) f1) (fun _ _ _ h=>absurd (c2.1 h) f2) fun _ _ _ _=>⟨o,B,O,T,n,t1,metQ m,(bs m hB).1,ev.symm▸xO,ew.symm▸xT,(bs m hB).2.few F,kO.few F,kT.few F,by omega,fun e0 hne=>absurd (hc e0) hne,fun _ h69 r2 s2 ts sB o2 u69 ht G=>?_⟩⟩
    rw[ev,ew]at G⊢;rw[g.p.eL,g.p.en,KO];obtain⟨D,ku⟩:=f.fin S v64 (.ver m1 (t1,is B.2 O.2 T.2 p) (nz [va,vb])) u69 (fun y hy=>OT ht hy) G (g.p.ver g.v.inv hi I kml (fun y hy=>hy) (by omega))
    have en:∀h2,Upd No h69 h2→K true h2:=fun h2 k2=>hK _ _ _ _ (.ver m1 (t1,is B.2 O.2 T.2 p) (nz [va,vb])) (D.upd0 k2) (Z.wide.tr (ku.tr k2.wide))
    have o1':=o1.upd u69 fun y hy hr=>absurd (f.lt y (.inr (.inl hr))) (Nat.not_lt.2 hy)
    by_cases e0:(eZ s.L s.nx (nz [va,vb])).1.2=0
    ·rw[if_pos e0,if_pos e0]
     exact nL (o1'.sl (W:=No) fun _ _ _ h=>h) o2 (by rw[bS];exact by have:=Mb (O:=O.2) (p:=p) (bs m hB).2.up kT.up;have:=((bs m hB).2.few F).len;have:=(kT.few F).len;omega) en
    ·rw[if_neg e0,if_neg e0]
     exact nL (l:= []) nil nil (by simp) en
  ·
   refine⟨_,rfl,_,vc b 0,_,rfl,_,vc b 1,BH f.v g.p.nb g.p.ng (by have:=g.p.bl;omega) (by have:=g.p.tl;omega) fun h112 s1 st1 hst1 o1 v1 u1=>⟨vc (V u1 mm) 1,PZ (f.f1 u1) gd (by have:=g.p.bl;omega) (by have:=g.p.tl;omega) fun h114 s2 st2 hst2 o2 G u2=>?_⟩⟩
   have est:∀y,y∈st2↔y∈st1:=fun y=>by rw[hst1,hst2,g.p.eL]
   have exg:=g.lt xg (.inr (.inl (.inl rfl)));have o1':=o1.upd u2 fun y hy e=>by have e:y=xg:=e;omega
   have e1:((dF q.L).filter fun y=> !decide (y∈st2))=(dF s.L).filter fun y=> !decide (y∈st1):=by
    rw[g.p.eL];exact ef fun y _=>by simp only[est]
   have e2:(q.L.filter fun v=>decide (v.1∈st2))=q.L.filter fun v=>decide (v.1∈st1):=ef fun y _=>by simp only[est]
   rw[e1]at o2;rw[e2]at G;refine Te (o1'.sl (W:=No) fun _ _ _ h=>h) o2 (aW (bF ..) (by rw[bS,←g.p.eL];omega)) ?_
   rw[decide_eq_true rfl];exact fin u1 v1 (.prune st1) (u2.mono fun y (e:y=xg)=>.inl (.inl e)) (by rfl) G (g.p.prune hst1)
  ·refine⟨_,vc C 0,_,vc C 1,_,vc C 2,_,vc C 3,_,vc C 4,_,vc C 5,_,vc C 6,_,vc C 7,_,vc C 8,_,vc C 9,?_⟩
   exact Mc (a:=a) f hn b hX fun h' s' q' U' e D k=>hK h' s' q' U' e D (Z.wide.tr k)
end
end Go.Proofs
namespace Go.Proofs
open Go Go.Lift
end Go.Proofs
namespace Go.Proofs
open Go Go.Lift
theorem Nw{x:Hs}{h:ad}{kind:Int}(j:kind=0∨kind=1){K:Option Addr×Int→ad→Prop}(u:∀h' re xg xp,RefIs No h' kind x re []→h'[xg]? =some (.cells #[.slice none 0 0,.int .u32 1] 117 (0,0))→h'[xp]? =some (.cells (sN re++ [Value.pointer (some ⟨xg,0,none⟩),.slice none 0 0,.slice none 0 0,.slice none 0 0]).toArray 121 (0,0))→h.size≤xg→xg<xp→Upd No h h'→K (some ⟨xp,0,none⟩,0) h'):
  XJ 16 [.int .i64 kind,.agg #[.int .u64 x.k0,.int .u64 x.k1,.int .u64 x.mask]] K h:=by
 refine cW (IC kind (x.k0,x.k1,x.mask)) .nil Tryz.func16 Tryz.call16 ?_;dsimp only[IC,nv,Ei,BG,qR,mL,jg,dM,wL,aY,aj,mc];refine ba fun y b1 k1=>⟨_,vc b1 0,_,vc b1 1,_,vc b1 2,?_⟩
 refine Pd (W:=No) (x:=x) j fun v r t q=>?_
 refine ba fun w p s=>cn (c:=sN O9) (vs:=sN r) p rfl fun o f n=>ag.2 ⟨_,vc f 0,_,vc f 1,_,vc f 2,_,vc f 3,r.2.2.2.2,vc f 4,?_⟩
 have e:Upd No v o:=s.own n (ai _);have b:=(k1.tr q).tr e;refine ba fun k d g=>ba fun m i a=>u m r o.size k.size (t.upd0 ((e.tr g).tr a)) (a.get0 d) i b.size (bw d) ((b.tr g).tr a)
theorem NJ{x:Hs}{h:ad}{kind:Int}(j:kind=0∨kind=1){K:Option Addr→ad→Prop}
  (R:∀h' st p m o re s q,s.kind=kind→s.x=x→Dz (· =st) h.size h' p m o re s q [] 0→h'[st]? =some (.cells #[.pointer (some ⟨p,0,none⟩),.pointer (some ⟨m,0,none⟩)] 41 (0,0))→h.size≤st→s.L= []→Upd No h h'→K (some ⟨st,0,none⟩) h'):
  eT 6 [.int .i64 kind,.agg #[.int .u64 x.k0,.int .u64 x.k1,.int .u64 x.mask]] K h:=by
 refine cW (GF kind (x.k0,x.k1,x.mask)) OI Tryz.func6 Tryz.call6 ?_;dsimp only[GF,Ei,BG,pg0,kq,mc,aj];refine ba fun A b1 k1=>⟨_,vc b1 0,_,vc b1 1,_,vc b1 2,?_⟩
 have X:=k1.size;refine OU (W:=No) (x:=x) (fun _ h=>h.elim) j fun F p gp gm tm bm nm t v Y T u=>?_
 have C:=u.get0 b1;refine⟨_,vc C 0,_,vc C 1,_,vc C 2,?_⟩;refine So fun L n=>Nw (x:=x) j fun b re o m H I D U O g=>?_
 refine Join.plain (ag.2 (ag.2 (ba fun B f c=>?_)))
 have d:=(n.tr g).tr c;have V:=u.size;have Q:=n.size;have G:=bw D;have J:=c.size;have N:=bw f;have k:∀y,VS.M ⟨gp,gm,tm,bm,nm,kind,x,t,[],1,[],[],[]⟩ y→A.size≤y∧y<F.size:=fun y a=>⟨T y a,v.size a⟩
 obtain⟨P,w,E,S⟩:=H;have e:∀y,RW o m ⟨[],1,[],[],⟨none,0,0⟩,⟨none,0,0⟩,⟨none,0,0⟩,[],[]⟩ y→F.size≤y∧y<b.size:=fun y a=>by
  rcases a with rfl|rfl|a
  ·omega
  ·omega
  ·exact absurd a (RY y)
 refine R B b.size p m o re ⟨gp,gm,tm,bm,nm,kind,x,t,[],1,[],[],[]⟩ ⟨[],1,[],[],⟨none,0,0⟩,⟨none,0,0⟩,⟨none,0,0⟩,[],[]⟩ rfl rfl ⟨v.re d (fun _ h=>h.elim) (fun y a=>?_) fun _=>.inl,?_,fun y a z=>?_,fun y a=>?_,?_,fun y a=>?_⟩ f (by have:=g.size;omega) rfl ((k1.tr u).tr d)
 ·rcases a with a|a|a
  ·exact⟨.inl (.inr a),by have:=k y a;omega⟩
  ·exact⟨.inr (e y a).1,by have:=e y a;omega⟩
  ·have a:y=b.size:=a
   exact⟨.inr (by omega),by omega⟩
 ·refine⟨⟨⟨⟨none,0,0⟩,_,[],c.get0 I,Sl.nil KM,trivial,ai _⟩,.inr (.inl (.inl rfl)),fun y a=>?_⟩,.inr (.inl (.inr (.inl rfl))),by omega,c.get0 D,⟨P,w,⟨E.len,E.ne,fun h=>absurd rfl h⟩,S⟩,OwnS.nil Uw,fun y a=>absurd a (RY y),Sl.nil rI,ai _,Sl.nil rI,ai _,rfl,fun i A _=>by cases A⟩
  rcases a with a|a|a
  ·have:=k y a;omega
  ·have:=e y a;omega
  ·have a:y=b.size:=a
   omega
 ·have:=k y a;have:=e y z;omega
 ·have a:y=b.size:=a
  exact⟨fun hm=>by have:=k y hm;omega,fun z=>by have:=e y z;omega⟩
 ·exact⟨rfl,rfl,.nil,.nil,fun _ h=>(by cases h),cf,fun _ h=>(by cases h),fun _ h=>(by cases h),aN _,aN _,fun _ h=>(by cases h),fun _ h=>(by cases h),aN _,aN _⟩
 ·rcases a with a|a
  ·have:=k y a;omega
  ·have:=e y a;omega
theorem Wm{h:ad}{a:VC}{k:ad→Prop}(i:∀h',h'[h.size]? =some (.cells (Cj a).toArray 35 (0,0))→Upd No h h'→k h'):
  At (hnew h [.int .u8 0,.string (⟨#[]⟩:ByteArray),.string (⟨#[]⟩:ByteArray),.int .u8 0,.int .u8 0,.int .u32 0,.string (⟨#[]⟩:ByteArray),.string (⟨#[]⟩:ByteArray),.bool false,.int .i64 0] 35) fun b=>pk b (some (aL h)) 0 (Cj a)∧At (eN b (aL h) 0 (Cj a)) k:=
 ba fun _ d j=>cn (c:= [.int .u8 0,.string ⟨#[]⟩,.string ⟨#[]⟩,.int .u8 0,.int .u8 0,.int .u32 0,.string ⟨#[]⟩,.string ⟨#[]⟩,.bool false,.int .i64 0]) (vs:=Cj a) d rfl fun f g e=>i f g (j.own e (ai _))
theorem Vr(a:VC):(Cj a).length=10∧0<10:=⟨rfl,by omega⟩
theorem UpG.keep{L:cT}{st:List Int}{a b:Int}(u:UpG L a b):(∀z,UpG L a z→z∈st)→UpG (L.filter fun v=>decide (v.1∈st)) a b:=by
 have mem:∀{a},a∈dF L→a∈st→a∈dF (L.filter fun v=>decide (v.1∈st)):=fun{a} h c=>by
  obtain⟨v,hv,e⟩:=aP.1 h;exact aP.2 ⟨v,bE.2 ⟨hv,decide_eq_true (e▸c)⟩,e⟩
 induction u with
 |refl h=>exact fun c=>.refl (mem h (c _ (.refl h)))
 |step h hp u ih=>
  rename_i a p b;intro c;have d:=c _ (.refl h);refine .step (p:=p) (mem h d) ?_ (ih fun z f=>c z (.step h hp f))
  unfold parV at hp⊢;rw[rk (fun j=>decide (j∈st)),if_pos (decide_eq_true d)]
  exact hp
end Go.Proofs
namespace Go.Proofs
open Go Go.Lift
theorem Ol{β:Type}(p:Int→Bool):∀(L:List (Int×β)) (j:Int),bC (L.filter fun v=>p v.1) j=if p j then bC L j else none
 | [],j=>by simp[bC]
 |v::L,j=>by
  rw[List.filter_cons];by_cases a:p v.1=true
  ·rw[if_pos a]
   unfold bC;by_cases e:j=v.1
   ·rw[if_pos e,if_pos e,if_pos (by rw[e];exact a)]
   ·rw[if_neg e,if_neg e];exact Ol p L j
  ·rw[if_neg a,Ol p L j]
   conv=>rhs;unfold bC
   by_cases e:j=v.1
   ·rw[if_pos e,if_neg (by rw[e];exact a),if_neg (by rw[e];exact a)]
   ·rw[if_neg e]
set_option maxHeartbeats 4000000 in
theorem EL{h:ad}{k:Int}{x:Hs}{sl:SliceV}{f:List VC}(hs:Sl Cj 10 No h sl f)(hl:f.length≤9223372036854775807)(hr:∀a∈f,0≤a.2.2.2.1∧0≤a.2.2.2.2.1)(hk0:0≤k)(hk1:k≤255):
  fI 3 [.int .u8 k,.agg #[.int .u64 x.k0,.int .u64 x.k1,.int .u64 x.mask],.slice sl.a sl.len sl.cap] (fun b h'=>b=true∧Upd No h h') h:=by
 refine cW (tV k (x.k0,x.k1,x.mask) sl) Bx Tryz.func3 Tryz.call3 ?_;dsimp only[tV,te,Pb,dR,gn,dg,cZ,gl,nv,Ei,BG,zl1,vl1,X5,Ez,Rl,Ef,sL,ux,tf,RD,rz,cB,fQ,jA,mc,aj,vN,cH,Mo,Vu,aY,rG,bi,gI];have hkk:=Xt hk0 hk1;generalize ac .i64 (fW k 2)=kind at hkk;have lsl:=hs.len;refine ba fun h1 b1 k1=>Oh fun h3 k3=>ag.2 ⟨by decide,?_⟩
 have c3:=k3.get0 b1;have k13:=k1.tr k3;have s3:=k13.size;refine⟨_,vc c3 0,_,vc c3 1,_,vc c3 2,NJ (x:=x) hkk fun h8 st vp xp xg re s q _ _ D8 b8 zst _ k8=>ag.2 ?_⟩
 refine LoopP.ghost (fun(g:Nat×VS×RS×List ByteArray) (t:Int) h'=>t=(g.1:Int)∧g.1≤f.length∧Dz (· =st) h3.size h' vp xp xg re g.2.1 g.2.2.1 g.2.2.2 (min g.1 30)∧h'[st]? =some (.cells #[.pointer (some ⟨vp,0,none⟩),.pointer (some ⟨xp,0,none⟩)] 41 (0,0))∧Upd No h h') (fun g=>f.length-g.1) (0,s,q,[]) ⟨rfl,aN _,D8,b8,k13.tr k8⟩ ?_
 rintro I ⟨i,s,q,U⟩ t h11 ⟨rfl,hi,D,bs,T⟩ hI;(try simp only at hi D hI⊢)
 have s11:=T.size;refine ao (fun w=>?_) fun hge=>?_
 ·have w:i<f.length:=by omega
  obtain⟨a,ha,_,hv⟩:=(hs.upd T fun _ h=>h.elim).at (af w)
  obtain⟨ra,rb⟩:=hr _ (aH w);refine Join.intro (fun _ h'=>∃s' q' U',Dz (· =st) h3.size h' vp xp xg re s' q' U' (min (i+1) 30)∧h'[st]? =some (.cells #[.pointer (some ⟨vp,0,none⟩),.pointer (some ⟨xp,0,none⟩)] 41 (0,0))∧Upd No h h') (fun R hR=>⟨⟨by omega,by omega⟩,a,ha,_,hv 0 _ rfl,_,hv 1 _ rfl,_,hv 2 _ rfl,_,hv 3 _ rfl,_,hv 4 _ rfl,_,hv 5 _ rfl,_,hv 6 _ rfl,_,hv 7 _ rfl,_,hv 8 _ rfl,_,hv 9 _ rfl,?_⟩) ?_
  ·refine Wm (a:=f[i]) fun h25 A H=>ao (fun h30=>⟨_,vc A 0,_,vc A 1,_,vc A 2,_,vc A 3,_,vc A 4,_,vc A 5,_,vc A 6,_,vc A 7,_,vc A 8,_,vc A 9,?_⟩) fun h30=>?_
   ·have e1:min i 30=i:=bZ (by omega)
    have e2:min (i+1) 30=i+1:=bZ (by omega);rw[e1]at D;rw[e2]at hR;refine Vd (a:=f[i]) (D.upd0 H) (by omega) (H.get0 bs) rfl ra rb fun h37 s' q' U' _ D' u=>hR _ _ ⟨s',q',U',D',u.get (H.get0 bs) fun hm=>hm.elim (D.xd st rfl).1 (D.xd st rfl).2,(T.tr H).fresh u fun y J=>by have:=D.lo y J;omega⟩
   ·rw[Nat.min_eq_right (by omega)]at D hR
    exact hR _ _ ⟨s,q,U,D.upd0 H,H.get0 bs,T.tr H⟩
  ·rintro _ h39 ⟨s',q',U',D',b',k'⟩
   rw[kX w hl];exact hI (i+1,s',q',U') _ _ ⟨rfl,w,D',b',k'⟩ (by(try simp only);omega)
 have hm30:min i 30≤30:=Nat.min_le_right ..;have hbl:=D.p.bl;have htl:=D.p.tl;have fw:=D.v.inv.few;have gd:=D.v.inv.good;refine⟨_,rfl,_,vc bs 0,P3 D.v fun h43 V gr=>⟨_,rfl,_,vc (V.get0 bs) 0,BH (D.upd0 V).v D.p.nb D.p.ng (by omega) (by omega) fun h47 s1 Q K o1 v1 u1=>?_⟩⟩
 have lM:∀y,s.M y→y<h11.size:=fun y J=>D.v.size J
 have gr47:=gr.upd u1 fun y J=>.inl ⟨.inl (.inl J),by have:=lM y J;omega,by have:=lM y J;omega⟩
 have s43:=V.size;have s47:=u1.size;have bs47:=u1.get (V.get0 bs) fun hm=>(D.xd st rfl).1 hm
 have k047:Upd No h h47:=(T.tr V).fresh u1 fun y J=>by have:=D.lo y (.inl J);omega
 refine PD gr47 gd.up (by omega) fun s2 h49 o2 k49=>?_
 have lo2:=o2.len;have lids:(dF s.L).length≤1024:=by rw[bS];exact fw
 obtain⟨gone,eg⟩:∃g,g=(dF s.L).filter fun y=> !decide (y∈Q):=⟨_,rfl⟩
 rw[←eg]at o1;have lg:gone.length≤1024:=by rw[eg];exact aW (bF ..) lids
 refine LoopP.ghost (fun(i:Nat) (t:Int) h'=>t=(i:Int)∧i≤(dF s.L).length∧Upd No h49 h') (fun i=>(dF s.L).length-i) 0 ⟨rfl,aN _,Upd.refl _ _⟩ ?_
 rintro I2 j t h52 ⟨rfl,hj,k52⟩ hI2;have G:=k49.tr k52;have vv:=v1.upd0 G;have L:=G.get0 bs47;refine ao (fun w=>?_) fun hge=>?_
 ·have w:j<(dF s.L).length:=by omega
  obtain⟨a,ha,_,hx⟩:=Nums.at ((o2.sl (W:=No) fun _ _ _ h=>h).upd k52 fun _ h=>h.elim) w
  obtain⟨id,eid⟩:∃id,id=(dF s.L)[j]:=⟨_,rfl⟩;have mid:id∈dF s.L:=eid▸aH w;have pid:=D.v.inv.pos id mid;refine⟨⟨by omega,by omega⟩,a,ha,_,hx,?_⟩
  rw[←eid];refine Join.plain ⟨_,rfl,_,vc L 0,_,rfl,_,vc L 0,Jf vv D.p.nb (by omega) fun h61 s60 o60 k61=>⟨vc (k61.get0 L) 0,RG (vv.upd0 k61) D.p.ng (by omega) fun h63 s62 o62 k63=>?_⟩⟩
  have s61:=k61.size;have s63:=k63.size;refine Hd (o60.upd k63 fun _ _ h=>h) (c:=s62.cap) (o62.sl (W:=No) fun _ _ _ h=>h) (by omega) (by omega) fun s65 h66 o65 u65=>?_
  have S:Upd No h52 h66:=(k61.tr k63).fresh u65 fun y J=>J
  have l65:=o65.len;have hs65:Sl vZ 2 No h66 s65 (q.B++q.T):=o65.sl fun _ _ _ h=>h
  refine LoopP.ghost (fun(m:Nat) (t:Bool×Int) h'=>t.2=(m:Int)∧m≤(q.B++q.T).length∧(t.1=true↔∃p∈(q.B++q.T).take m,UpG s.L p.2 id)∧Upd No h66 h') (fun m=>(q.B++q.T).length-m) 0 ⟨rfl,aN _,by simp,Upd.refl _ _⟩ ?_
  rintro I3 m ⟨O,t⟩ X ⟨et,hm,o,k71⟩ hI3;(try simp only at et o)
  subst et;have E:=G.tr (S.tr k71);refine ao (fun B=>?_) fun hge3=>?_
  ·have B:m<(q.B++q.T).length:=by(try simp only at B);omega
   obtain⟨a3,ha3,_,hv3⟩:=(hs65.upd k71 fun _ h=>h.elim).at (af B)
   have lbt:(q.B++q.T).length≤60:=by rw[List.length_append];omega
   refine Join.intro (fun b h'=>(b=true↔∃p∈(q.B++q.T).take (m+1),UpG s.L p.2 id)∧Upd No X h') (fun R hR=>⟨⟨by(try simp only);omega,by(try simp only);omega⟩,a3,ha3,_,hv3 0 _ rfl,_,hv3 1 _ rfl,ba fun h76 b76 k76=>cn (c:= [.string ⟨#[]⟩,.int .u32 0]) (vs:=vZ (q.B++q.T)[m]) b76 rfl fun h77 b77 u77=>?_⟩) ?_
   ·have k77:Upd No X h77:=k76.own u77 (ai _)
    have e3:∀P:ByteArray×Int→Prop,(∃p∈(q.B++q.T).take (m+1),P p)↔(∃p∈(q.B++q.T).take m,P p)∨P (q.B++q.T)[m]:=fun P=>by
     rw[List.take_succ_eq_append_getElem B];constructor
     ·rintro⟨p,Y,h⟩
      rcases List.mem_append.1 Y with Y|Y
      ·exact .inl ⟨p,Y,h⟩
      ·exact .inr (al.1 Y▸h)
     ·rintro(⟨p,Y,h⟩|h)
      ·exact⟨p,List.mem_append_left _ Y,h⟩
      ·exact⟨_,List.mem_append_right _ (al.2 rfl),h⟩
    refine CondP.intro (fun e=>hR _ _ ⟨?_,k77⟩) fun e=>⟨_,vc b77 1,Ia ((gr47.upd0 E).upd0 k77) gd.toSmall _ id fun b h80 hb k80=>hR _ _ ⟨?_,k77.tr k80⟩⟩
    ·rw[e3];exact⟨fun _=>.inl (o.1 e),fun _=>rfl⟩
    ·rw[e3,hb]
     exact⟨.inr,fun h=>h.resolve_left fun h=>by rw[o.2 h]at e;cases e⟩
   ·rintro b h82 ⟨hb,k82⟩
    rw[cp (n:=(q.B++q.T).length) B (by omega)];exact hI3 (m+1) _ _ ⟨rfl,B,hb,k71.tr k82⟩ (by omega)
  have em:m=(q.B++q.T).length:=by(try simp only at hge3);omega
  subst em;rw[List.take_length]at o;have o:O=true↔id∈Q:=o.trans ⟨fun⟨p,Y,h⟩=>(K id).2 ⟨p.2,aP.2 ⟨p,Y,rfl⟩,h⟩,fun h=>by
   obtain⟨k',Z,h'⟩:=(K id).1 h
   obtain⟨p,Y,e⟩:=aP.1 Z
   exact⟨p,Y,by rw[e];exact h'⟩⟩
  have v71:=v1.upd0 E;have lD:=Ol (fun j=>decide (j∈Q)) s.D id
  have fin:∀{F:ad→Prop} (tr:Tr) (e:Int) C,Upd No X C→(e=0↔id∈Q)→At (hnew C (iH sY) 53) (fun h87=>pk h87 (some (aL C)) 0 (iH tr)∧At (eN h87 (aL C) 0 (iH tr)) (fun h88=>Join (fun(t92:Bool) h93=>CondP t92 (F h93) (I2 (ac .i64 ((j:Int)+1)) h93)) (fun J89=>fI 15 [.slice s1.a s1.len s1.cap,.int .u32 id] (fun(e90:Bool) h91=>CondP (e90==O) (J89 true h91) (J89 (!((e==(0:Int))==O)) h91)) h88))):=fun{F} tr e C N he=>by
   refine ba fun h87 b87 k87=>cn (c:=iH sY) (vs:=iH tr) b87 rfl fun h88 b88 u88=>?_
   have k88:Upd No X h88:=(N.tr k87).own u88 N.size;have k4788:=E.tr k88;refine Join.intro (fun t h'=>t=false∧Upd No X h') (fun R hR=>JY ((o1.upd k4788 fun _ _ h=>h).sl (W:=No) fun _ _ _ h=>h) (by omega) id ?_) ?_
   ·have hin:decide (id∈gone)= !O:=by
     rw[eg,eJ];simp only[decide_eq_true_eq,bE,Bool.not_eq_true',decide_eq_false_iff_not];rw[←o];exact⟨fun h=>ey.2 h.2,fun h=>⟨mid,ey.1 h⟩⟩
    have h0:(e==(0:Int))=O:=by
     rw[eJ,o,←he];simp
    rw[hin,h0];refine CondP.intro (fun e=>?_) fun _=>hR _ _ ⟨by simp,k88⟩
    cases O<;>cases e
   ·rintro t h93 ⟨rfl,k93⟩
    rw[cp (n:=(dF s.L).length) w (by omega)];exact ag.2 (hI2 (j+1) _ _ ⟨rfl,w,k52.tr ((S.tr k71).tr k93)⟩ (by omega))
  refine⟨_,rfl,_,vc (E.get0 bs47) 0,KP v71 id (fun e=>absurd e (by omega)) (fun d hd _ C N=>fin d.1 0 C N ⟨fun _=>?_,fun _=>rfl⟩) fun hd _ C N=>fin sY 4 C N ⟨fun h=>absurd h (by decide),fun hm=>?_⟩⟩
  ·rw[lD]at hd
   by_cases hm:id∈Q
   ·exact hm
   ·rw[if_neg (by simpa using hm)]at hd;cases hd
  ·rw[lD,if_pos (decide_eq_true hm)]at hd
   exact absurd ((D.v.sub id).2 mid) (dN.1 hd)
 ·refine⟨_,rfl,_,vc L 0,BH vv D.p.nb D.p.ng (by omega) (by omega) fun h97 s3 st3 hst3 o3 _ u3=>⟨?_,(k047.tr G).fresh u3 fun y J=>by have:=D.lo y (.inl J);omega⟩⟩
  have l3:=o3.len;rw[List.filter_eq_nil_iff.2 fun y J=>?_]at l3
  ·rw[l3];rfl
  ·obtain⟨v,hv,e⟩:=aP.1 J
   obtain⟨_,hv2⟩:=bE.1 hv;rw[e]at hv2;obtain⟨k',Z,hu⟩:=(K y).1 (of_decide_eq_true hv2);have:y∈st3:=(hst3 y).2 ⟨k',Z,hu.keep fun z hz=>(K z).2 ⟨k',Z,hz⟩⟩
   simp[this]
end Go.Proofs
