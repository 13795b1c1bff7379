/- A part of the proof that the named laws of this program answer true, whatever the input. -/
import Derived.Test.YtncppacbfagpgaaGreatPart10
import Derived.Test.YtncppacbfagpgaaGreatPart9
import Derived.Test.YtncppacbfagpgaaGreatPart7
import Derived.Test.YtncppacbfagpgaaGreatPart4
import Derived.Sort.AssemblyPlain
open BitVec renaming ofInt→aw
open Bool renaming and_eq_true→bc
open Int renaming tdiv→ni,tdiv_eq_ediv_of_nonneg→nh
open List renaming append_nil→aG,length_nil→aB,length_cons→aj,length_append→ac,any_eq_true→bT,mem_cons_self→ar,foldl_append→qn,pairwise_cons→aA,pairwise_append→bH,take_append_drop→aE
open Nat renaming zero_le→be,le_refl→aq,lt_of_lt_of_le→ay,le_of_eq→eP
open Option renaming map_some→gQ
namespace Go.Proofs
open Go Go.Lift
theorem OI{W:Nat→Prop}{h:af}{s:SliceV}{a:Ch}{L:List Ch}(hs:Sl p5 5 W h s (a::L)):∃A,s.a=some A∧∀hX,Upd No h hX→
  (aL hX (adr (adr A (0*5)) 0)=some (.string a.1)∧aL hX (adr (adr A (0*5)) 1)=some (.string a.2.1)∧aL hX (adr (adr A (0*5)) 2)=some (.string a.2.2.1)∧aL hX (adr (adr A (0*5)) 3)=some (.bool a.2.2.2.1)∧aL hX (adr (adr A (0*5)) 4)=some (.bool a.2.2.2.2)):=by
 obtain⟨A,ha,_,hv⟩:=hs.at (i:=0) (x:=a) rfl;exact⟨A,ha,fun hX k=>⟨k.cell0 (hv 0 _ rfl),k.cell0 (hv 1 _ rfl),k.cell0 (hv 2 _ rfl),k.cell0 (hv 3 _ rfl),k.cell0 (hv 4 _ rfl)⟩⟩
abbrev UZ(h h':af)(s:SliceV)(O:List Ch):Prop:=OwnS p5 5 aO (fun y=>h.size≤y) h' s O
set_option maxRecDepth 100000 in
theorem L8{h h70:af}{t10:SliceV×SliceV×SliceV}{O:List Ch}{a b:Ch}{pa pb:Nat}{I9:SliceV×SliceV×SliceV→af→Prop}{K:SliceV×Int→af→Prop}
  (ba:h70[pa]? =some (.cells (p5 a).toArray aO (0,0))) (bb:h70[pb]? =some (.cells (p5 b).toArray aO (0,0))) (ho:UZ h h70 t10.2.2 O) (hO:O.length≤1000000) (hu:Upd No h h70) (h1:1≤t10.1.len) (h2:1≤t10.2.1.len)
  (hc:AR a b=false→K (⟨none,0,0⟩,8) h70)
  (hI:AR a b=true→∀s' h',UZ h h' s' (O++(one (SN a b)).toList)→Upd No h h'→I9 (⟨aM t10.1.a 1 t10.1.cap 5,t10.1.len-1,t10.1.cap-1⟩,⟨aM t10.2.1.a 1 t10.2.1.cap 5,t10.2.1.len-1,t10.2.1.cap-1⟩,s') h'):
  Join (fun(t76:Bool) h77=>
  CondP t76 (
  K (⟨none,0,0⟩,8) h77) (
  ∃v78:ByteArray,aL h77 (adr ⟨pa,0,none⟩ 0)=some (.string v78)∧
  ∃v79:ByteArray,aL h77 (adr ⟨pa,0,none⟩ 1)=some (.string v79)∧
  ∃v80:ByteArray,aL h77 (adr ⟨pb,0,none⟩ 2)=some (.string v80)∧
  ∃v81:Bool,aL h77 (adr ⟨pa,0,none⟩ 3)=some (.bool v81)∧
  ∃v82:Bool,aL h77 (adr ⟨pb,0,none⟩ 4)=some (.bool v82)∧
  At (hnew h77 [.string (⟨#[]⟩:ByteArray),.string (⟨#[]⟩:ByteArray),.string (⟨#[]⟩:ByteArray),.bool false,.bool false] aO) (fun h83=>
  (dq h83 (some (ag h77)) 0 [.string v78,.string v79,.string v80,.bool v81,.bool v82]∧
  At (aX h83 (ag h77) 0 [.string v78,.string v79,.string v80,.bool v81,.bool v82]) (fun h84=>
  Join (fun(t102:SliceV) h103=>
  (((0:Int)≤(1:Int)∧(1:Int)≤((t10.1.len:Nat):Int))∧
  Bd (aM t10.1.a ((1:Int).toNat) t10.1.cap 5:Option Addr) (fun a104=>Bd (t10.1.len-((1:Int).toNat):Nat) (fun n105=>Bd (t10.1.cap-((1:Int).toNat):Nat) (fun n106=>
  (((0:Int)≤(1:Int)∧(1:Int)≤((t10.2.1.len:Nat):Int))∧
  Bd (aM t10.2.1.a ((1:Int).toNat) t10.2.1.cap 5:Option Addr) (fun a107=>Bd (t10.2.1.len-((1:Int).toNat):Nat) (fun n108=>Bd (t10.2.1.cap-((1:Int).toNat):Nat) (fun n109=>
  I9 (⟨a104,n105,n106⟩,⟨a107,n108,n109⟩,t102) h103))))))))) (fun J85=>
  ∃v86:ByteArray,aL h84 (adr (ag h77) 0)=some (.string v86)∧
  ∃v87:ByteArray,aL h84 (adr (ag h77) 1)=some (.string v87)∧
  ∃v88:ByteArray,aL h84 (adr (ag h77) 2)=some (.string v88)∧
  ∃v89:Bool,aL h84 (adr (ag h77) 3)=some (.bool v89)∧
  ∃v90:Bool,aL h84 (adr (ag h77) 4)=some (.bool v90)∧
  HC PG gD [.agg #[.string v86,.string v87,.string v88,.bool v89,.bool v90]] [.c .bool] (fun(e91:Bool) h92=>
  CondP e91 (
  ∃v93:ByteArray,aL h92 (adr (ag h77) 0)=some (.string v93)∧
  ∃v94:ByteArray,aL h92 (adr (ag h77) 1)=some (.string v94)∧
  ∃v95:ByteArray,aL h92 (adr (ag h77) 2)=some (.string v95)∧
  ∃v96:Bool,aL h92 (adr (ag h77) 3)=some (.bool v96)∧
  ∃v97:Bool,aL h92 (adr (ag h77) 4)=some (.bool v97)∧
  At (hnew h92 [.string v93,.string v94,.string v95,.bool v96,.bool v97] aO) (fun h98=>
  ∃xs99,SRow h98 (some (ag h92)) (1*5) xs99∧
  AppP (some [.string (⟨#[]⟩:ByteArray),.string (⟨#[]⟩:ByteArray),.string (⟨#[]⟩:ByteArray),.bool false,.bool false]) 5 56 aO t10.2.2.a t10.2.2.len t10.2.2.cap 1 xs99 h98 (fun s100 h101=>
  J85 s100 h101))) (
  J85 t10.2.2 h92)) h84)))))) (fun J71=>
  ∃v72:Bool,aL h70 (adr ⟨pa,0,none⟩ 4)=some (.bool v72)∧
  ∃v73:Bool,aL h70 (adr ⟨pb,0,none⟩ 3)=some (.bool v73)∧
  CondP (!(v72==v73)) (
  J71 true h70) (
  ∃v74:ByteArray,aL h70 (adr ⟨pa,0,none⟩ 2)=some (.string v74)∧
  ∃v75:ByteArray,aL h70 (adr ⟨pb,0,none⟩ 1)=some (.string v75)∧
  J71 (!(v74.toList==v75.toList)) h70)):=by
 have hm:AR a b=(a.2.2.2.2==b.2.2.2.1&&decide (a.2.2.1=b.2.1)):=rfl;refine Join.intro (fun t h77=>t=(!AR a b)∧h77=h70) (fun R hR=>?_) ?_
 ·refine⟨_,vc ba 4,_,vc bb 3,?_⟩
  rw[hm]at hR;cases e:(a.2.2.2.2==b.2.2.2.1)with
  |false=>rw[e]at hR;exact au.2 (hR _ _ ⟨rfl,rfl⟩)
  |true=>rw[e]at hR;exact ak.2 ⟨_,vc ba 2,_,vc bb 1,hR _ _ ⟨by rw[dG];rfl,rfl⟩⟩
 rintro t h77 ⟨rfl,rfl⟩;cases hme:AR a b with
 |false=>exact au.2 (hc hme)
 |true=>
  have hI:=hI hme;refine ak.2 ⟨_,vc ba 0,_,vc ba 1,_,vc bb 2,_,vc ba 3,_,vc bb 4,?_⟩;refine PX (c:=SN a b) fun h84 b84 k84=>?_
  have u84:=hu.tr k84;have s77:=hu.size;refine Join.intro (fun s' h'=>UZ h h' s' (O++(one (SN a b)).toList)∧Upd No h h') (fun R hR=>?_) ?_
  ·refine⟨_,vc b84 0,_,vc b84 1,_,vc b84 2,_,vc b84 3,_,vc b84 4,?_⟩
   refine Gu (c:=SN a b) fun h92 k92=>?_
   have b92:=k92.get0 b84;have u92:=u84.tr k92;have ho92:=ho.upd (k84.tr k92) fun _ _ h=>h
   unfold one at hR;cases er:lh (SN a b)with
   |false=>
    rw[er]at hR;refine ak.2 (hR _ _ ⟨?_,u92⟩);rw[if_neg Bool.false_ne_true,Option.toList_none,aG];exact ho92
   |true=>
    rw[er]at hR;refine au.2 ⟨_,vc b92 0,_,vc b92 1,_,vc b92 2,_,vc b92 3,_,vc b92 4,?_⟩;have s92:=u92.size;refine Bj (c:=SN a b) ho92 (fun y hy=>by omega) (by omega) fun s3 h3 ho3 hu3=>hR _ _ ⟨ho3,u92.trans hu3 fun y hy=>.inr hy⟩
  ·rintro s' h' ⟨ho',u'⟩
   exact⟨⟨by omega,by omega⟩,⟨by omega,by omega⟩,hI s' h' ho' u'⟩
def F7(l m:List Ch):Int×List Ch:=if i5 l≠0 then(i5 l,[])else if i5 m≠0 then(i5 m,[])else match qv l m with|none=>(8,[])|some r=>(0,r)
set_option maxRecDepth 100000 in
set_option maxHeartbeats 1000000 in
theorem Mz{W W':Nat→Prop}{h:af}{s s':SliceV}{l m:List Ch}(hs:Sl p5 5 W h s l)(hs':Sl p5 5 W' h s' m)(hc:s.len≤s.cap)(hc':s'.len≤s'.cap)(hn:l.length≤100000)(hn':m.length≤100000)(hz:xW l)(hz':xW m){K:SliceV×Int→af→Prop}
  (hk:∀so h',UZ h h' so (F7 l m).2→Upd No h h'→K (so,(F7 l m).1) h'):HC PG xN [.slice s.a s.len s.cap,.slice s'.a s'.len s'.cap] [.c .slice,.c (.int .i64)] K h:=by
 refine MW s s' ?_;unfold Ey ae bS;refine bm fun h1 b1 k1=>?_
 have lm:=hs.len;have mm:=hs'.len;refine LoopP.ghost (fun(i:Nat) (t:Int) h'=>t=(i:Int)∧i≤2∧(1≤i→i5 l=0)∧(2≤i→i5 m=0)∧Upd No h1 h') (fun i=>2-i) 0 ⟨rfl,be _,fun h=>absurd h (by omega),fun h=>absurd h (by omega),Upd.refl _ _⟩ ?_
 rintro I i t h4 ⟨rfl,hi,r1,r2,hu⟩ hI;have b4:=hu.get0 b1;have u4:=k1.tr hu;refine ax (fun hlt=>?_) fun hge=>?_
 ·have hlt:i<2:=by omega
  have hw:IntKind.wrap .i64 ((i:Int)+1)=((i+1:Nat):Int):=by rw[cS (by omega)];omega
  rw[hw];refine⟨⟨by omega,by omega⟩,_,rfl,?_⟩
  match i,hlt with
  |0,_=>
   refine⟨s,vc b4 0,wF (hs.upd u4 fun _ h=>h.elim) (by omega) hz fun h8 k8=>?_⟩
   by_cases e:i5 l=0
   ·rw[e];exact ak.2 (hI 1 _ _ ⟨rfl,by omega,fun _=>e,fun h=>absurd h (by omega),hu.tr k8⟩ (by omega))
   ·rw[show(i5 l !=(0:Int))=true by simpa using e]
    unfold F7 at hk;rw[if_pos e]at hk;exact au.2 (hk ⟨none,0,0⟩ h8 (OwnS.nil zY) (u4.tr k8))
  |1,_=>
   have e1:=r1 (by omega);refine⟨s',vc b4 1,wF (hs'.upd u4 fun _ h=>h.elim) (by omega) hz' fun h8 k8=>?_⟩
   by_cases e:i5 m=0
   ·rw[e];exact ak.2 (hI 2 _ _ ⟨rfl,by omega,fun _=>e1,fun _=>e,hu.tr k8⟩ (by omega))
   ·rw[show(i5 m !=(0:Int))=true by simpa using e]
    unfold F7 at hk;rw[if_neg (fun h=>h e1),if_pos e]at hk
    exact au.2 (hk ⟨none,0,0⟩ h8 (OwnS.nil zY) (u4.tr k8))
 ·have e1:=r1 (by omega)
  have e2:=r2 (by omega);unfold F7 at hk;rw[if_neg (fun h=>h e1),if_neg (fun h=>h e2)]at hk
  refine LoopP.ghost (fun(g:List Ch×List Ch×List Ch) (t:SliceV×SliceV×SliceV) h'=>Sl p5 5 W h t.1 g.1∧t.1.len≤t.1.cap∧Sl p5 5 W' h t.2.1 g.2.1∧t.2.1.len≤t.2.1.cap∧UZ h h' t.2.2 g.2.2∧qv l m=(qv g.1 g.2.1).map (g.2.2++ ·)∧g.2.2.length+g.1.length+g.2.1.length≤200000∧Upd No h h') (fun g=>g.1.length+g.2.1.length) (l,m,[])
   ⟨hs,hc,hs',hc',OwnS.nil zY,by simp,by simp only[aB];omega,u4⟩ ?_
  clear hI hs hs' hc hc' hu b4 b1 r1 r2 hz hz' lm mm hn hn';rintro I2 ⟨L,M,O⟩ ⟨ts,tm,to⟩ h5 ⟨hs,hc,hs',hc',ho,ej,hlen,hu⟩ hI;simp only at hs hc hs' hc' ho ej hlen;have lm:=hs.len;have mm:=hs'.len;have s5:=hu.size;rcases L with _|⟨a,L⟩
  ·rcases M with _|⟨b,M⟩
   ·
    rw[sO,gQ,aG]at ej;rw[ej]at hk;refine Join.plain (ax (fun hlt=>absurd hlt (by rw[lm];decide)) fun _=>?_)
    simp only;rw[show decide ((tm.len:Int)>0)=false by rw[mm];rfl]
    exact ak.2 (hk _ _ ho hu)
   ·obtain⟨A,hA,cA⟩:=OI hs'
    obtain⟨c0,c1,c2,c3,c4⟩:=cA h5 hu;rw[sO,gQ]at ej;rw[aj]at mm hlen;refine Join.plain (ax (fun hlt=>absurd hlt (by rw[lm];decide)) fun _=>?_)
    simp only;rw[show decide ((tm.len:Int)>0)=true from decide_eq_true (by omega)]
    refine au.2 (Join.plain ?_);rw[show((tm.len:Int)==0)=false by rw[beq_eq_false_iff_ne];omega]
    refine ak.2 (ax (fun hlt=>absurd hlt (by rw[lm];decide)) fun _=>ak.2 (Join.plain ?_))
    rw[show((ts.len:Int)==0)=true by rw[lm];rfl]
    refine au.2 (au.2 ⟨⟨by omega,by omega⟩,A,hA,_,c0,_,c1,_,c2,_,c3,_,c4,⟨by omega,by omega⟩,?_⟩)
    refine Bj (c:=b) ho (fun y hy=>by omega) (by omega) fun s3 h3 ho3 hu3=>?_
    refine hI ([],M,O++ [b]) (ts,_,s3) h3 ⟨hs,hc,JC hs' hc',by simp only;omega,ho3,?_,by simp only[ac,aj,aB]at hlen⊢;omega,hu.trans hu3 fun y hy=>.inr hy⟩ (by simp)
    rw[sO,ej,gQ,List.append_assoc];rfl
  ·obtain⟨A,hA,cA⟩:=OI hs
   obtain⟨c0,c1,c2,c3,c4⟩:=cA h5 hu;rw[aj]at lm hlen;have takeA:qv (a::L) M=(qv L M).map (a:: ·)→(((0:Int)≤(0:Int)∧(0:Int)<((ts.len:Nat):Int))∧∃a22:Addr,ts.a=some a22∧
      ∃v23:ByteArray,aL h5 (adr (adr a22 ((0:Int).toNat*5)) 0)=some (.string v23)∧
      ∃v24:ByteArray,aL h5 (adr (adr a22 ((0:Int).toNat*5)) 1)=some (.string v24)∧
      ∃v25:ByteArray,aL h5 (adr (adr a22 ((0:Int).toNat*5)) 2)=some (.string v25)∧
      ∃v26:Bool,aL h5 (adr (adr a22 ((0:Int).toNat*5)) 3)=some (.bool v26)∧
      ∃v27:Bool,aL h5 (adr (adr a22 ((0:Int).toNat*5)) 4)=some (.bool v27)∧
      (((0:Int)≤(1:Int)∧(1:Int)≤((ts.len:Nat):Int))∧
       Bd (aM ts.a ((1:Int).toNat) ts.cap 5:Option Addr) (fun a28=>Bd (ts.len-((1:Int).toNat):Nat) (fun n29=>Bd (ts.cap-((1:Int).toNat):Nat) (fun n30=>
        At (hnew h5 [.string v23,.string v24,.string v25,.bool v26,.bool v27] aO) (fun h31=>
         ∃xs32,SRow h31 (some (ag h5)) (1*5) xs32∧
         AppP (some [.string (⟨#[]⟩:ByteArray),.string (⟨#[]⟩:ByteArray),.string (⟨#[]⟩:ByteArray),.bool false,.bool false]) 5 56 aO to.a to.len to.cap 1 xs32 h31 (fun s33 h34=>
          I2 (⟨a28,n29,n30⟩,tm,s33) h34))))))):=fun eg=>by
    refine⟨⟨by omega,by omega⟩,A,hA,_,c0,_,c1,_,c2,_,c3,_,c4,⟨by omega,by omega⟩,?_⟩
    refine Bj (c:=a) ho (fun y hy=>by omega) (by omega) fun s3 h3 ho3 hu3=>?_
    refine hI (L,M,O++ [a]) (_,tm,s3) h3 ⟨JC hs hc,by simp only;omega,hs',hc',ho3,?_,by simp only[ac,List.length_singleton];omega,hu.trans hu3 fun y hy=>.inr hy⟩ (by simp only[aj];omega)
    rw[ej,eg,Option.map_map];congr 1
    funext x;simp
   refine Join.plain ?_;simp only;rw[show decide ((ts.len:Int)>0)=true from decide_eq_true (by omega)]
   refine au.2 (au.2 (Join.plain ?_));rcases M with _|⟨b,M⟩
   ·rw[show((tm.len:Int)==0)=true by rw[mm];rfl]
    exact au.2 (au.2 (takeA (by rw[zM,zM];rfl)))
   ·obtain⟨B,hB,cB⟩:=OI hs'
    obtain⟨d0,d1,d2,d3,d4⟩:=cB h5 hu;rw[aj]at mm hlen;rw[show((tm.len:Int)==0)=false by rw[beq_eq_false_iff_ne];omega]
    refine ak.2 (au.2 ⟨⟨by omega,by omega⟩,A,hA,_,c0,⟨by omega,by omega⟩,B,hB,_,d0,?_⟩)
    refine CondP.intro (fun hb=>takeA ?_) fun hb=>?_
    ·rw[wh,if_pos (show kl a.1 b.1 from hb)]
    have hb:¬kl a.1 b.1:=fun h=>by unfold kl at h;rw[h]at hb;cases hb
    refine Join.plain ?_;rw[show((ts.len:Int)==0)=false by rw[beq_eq_false_iff_ne];omega]
    refine ak.2 ⟨⟨by omega,by omega⟩,B,hB,_,d0,⟨by omega,by omega⟩,A,hA,_,c0,?_⟩
    refine CondP.intro (fun hb2=>?_) fun hb2=>?_
    ·refine⟨⟨by omega,by omega⟩,B,hB,_,d0,_,d1,_,d2,_,d3,_,d4,⟨by omega,by omega⟩,?_⟩
     refine Bj (c:=b) ho (fun y hy=>by omega) (by omega) fun s3 h3 ho3 hu3=>?_
     refine hI (a::L,M,O++ [b]) (ts,_,s3) h3 ⟨hs,hc,JC hs' hc',by simp only;omega,ho3,?_,by simp only[ac,aj,aB];omega,hu.trans hu3 fun y hy=>.inr hy⟩ (by simp only[aj];omega)
     rw[ej,wh,if_neg hb,if_pos (show kl b.1 a.1 from hb2),Option.map_map]
     congr 1
     funext x;simp
    have hb2:¬kl b.1 a.1:=fun h=>by unfold kl at h;rw[h]at hb2;cases hb2
    rw[wh,if_neg hb,if_neg hb2]at ej;have hcf:AR a b=false→∀h6,Upd No h h6→K (⟨none,0,0⟩,8) h6:=fun hme h6 u6=>by
     rw[hme,if_neg Bool.false_ne_true]at ej;rw[ej]at hk;exact hk _ _ (OwnS.nil zY) u6
    have hok:AR a b=true→∀s' h',UZ h h' s' (O++(one (SN a b)).toList)→Upd No h h'→I2 (⟨aM ts.a 1 ts.cap 5,ts.len-1,ts.cap-1⟩,⟨aM tm.a 1 tm.cap 5,tm.len-1,tm.cap-1⟩,s') h':=fun hme s' h' ho' u'=>by
     rw[hme,if_pos rfl]at ej;refine hI (L,M,_) _ h' ⟨JC hs hc,by simp only;omega,JC hs' hc',by simp only;omega,ho',?_,?_,u'⟩ (by simp only[aj];omega)
     · rw[ej,Option.map_map]
       congr 1
       funext x;simp
     · have:(one (SN a b)).toList.length≤1:=by cases one (SN a b)<;>simp
       simp only[ac];omega
    refine⟨⟨by omega,by omega⟩,A,hA,_,c0,_,c1,_,c2,_,c3,_,c4,⟨by omega,by omega⟩,B,hB,_,d0,_,d1,_,d2,_,d3,_,d4,?_,?_⟩
    ·refine bm fun h6 b6 k6=>⟨cB _ (hu.tr k6),cA _ (hu.tr k6),bm fun h7 b7 k7=>?_⟩
     have z6:=bF b6;have z7:=bF b7;have u7:=(hu.tr k6).tr k7;have s6:=k6.size;refine⟨cB _ u7,cA _ u7,cR (c:=p5 (⟨#[]⟩,⟨#[]⟩,⟨#[]⟩,false,false)) (vs:=p5 a) (k7.get0 b6) rfl fun h8 b8 hu8=>?_⟩
     have u8:=u7.own hu8 s5;refine⟨cB _ u8,cR (c:=p5 (⟨#[]⟩,⟨#[]⟩,⟨#[]⟩,false,false)) (vs:=p5 b) (hu8.oth b7 (by omega)) rfl fun h9 b9 hu9=>?_⟩
     have u9:=u8.own hu9 (by omega);have hoo:UZ h h9 to O:=(((ho.within.upd (k6.tr k7) fun _ _ h=>h).upd hu8 fun y hy e=>by have e:y=h5.size:=e;omega).upd hu9 fun y hy e=>by have e:y=h6.size:=e;omega).more fun y hy=>hy.1
     exact L8 (h:=h) (t10:=(ts,tm,to)) (O:=O) (hu9.oth b8 (by omega)) b9 hoo (by omega) u9 (by simp only;omega) (by simp only;omega) (fun hme=>hcf hme _ u9) hok
    ·refine bm fun h6 b6 k6=>⟨cB _ (hu.tr k6),cA _ (hu.tr k6),bm fun h7 b7 k7=>?_⟩
     have z6:=bF b6;have z7:=bF b7;have u7:=(hu.tr k6).tr k7;have s6:=k6.size;refine⟨cB _ u7,cA _ u7,cR (c:=p5 (⟨#[]⟩,⟨#[]⟩,⟨#[]⟩,false,false)) (vs:=p5 a) b7 rfl fun h8 b8 hu8=>?_⟩
     have u8:=u7.own hu8 (by omega);refine⟨cB _ u8,cR (c:=p5 (⟨#[]⟩,⟨#[]⟩,⟨#[]⟩,false,false)) (vs:=p5 b) (hu8.oth (k7.get0 b6) (by omega)) rfl fun h9 b9 hu9=>?_⟩
     have u9:=u8.own hu9 s5;have hoo:UZ h h9 to O:=(((ho.within.upd (k6.tr k7) fun _ _ h=>h).upd hu8 fun y hy e=>by have e:y=h6.size:=e;omega).upd hu9 fun y hy e=>by have e:y=h5.size:=e;omega).more fun y hy=>hy.1
     exact L8 (h:=h) (t10:=(ts,tm,to)) (O:=O) (hu9.oth b8 (by omega)) b9 hoo (by omega) u9 (by simp only;omega) (by simp only;omega) (fun hme=>hcf hme _ u9) hok
end Go.Proofs
namespace Go.Proofs
open Go Go.Lift
end Go.Proofs
namespace Go.Proofs
open Go Go.Lift
end Go.Proofs
namespace Go.Proofs
open Go Go.Lift
theorem Tf{A B:List Pr}(hA:bD A)(hB:bD B){c:Ch}(h:c∈fy A B):c=(c.1,(look A c.1).getD ⟨#[]⟩,(look B c.1).getD ⟨#[]⟩,(look A c.1).isSome,(look B c.1).isSome)∧look A c.1≠look B c.1:=by
 have:=Kg hA hB c.1;rw[Ow (mQ hA hB) h]at this;exact Qg this.symm
theorem Ir{l:List Ch}(hr:lx l)(h:∀c∈l,lh c=true):i5 l=0:=by
 unfold i5;rw[if_pos hr,if_neg];intro e;obtain⟨c,hc,e⟩:=bT.1 e;rw[h c hc]at e;cases e
theorem zE{A B:List Pr}(hA:bD A)(hB:bD B):i5 (fy A B)=0:=Ir (mQ hA hB) fun _ h=>Qy hA hB h
theorem F0{n:Nat}{A:List Pr}(f:Few n A)(k:ByteArray):((look A k).getD ⟨#[]⟩).size≤30:=by
 cases e:look A k with
 |none=>exact be _
 |some v=>exact(f.fit _ (sM e)).2
theorem Lo{n m:Nat}{A B:List Pr}(fA:Few n A)(fB:Few m B):∀c∈fy A B,c.1.size≤30∧c.2.1.size≤30∧c.2.2.1.size≤30:=fun c hc=>by
 obtain⟨e,ne⟩:=Tf fA.up fB.up hc;refine⟨?_,?_,?_⟩
 ·cases ea:look A c.1 with
  |some v=>exact(fA.fit _ (sM ea)).1
  |none=>
   cases eb:look B c.1 with
   |some v=>exact(fB.fit _ (sM eb)).1
   |none=>rw[ea,eb]at ne;exact absurd rfl ne
 ·rw[e];exact F0 fA _
 ·rw[e];exact F0 fB _
theorem NB{n m:Nat}{A B:List Pr}(fA:Few n A)(fB:Few m B):xW (fy A B):=fun c hc=>by
 have:=Lo fA fB c hc;omega
end Go.Proofs
namespace Go.Proofs
open Go Go.Lift
def tP(L:List Pr)(c:Ch):List Pr:=if c.2.2.2.2 then gU (c.1,c.2.2.1) L else mE c.1 L
def gV(L:List Pr)(l:List Ch):List Pr:=l.foldl tP L
theorem Lw{L:List Pr}(h:bD L)(c:Ch):bD (tP L c):=by
 unfold tP;split
 ·exact yp _ h
 ·exact Iq h
theorem tS:∀{l:List Ch} {L:List Pr},bD L→bD (gV L l)
 | [],_,h=>h
 |c::l,_,h=>tS (l:=l) (Lw h c)
theorem QZ{L:List Pr}{c:Ch}(h:Fit L)(hc:c.1.size≤10000∧c.2.2.1.size≤10000):Fit (tP L c):=fun p hp=>by
 unfold tP at hp;split at hp
 ·rcases xu hp with e|hp
  ·rw[e];exact hc
  ·exact h p hp
 ·exact h p (E9.1 hp).1
theorem CQ:∀{l:List Ch} {L:List Pr},Fit L→(∀c∈l,c.1.size≤10000∧c.2.2.1.size≤10000)→Fit (gV L l)
 | [],_,h,_=>h
 |c::l,_,h,hl=>CQ (l:=l) (QZ h (hl c (ar ..))) fun d hd=>hl d (List.mem_cons_of_mem _ hd)
theorem QR(L:List Pr)(c:Ch):(tP L c).length≤L.length+1:=by
 unfold tP;split
 ·exact yx _
 ·exact Nat.le_trans OG (Nat.le_succ _)
theorem CL:∀(l:List Ch) (L:List Pr),(gV L l).length≤L.length+l.length
 | [],_=>aq _
 |c::l,L=>by
  have h1:=CL l (tP L c);have h2:=QR L c;rw[aj];show(gV (tP L c) l).length≤_
  omega
theorem OQ{L:List Pr}{l:List Ch}{i:Nat}(hi:i<l.length):gV L (l.take (i+1))=tP (gV L (l.take i)) l[i]:=by
 unfold gV;rw[List.take_succ_eq_append_getElem hi,qn];rfl
theorem Rn(L:List Pr)(l m:List Ch):gV L (l++m)=gV (gV L l) m:=qn ..
theorem N9(L:List Pr)(c:Ch)(k:ByteArray):look (tP L c) k=if c.1=k then(if c.2.2.2.2 then some c.2.2.1 else none)else look L k:=by
 unfold tP;split
 ·rw[L2]
 ·rw[F1]
theorem zJ{k:ByteArray}:∀{l:List Ch} {L:List Pr},lx l→look (gV L l) k=match fd l k with|none=>look L k|some c=>if c.2.2.2.2 then some c.2.2.1 else none
 | [],_,_=>rfl
 |c::l,L,h=>by
  have hc:=aA.1 h;show look (gV (tP L c) l) k=_
  rw[zJ hc.2,ws,N9];by_cases e:c.1=k
  ·subst e
   rw[Vo hc.1,if_pos rfl,if_pos rfl]
  ·rw[if_neg e,if_neg e]
theorem Rm{A B:List Pr}(hA:bD A)(hB:bD B):gV A (fy A B)=B:=by
 refine SR (tS hA) hB fun k=>?_
 rw[zJ (mQ hA hB),Kg hA hB];unfold UY;by_cases e:look A k=look B k
 ·rw[if_pos e];exact e
 ·rw[if_neg e]
  simp only;cases h:look B k<;>rfl
def y4(L:List Pr)(c:Ch):Bool:=((look L c.1).isSome==c.2.2.2.1)&&decide ((look L c.1).getD ⟨#[]⟩=c.2.1)
theorem Mt{A B:List Pr}(hA:bD A)(hB:bD B){c:Ch}(h:c∈fy A B):y4 A c=true:=by
 have e:=(Tf hA hB h).1;unfold y4;rw[congrArg (·.2.2.2.1) e,congrArg (·.2.1) e]
 simp
def qN(L:List Pr)(l:List Ch):Int:=if i5 l≠0 then i5 l else if l.any (fun c=> !y4 L c)then 8 else 0
theorem Jn{L:List Pr}{l:List Ch}(h:i5 l=0)(hf:∀c∈l,y4 L c=true):qN L l=0:=by
 unfold qN;rw[if_neg (fun e=>e h),if_neg]
 intro e;obtain⟨c,hc,e⟩:=bT.1 e;rw[hf c hc]at e;cases e
theorem Vp{l m:List Ch}(h:lx (l++m)){c:Ch}(hc:c∈m):fd l c.1=none:=by
 refine UW fun d hd e=>?_
 have:=(bH.1 h).2.2 d hd c hc;rw[e]at this;exact bQ _ this
theorem QY{A B:List Pr}(hA:bD A)(hB:bD B){k:Nat}{c:Ch}(h:c∈(fy A B).drop k):y4 (gV A ((fy A B).take k)) c=true:=by
 have hr:=mQ hA hB;have ht:lx ((fy A B).take k++(fy A B).drop k):=by rw[aE];exact hr
 have e:=Vp ht h;have:=Mt hA hB (List.mem_of_mem_drop h);unfold y4 at this⊢;rw[zJ (bH.1 ht).1,e];exact this
theorem OR{A B:List Pr}(hA:bD A)(hB:bD B)(k:Nat):gV (gV A ((fy A B).take k)) ((fy A B).drop k)=B:=by
 rw[←Rn,aE,Rm hA hB]
theorem yq{l m:List Ch}(h:i5 l=0)(hs:m.Sublist l):i5 m=0:=by
 unfold i5 at h;by_cases hr:lx l
 ·rw[if_pos hr]at h
  refine Ir (hr.sublist hs) fun c hc=>?_
  cases e:lh c with
  |true=>rfl
  |false=>
   rw[if_pos (bT.2 ⟨c,hs.subset hc,by rw[e];rfl⟩)]at h;cases h
 ·rw[if_neg hr]at h;cases h
theorem L7:∀{l m:List Ch},lx (l++m)→qv l m=some (l++m)
 | [],m,_=>sO m
 |a::l,[],_=>by rw[zM,aG]
 |a::l,b::m,h=>by
  have hc:=aA.1 h;rw[wh,if_pos (hc.1 b (List.mem_append_right _ (ar ..))),L7 hc.2];rfl
theorem Oh{A B:List Pr}(hA:bD A)(hB:bD B)(k:Nat):F7 ((fy A B).take k) ((fy A B).drop k)=(0,fy A B):=by
 have hr:=mQ hA hB;unfold F7;rw[yq (zE hA hB) (List.take_sublist ..),yq (zE hA hB) (List.drop_sublist ..),L7 (by rw[aE];exact hr),aE];rfl
theorem RZ{A B:List Pr}(hA:bD A)(hB:bD B)(k:ByteArray):(fy A B).any (fun c=>decide (c.1=k))=decide (look A k≠look B k):=by
 have h:=Kg hA hB k;unfold UY at h;by_cases e:look A k=look B k
 ·rw[if_pos e]at h
  rw[show decide (look A k≠look B k)=false by simpa using e]
  unfold fd at h;rw[List.find?_eq_none]at h;rw[List.any_eq_false];exact fun c hc=>h c hc
 ·rw[if_neg e]at h
  rw[show decide (look A k≠look B k)=true by simpa using e]
  obtain⟨hc,ek⟩:=Gh h;exact bT.2 ⟨_,hc,by simp⟩
end Go.Proofs
namespace Go.Proofs
open Go Go.Lift Go.Sort
abbrev qL:Value:=.func (.func m0) #[] #[]
def kI(dec:Int→Ch)(i j:Int):Bool:=Ui (dec i) (dec j)
structure SA(dec:Int→Ch)(M:Nat→Prop)(s:SliceV)(h:af)(d:Array Int):Prop where
 own:OwnS p5 5 aO M h s (d.toList.map dec)
 small:d.size≤1000000000
 lt:∀b,M b→b<h.size
variable {dec:Int→Ch} {M:Nat→Prop} {s:SliceV} {h:af} {d:Array Int}
theorem SA.len(hs:SA dec M s h d):s.len=d.size:=by have:=hs.own.len;simpa using this
theorem SA.updC{c:Nat}{h':af}(hs:SA dec M s h d)(k:Upd (· =c) h h')(hc:¬M c):SA dec M s h' d:=⟨hs.own.upd k fun b hb e=>hc (by have e:b=c:=e;rw[←e];exact hb),hs.small,fun b hb=>ay (hs.lt b hb) k.size⟩
theorem SA.upd0{h':af}(hs:SA dec M s h d)(k:Upd No h h'):SA dec M s h' d:=⟨hs.own.upd k fun _ _ h=>h,hs.small,fun b hb=>ay (hs.lt b hb) k.size⟩
theorem SA.at(hs:SA dec M s h d){i:Nat}(hi:i<d.size):∃a,s.a=some a∧∀j v,(p5 (dec d[i]!))[j]? =some v→aL h (adr (adr a (((i:Int)).toNat*5)) j)=some v:=by
 have hx:(d.toList.map dec)[i]? =some (dec d[i]!):=by
  rw[List.getElem?_map,Array.getElem?_toList,Array.getElem?_eq_getElem hi,getElem!_pos d i hi];rfl
 obtain⟨a,ha,_,hv⟩:=(hs.own.sl (W:=No) fun _ _ _ h=>h).at hx
 exact⟨a,ha,by simpa using hv⟩
theorem SA.rd(hs:SA dec M s h d){t:Int}{i:Nat}(et:t=(i:Int))(hi:i<d.size){R:ByteArray→ByteArray→ByteArray→Bool→Bool→Prop}(hR:R (dec d[i]!).1 (dec d[i]!).2.1 (dec d[i]!).2.2.1 (dec d[i]!).2.2.2.1 (dec d[i]!).2.2.2.2):
  ((0:Int)≤t∧t<((s.len:Nat):Int))∧∃a:Addr,s.a=some a∧∃v1:ByteArray,aL h (adr (adr a (t.toNat*5)) 0)=some (.string v1)∧∃v2:ByteArray,aL h (adr (adr a (t.toNat*5)) 1)=some (.string v2)∧∃v3:ByteArray,aL h (adr (adr a (t.toNat*5)) 2)=some (.string v3)∧∃v4:Bool,aL h (adr (adr a (t.toNat*5)) 3)=some (.bool v4)∧∃v5:Bool,aL h (adr (adr a (t.toNat*5)) 4)=some (.bool v5)∧R v1 v2 v3 v4 v5:=by
 subst et;obtain⟨a,ha,hv⟩:=hs.at hi;exact⟨by rw[hs.len];omega,a,ha,_,hv 0 _ rfl,_,hv 1 _ rfl,_,hv 2 _ rfl,_,hv 3 _ rfl,_,hv 4 _ rfl,hR⟩
theorem SA.st(hs:SA dec M s h d){t:Int}{i:Nat}{x:Int}(et:t=(i:Int))(hi:i<d.size){R:af→Prop}(hR:∀h',SA dec M s h' (d.setIfInBounds i x)→Upd M h h'→R h'):
  ((0:Int)≤t∧t<((s.len:Nat):Int))∧∃a:Addr,s.a=some a∧(dq h (some (adr a (t.toNat*5))) 0 [.string (dec x).1,.string (dec x).2.1,.string (dec x).2.2.1,.bool (dec x).2.2.2.1,.bool (dec x).2.2.2.2]∧At (aX h (adr a (t.toNat*5)) 0 [.string (dec x).1,.string (dec x).2.1,.string (dec x).2.2.1,.bool (dec x).2.2.2.1,.bool (dec x).2.2.2.2]) R):=by
 subst et;obtain⟨a,ha,hM,hw,ho,hu⟩:=OwnS.setAt hs.own (k:=i) (by simpa using hi) (dec x);refine⟨by rw[hs.len];omega,a,ha,?_⟩;rw[Int.toNat_natCast];have hu':Upd M h _:=hu.mono fun b hb=>.inl (by have hb:b=a.block:=hb;rw[hb];exact hM)
 refine⟨hw,bi (hR _ ⟨?_,by simpa using hs.small,fun b hb=>ay (hs.lt b hb) hu.size⟩ hu')⟩
 rw[show(d.setIfInBounds i x).toList.map dec=(d.toList.map dec).take i++dec x::(d.toList.map dec).drop (i+1) by
  rw[Array.toList_setIfInBounds,List.map_set,List.set_eq_take_append_cons_drop,if_pos (by simpa using hi)]]
 exact ho
@[simp] theorem VD(d:Array Int)(i j:Nat):(swp d i j).size=d.size:=by simp[swp]
theorem SA.swap(hs:SA dec M s h d){ti tj:Int}{i j:Nat}(ei:ti=(i:Int))(ej:tj=(j:Int))(hi:i<d.size)(hj:j<d.size){R:af→Prop}(hR:∀h',SA dec M s h' (swp d i j)→Upd M h h'→R h'):
  ((0:Int)≤tj∧tj<((s.len:Nat):Int))∧∃a:Addr,s.a=some a∧∃v1:ByteArray,aL h (adr (adr a (tj.toNat*5)) 0)=some (.string v1)∧∃v2:ByteArray,aL h (adr (adr a (tj.toNat*5)) 1)=some (.string v2)∧∃v3:ByteArray,aL h (adr (adr a (tj.toNat*5)) 2)=some (.string v3)∧∃v4:Bool,aL h (adr (adr a (tj.toNat*5)) 3)=some (.bool v4)∧∃v5:Bool,aL h (adr (adr a (tj.toNat*5)) 4)=some (.bool v5)∧
   (((0:Int)≤ti∧ti<((s.len:Nat):Int))∧∃a:Addr,s.a=some a∧∃w1:ByteArray,aL h (adr (adr a (ti.toNat*5)) 0)=some (.string w1)∧∃w2:ByteArray,aL h (adr (adr a (ti.toNat*5)) 1)=some (.string w2)∧∃w3:ByteArray,aL h (adr (adr a (ti.toNat*5)) 2)=some (.string w3)∧∃w4:Bool,aL h (adr (adr a (ti.toNat*5)) 3)=some (.bool w4)∧∃w5:Bool,aL h (adr (adr a (ti.toNat*5)) 4)=some (.bool w5)∧
    (((0:Int)≤ti∧ti<((s.len:Nat):Int))∧∃a:Addr,s.a=some a∧(dq h (some (adr a (ti.toNat*5))) 0 [.string v1,.string v2,.string v3,.bool v4,.bool v5]∧At (aX h (adr a (ti.toNat*5)) 0 [.string v1,.string v2,.string v3,.bool v4,.bool v5]) (fun h1=>
     (((0:Int)≤tj∧tj<((s.len:Nat):Int))∧∃a:Addr,s.a=some a∧(dq h1 (some (adr a (tj.toNat*5))) 0 [.string w1,.string w2,.string w3,.bool w4,.bool w5]∧At (aX h1 (adr a (tj.toNat*5)) 0 [.string w1,.string w2,.string w3,.bool w4,.bool w5]) R)))))):=by
 refine hs.rd ej hj (hs.rd ei hi (hs.st (x:=d[j]!) ei hi fun h1 hs1 k1=>hs1.st (x:=d[i]!) ej (by simpa using hj) fun h2 hs2 k2=>hR h2 hs2 (k1.tr k2)))
theorem SA.less(hs:SA dec M s h d){ti tj:Int}{i j:Nat}(ei:ti=(i:Int))(ej:tj=(j:Int))(hi:i<d.size)(hj:j<d.size){R:Int→af→Prop}(hR:∀h' e,SA dec M s h' d→Upd No h h'→decide (e<0)=kI dec d[i]! d[j]!→R e h'):
  ((0:Int)≤ti∧ti<((s.len:Nat):Int))∧∃a:Addr,s.a=some a∧∃v1:ByteArray,aL h (adr (adr a (ti.toNat*5)) 0)=some (.string v1)∧∃v2:ByteArray,aL h (adr (adr a (ti.toNat*5)) 1)=some (.string v2)∧∃v3:ByteArray,aL h (adr (adr a (ti.toNat*5)) 2)=some (.string v3)∧∃v4:Bool,aL h (adr (adr a (ti.toNat*5)) 3)=some (.bool v4)∧∃v5:Bool,aL h (adr (adr a (ti.toNat*5)) 4)=some (.bool v5)∧
   (((0:Int)≤tj∧tj<((s.len:Nat):Int))∧∃a:Addr,s.a=some a∧∃w1:ByteArray,aL h (adr (adr a (tj.toNat*5)) 0)=some (.string w1)∧∃w2:ByteArray,aL h (adr (adr a (tj.toNat*5)) 1)=some (.string w2)∧∃w3:ByteArray,aL h (adr (adr a (tj.toNat*5)) 2)=some (.string w3)∧∃w4:Bool,aL h (adr (adr a (tj.toNat*5)) 3)=some (.bool w4)∧∃w5:Bool,aL h (adr (adr a (tj.toNat*5)) 4)=some (.bool w5)∧
    HV PG qL [.agg #[.string v1,.string v2,.string v3,.bool v4,.bool v5],.agg #[.string w1,.string w2,.string w3,.bool w4,.bool w5]] [.c (.int .i64)] R h):=
 hs.rd ei hi (hs.rd ej hj ((UX M).call (dec d[i]!) (dec d[j]!) trivial fun h' e k he=>hR h' e (hs.upd0 k) k he))
theorem Oq(hs:SA dec M s h d){a e:Nat}(ha:a≤e)(he:e≤d.size){K:Unit→af→Prop}(hk:∀h',SA dec M s h' (insertionSort (kI dec) d a e)→Upd M h h'→K () h'):
  HC PG de [.slice s.a s.len s.cap,.int .i64 a,.int .i64 e,qL] [] K h:=by
 refine gL s a e qL ?_;unfold eG ae bS;have hsm:=hs.small;refine LoopP.ghost (fun(g:Nat×Array Int) (t:Int) h'=>t=(g.1:Int)∧SA dec M s h' g.2∧g.2.size=d.size∧insOuter (kI dec) a e g.1 g.2=insertionSort (kI dec) d a e∧Upd M h h'∧a<g.1) (fun g=>e-g.1) (a+1,d)
  ⟨by rw[cS (by omega)];rfl,hs,rfl,rfl,Upd.refl _ _,by simp⟩ ?_
 rintro I ⟨i,d1⟩ t h1 ⟨ht,hs1,hz1,hr1,hu1,hai⟩ hI;simp only at ht hs1 hz1 hr1 hai;subst ht;refine ax (fun hlt=>?_) fun hge=>?_
 ·have hlt:i<e:=by omega
  refine LoopP.ghost (fun(g:Nat×Array Int) (t:Int) h'=>t=(g.1:Int)∧SA dec M s h' g.2∧g.2.size=d.size∧insInner (kI dec) a g.1 g.2=insInner (kI dec) a i d1∧Upd M h h'∧g.1≤i) (fun g=>g.1) (i,d1)
   ⟨rfl,hs1,hz1,rfl,hu1,aq _⟩ ?_
  rintro I2 ⟨j,d2⟩ t h2 ⟨ht,hs2,hz2,hr2,hu2,hji⟩ hI2;simp only at ht hs2 hz2 hr2 hji;subst ht;refine Join.intro (fun t h'=>SA dec M s h' d2∧Upd No h2 h'∧(t=true↔a<j∧(kI dec) d2[j]! d2[j-1]! =true)) (fun R hR=>?_) ?_
  ·refine ax (fun hgt=>?_) fun hle=>hR _ _ ⟨hs2,Upd.refl _ _,by simp;omega⟩
   have hgt:a<j:=by omega
   exact hs2.less rfl (j:=j-1) (by rw[cS (by omega)];omega) (by omega) (by omega) fun h3 e3 hs3 k3 he3=>hR _ _ ⟨hs3,k3,by rw[he3];simp[hgt]⟩
  ·rintro t h' ⟨hs3,k3,htr⟩
   have hu3:=hu2.tr k3.wide;refine CondP.intro (fun h3=>?_) fun h3=>?_
   ·obtain⟨h4,h5⟩:=htr.1 h3
    refine hs3.swap (i:=j) (j:=j-1) rfl (by rw[cS (by omega)];omega) (by omega) (by omega) fun h6 hs6 hu6=>?_
    refine hI2 (j-1,swp d2 j (j-1)) _ _ ⟨by rw[cS (by omega)];simp only;omega,hs6,by simp[hz2],?_,hu3.tr hu6,by simp only;omega⟩ (by simp only;omega)
    rw[←hr2];obtain⟨j',rfl⟩:∃j',j=j'+1:=⟨j-1,by omega⟩
    simp only[Nat.add_sub_cancel]at h5⊢;rw[insInner,if_pos (by simp[h5,h4])]
   ·have hnot:¬(a<j∧(kI dec) d2[j]! d2[j-1]! =true):=fun hh=>by rw[htr.2 hh]at h3;cases h3
    have hin:insInner (kI dec) a j d2=d2:=by
     cases j with
     |zero=>rw[insInner]
     |succ j=>
      simp only[Nat.add_sub_cancel]at hnot;rw[insInner,if_neg (by simpa using hnot)]
    refine hI (i+1,d2) _ _ ⟨by rw[cS (by omega)];rfl,hs3,hz2,?_,hu3,by simp only;omega⟩ (by simp only;omega)
    rw[←hr1];conv=>rhs;rw[insOuter]
    rw[if_pos hlt,←hr2,hin]
 ·refine hk _ ?_ hu1
  rw[←hr1,insOuter,if_neg (by omega)];exact hs1
end Go.Proofs
namespace Go.Proofs
open Go Go.Lift Go.Sort
variable {dec:Int→Ch} {M:Nat→Prop} {s:SliceV} {h:af} {d:Array Int}
@[simp] theorem TF(lt:Int→Int→Bool)(hi first root:Nat)(d:Array Int):(siftDown lt hi first root d).size=d.size:=by
 fun_induction siftDown lt hi first root d<;>simp_all
@[simp] theorem Gb(lt:Int→Int→Bool)(hi first:Nat):∀(k:Nat) (d:Array Int),(heapBuild lt hi first k d).size=d.size
 |0,d=>rfl
 |k+1,d=>by rw[heapBuild,Gb lt hi first k];simp
theorem DU{root hi first:Nat}(hs:SA dec M s h d)(hb:first+hi≤d.size){K:Unit→af→Prop}(hk:∀h',SA dec M s h' (siftDown (kI dec) hi first root d)→Upd M h h'→K () h')(hr:root≤1000000000):
  HC PG dJ [.slice s.a s.len s.cap,.int .i64 root,.int .i64 hi,.int .i64 first,qL] [] K h:=by
 refine nZ s root hi first qL ?_
 unfold iW ae bS;have hsm:=hs.small;refine LoopP.ghost (fun(g:Nat×Array Int) (t:Int) h'=>t=(g.1:Int)∧SA dec M s h' g.2∧g.2.size=d.size∧siftDown (kI dec) hi first g.1 g.2=siftDown (kI dec) hi first root d∧Upd M h h'∧g.1≤1000000000) (fun g=>hi-g.1) (root,d)
  ⟨rfl,hs,rfl,rfl,Upd.refl _ _,hr⟩ ?_
 rintro I ⟨i,d1⟩ t h1 ⟨ht,hs1,hz1,hr1,hu1,hi1⟩ hI;simp only at ht hs1 hz1 hr1 hi1;subst ht;have w1:IntKind.wrap .i64 (IntKind.wrap .i64 (2*(i:Int))+1)=((2*i+1:Nat):Int):=by rw[cS (x:=2*(i:Int)) (by omega),cS (by omega)];omega
 have w2:IntKind.wrap .i64 (((2*i+1:Nat):Int)+1)=((2*i+2:Nat):Int):=by rw[cS (by omega)];omega
 rw[w1];refine ax (fun hge=>?_) fun hlt=>?_
 ·refine hk _ ?_ hu1
  rw[←hr1,siftDown,dif_pos (by omega)];exact hs1
 ·have hlt:2*i+1<hi:=by omega
  refine Join.intro (fun t h'=>SA dec M s h' d1∧Upd No h1 h'∧∃c:Nat,t=(c:Int)∧c=if 2*i+2<hi∧(kI dec) d1[first+(2*i+1)]! d1[first+(2*i+1)+1]! =true then 2*i+2 else 2*i+1) (fun R hR=>?_) ?_
  ·refine Join.intro (fun t h'=>SA dec M s h' d1∧Upd No h1 h'∧(t=true↔2*i+2<hi∧(kI dec) d1[first+(2*i+1)]! d1[first+(2*i+1)+1]! =true)) (fun R2 hR2=>?_) ?_
   ·show CondP (decide (IntKind.wrap .i64 (((2*i+1:Nat):Int)+1)<(hi:Int))) _ _
    rw[w2];refine ax (fun h3=>?_) fun h3=>hR2 _ _ ⟨hs1,Upd.refl _ _,by simp;omega⟩
    show(((0:Int)≤IntKind.wrap .i64 ((first:Int)+((2*i+1:Nat):Int))∧_)∧_)
    refine hs1.less (i:=first+(2*i+1)) (j:=first+(2*i+1)+1) (by rw[cS (by omega)];omega) (by rw[cS (x:=(first:Int)+_) (by omega),cS (by omega)];omega) (by omega) (by omega) fun h4 e4 hs4 k4 he4=>hR2 _ _ ⟨hs4,k4,?_⟩
    rw[he4];simp;omega
   ·rintro t h' ⟨hs4,k4,htr⟩
    refine CondP.intro (fun h3=>?_) fun h3=>?_
    ·show R (IntKind.wrap .i64 (((2*i+1:Nat):Int)+1)) _
     rw[w2];exact hR _ _ ⟨hs4,k4,_,rfl,by rw[if_pos (htr.1 h3)]⟩
    ·exact hR _ _ ⟨hs4,k4,_,rfl,by rw[if_neg fun hh=>by rw[htr.2 hh]at h3;cases h3]⟩
  ·rintro t h' ⟨hs4,k4,c,rfl,hc⟩
   have hcb:c<hi∧i<c:=by rw[hc];split<;>omega
   refine hs4.less (i:=first+i) (j:=first+c) (by rw[cS (by omega)];omega) (by rw[cS (by omega)];omega) (by omega) (by omega) fun h5 e5 hs5 k5 he5=>?_
   have hu5:=hu1.tr (k4.tr k5).wide;rw[he5];have hstep:siftDown (kI dec) hi first i d1=if !(kI dec) d1[first+i]! d1[first+c]! then d1 else siftDown (kI dec) hi first c (swp d1 (first+i) (first+c)):=by
    rw[siftDown,dif_neg (by omega)];by_cases hq:2*i+2<hi∧(kI dec) d1[first+(2*i+1)]! d1[first+(2*i+1)+1]! =true
    ·rw[if_pos (by simp only[bc,decide_eq_true_iff];exact hq),dif_pos hq.1]
     rw[if_pos hq]at hc;rw[hc]
    ·rw[if_neg (by simp only[bc,decide_eq_true_iff];exact hq)]
     rw[if_neg hq]at hc;rw[hc]
   refine CondP.intro (fun h3=>?_) fun h3=>?_
   ·refine hk _ ?_ hu5
    rw[←hr1,hstep,if_pos h3];exact hs5
   ·refine hs5.swap (i:=first+i) (j:=first+c) (by rw[cS (by omega)];omega) (by rw[cS (by omega)];omega) (by omega) (by omega) fun h6 hs6 hu6=>?_
    refine hI (c,swp d1 (first+i) (first+c)) _ _ ⟨rfl,hs6,by simp[hz1],?_,hu5.tr hu6,by simp only;omega⟩ (by simp only;omega)
    rw[←hr1,hstep,if_neg (by rw[h3];simp)]
theorem Mg{a e:Nat}(hs:SA dec M s h d)(ha:a≤e)(he:e≤d.size){K:Unit→af→Prop}(hk:∀h',SA dec M s h' (heapSort (kI dec) d a e)→Upd M h h'→K () h'):
  HC PG fx [.slice s.a s.len s.cap,.int .i64 a,.int .i64 e,qL] [] K h:=by
 refine oa s a e qL ?_;unfold iX ae bS;have hsm:=hs.small;have w1:IntKind.wrap .i64 ((e:Int)-(a:Int))=((e-a:Nat):Int):=by rw[cS (by omega)];omega
 rw[w1];refine⟨by decide,?_⟩;have hst:IntKind.wrap .i64 (ni (IntKind.wrap .i64 (((e-a:Nat):Int)-1)) 2)=(((e-a-1)/2+1:Nat):Int)-1:=by
  rw[cS (x:=((e-a:Nat):Int)-1) (by omega)];by_cases h0:e-a=0
  ·rw[h0];decide
  ·rw[nh (by omega),cS (by omega)];omega
 show LoopP _ (IntKind.wrap .i64 (ni (IntKind.wrap .i64 (((e-a:Nat):Int)-1)) 2)) h
 rw[hst];refine LoopP.ghost (fun(g:Nat×Array Int) (t:Int) h'=>t=(g.1:Int)-1∧SA dec M s h' g.2∧g.2.size=d.size∧heapBuild (kI dec) (e-a) a g.1 g.2=heapBuild (kI dec) (e-a) a ((e-a-1)/2+1) d∧Upd M h h'∧g.1≤1000000000) (fun g=>g.1) ((e-a-1)/2+1,d)
  ⟨rfl,hs,rfl,rfl,Upd.refl _ _,by simp only;omega⟩ ?_
 rintro I ⟨k,d1⟩ t h1 ⟨ht,hs1,hz1,hr1,hu1,hk1⟩ hI;simp only at ht hs1 hz1 hr1 hk1;subst ht;refine ax (fun hge=>?_) fun hlt=>?_
 ·obtain⟨k,rfl⟩:∃k',k=k'+1:=⟨k-1,by omega⟩
  have e1:((k+1:Nat):Int)-1=(k:Int):=by omega
  rw[e1];refine DU hs1 (by omega) (fun h2 hs2 hu2=>hI (k,_) _ _ ⟨by rw[cS (by omega)],hs2,by simp[hz1],?_,hu1.tr hu2,by simp only;omega⟩ (by simp)) (by omega)
  rw[←hr1];rfl
 ·have:k=0:=by omega
  subst this;rw[cS (x:=((e-a:Nat):Int)-1) (by omega)];refine LoopP.ghost (fun(g:Nat×Array Int) (t:Int) h'=>t=(g.1:Int)-1∧SA dec M s h' g.2∧g.2.size=d.size∧heapPop (kI dec) a g.1 g.2=heapSort (kI dec) d a e∧Upd M h h'∧g.1≤e-a) (fun g=>g.1) (e-a,d1)
   ⟨rfl,hs1,hz1,by rw[heapSort,←hr1];rfl,hu1,aq _⟩ ?_
  rintro I2 ⟨k,d2⟩ t h2 ⟨ht,hs2,hz2,hr2,hu2,hk2⟩ hI2;simp only at ht hs2 hz2 hr2 hk2;subst ht;refine ax (fun hge=>?_) fun hlt2=>?_
  ·obtain⟨k,rfl⟩:∃k',k=k'+1:=⟨k-1,by omega⟩
   have e1:((k+1:Nat):Int)-1=(k:Int):=by omega
   rw[e1];refine hs2.swap (i:=a) (j:=a+k) rfl (by rw[cS (by omega)];omega) (by omega) (by omega) fun h3 hs3 hu3=>?_
   refine DU (root:=0) hs3 (by simp;omega) (fun h4 hs4 hu4=>hI2 (k,_) _ _ ⟨by rw[cS (by omega)],hs4,by simp[hz2],?_,(hu2.tr hu3).tr hu4,by simp only;omega⟩ (by simp)) (by omega)
   rw[←hr2];rfl
  ·have:k=0:=by omega
   subst this;refine hk _ ?_ hu2;rw[←hr2];exact hs2
theorem Lx{a e:Nat}(hs:SA dec M s h d)(ha:a<e)(he:e≤d.size){K:Unit→af→Prop}(hk:∀h',SA dec M s h' (reverseRange d a e)→Upd M h h'→K () h'):
  HC PG eK [.slice s.a s.len s.cap,.int .i64 a,.int .i64 e,qL] [] K h:=by
 refine l9 s a e qL ?_;unfold g5 ae bS;have hsm:=hs.small;refine LoopP.ghost (fun(g:Nat×Nat×Array Int) (t:Int×Int) h'=>t.1=(g.1:Int)∧t.2=(g.2.1:Int)∧SA dec M s h' g.2.2∧g.2.2.size=d.size∧reverseLoop g.1 g.2.1 g.2.2=reverseRange d a e∧Upd M h h'∧g.2.1<e) (fun g=>g.2.1-g.1) (a,e-1,d)
  ⟨rfl,by simp only;rw[cS (by omega)];omega,hs,rfl,rfl,Upd.refl _ _,by simp only;omega⟩ ?_
 rintro I ⟨i,j,d1⟩ ⟨t1,t2⟩ h1 ⟨ht1,ht2,hs1,hz1,hr1,hu1,hj⟩ hI;simp only at ht1 ht2 hs1 hz1 hr1 hj;subst ht1 ht2;refine ax (fun hlt=>?_) fun hge=>?_
 ·have hlt:i<j:=by have:(i:Int)<(j:Int):=hlt;omega
  refine hs1.swap (i:=i) (j:=j) rfl rfl (by omega) (by omega) fun h2 hs2 hu2=>?_
  refine hI (i+1,j-1,swp d1 i j) _ _ ⟨by simp only;rw[cS (by omega)];rfl,by simp only;rw[cS (by omega)];omega,hs2,by simp[hz1],?_,hu1.tr hu2,by simp only;omega⟩ (by simp only;omega)
  rw[←hr1];conv=>rhs;rw[reverseLoop]
  rw[if_pos hlt]
 ·refine hk _ ?_ hu1
  rw[←hr1,reverseLoop,if_neg (by have hge:¬(i:Int)<(j:Int):=hge;omega)];exact hs1
end Go.Proofs
namespace Go.Proofs
open Go Go.Lift Go.Sort
variable {dec:Int→Ch} {M:Nat→Prop} {s:SliceV} {h:af} {d:Array Int}
theorem Cx{T:Int→(Bool→af→Prop)→af→Prop}{REST:Int→af→Prop}{p:Int→Bool}{tj t0:Int}{j i0:Nat}(e0:t0=(i0:Int))(ej:tj=(j:Int))(hj:j≤1000000000)(hi0:i0≤1000000000)
  (hs:SA dec M s h d)(hT:∀(i:Nat) (R:Bool→af→Prop) (h1:af),SA dec M s h1 d→i0≤i→i≤j→(∀h2,SA dec M s h2 d→Upd No h1 h2→R (p d[i]!) h2)→T (i:Int) R h1) (hR:∀h1,SA dec M s h1 d→Upd No h h1→REST ((scanUp p d j i0:Nat):Int) h1):
  LoopP (fun(I:Int→af→Prop) (t:Int) h'=>Join (fun(c:Bool) h''=>CondP c (I (IntKind.wrap .i64 (t+1)) h'') (REST t h'')) (fun J=>CondP (decide (t≤tj)) (T t J h') (J false h'))) t0 h:=by
 subst e0 ej;refine LoopP.ghost (fun(i:Nat) (t:Int) h'=>t=(i:Int)∧SA dec M s h' d∧Upd No h h'∧i0≤i∧i≤1000000001∧scanUp p d j i=scanUp p d j i0) (fun i=>j+1-i) i0 ⟨rfl,hs,Upd.refl _ _,aq _,by omega,rfl⟩ ?_
 rintro I i t h' ⟨rfl,hs1,hu1,hi,hi2,hsc⟩ hI;refine Join.intro (fun c h''=>SA dec M s h'' d∧Upd No h' h''∧(c=true↔i≤j∧p d[i]! =true)) (fun R hR=>?_) ?_
 ·refine ax (fun hle=>?_) fun hgt=>hR _ _ ⟨hs1,Upd.refl _ _,by simp;omega⟩
  exact hT i _ h' hs1 hi (by omega) fun h2 hs2 k2=>hR _ _ ⟨hs2,k2,by simp;omega⟩
 ·rintro c h'' ⟨hs2,k2,hc⟩
  refine CondP.intro (fun h1=>?_) fun h1=>?_
  ·have hh:=hc.1 h1
   refine hI (i+1) _ _ ⟨by rw[cS (by omega)];rfl,hs2,hu1.tr k2,by omega,by omega,?_⟩ (by omega)
   rw[←hsc];conv=>rhs;rw[scanUp]
   rw[if_pos (by simp[hh])]
  ·have:scanUp p d j i=i:=by
    rw[scanUp,if_neg];intro hh;simp only[bc,decide_eq_true_iff]at hh;rw[hc.2 hh]at h1;cases h1
   rw[←hsc,this]at hR;exact hR _ hs2 (hu1.tr k2)
theorem xp{T:Int→(Bool→af→Prop)→af→Prop}{REST:Int→af→Prop}{p:Int→Bool}{ti t0:Int}{j0 i:Nat}(e0:t0=(j0:Int))(ei:ti=(i:Int))(hj:j0≤1000000000)(hi0:1≤i)
  (hs:SA dec M s h d)(hT:∀(j:Nat) (R:Bool→af→Prop) (h1:af),SA dec M s h1 d→i≤j→j≤j0→(∀h2,SA dec M s h2 d→Upd No h1 h2→R (p d[j]!) h2)→T (j:Int) R h1) (hR:∀h1,SA dec M s h1 d→Upd No h h1→REST ((scanDown p d i j0:Nat):Int) h1):
  LoopP (fun(I:Int→af→Prop) (t:Int) h'=>Join (fun(c:Bool) h''=>CondP c (I (IntKind.wrap .i64 (t-1)) h'') (REST t h'')) (fun J=>CondP (decide (ti≤t)) (T t J h') (J false h'))) t0 h:=by
 subst e0 ei;refine LoopP.ghost (fun(j:Nat) (t:Int) h'=>t=(j:Int)∧SA dec M s h' d∧Upd No h h'∧j≤j0∧scanDown p d i j=scanDown p d i j0) (fun j=>j) j0 ⟨rfl,hs,Upd.refl _ _,aq _,rfl⟩ ?_
 rintro I j t h' ⟨rfl,hs1,hu1,hj2,hsc⟩ hI;refine Join.intro (fun c h''=>SA dec M s h'' d∧Upd No h' h''∧(c=true↔i≤j∧p d[j]! =true)) (fun R hR=>?_) ?_
 ·refine ax (fun hle=>?_) fun hgt=>hR _ _ ⟨hs1,Upd.refl _ _,by simp;omega⟩
  exact hT j _ h' hs1 (by omega) hj2 fun h2 hs2 k2=>hR _ _ ⟨hs2,k2,by simp;omega⟩
 ·rintro c h'' ⟨hs2,k2,hc⟩
  refine CondP.intro (fun h1=>?_) fun h1=>?_
  ·have hh:=hc.1 h1
   obtain⟨j,rfl⟩:∃k,j=k+1:=⟨j-1,by omega⟩
   refine hI j _ _ ⟨by rw[cS (by omega)];omega,hs2,hu1.tr k2,by omega,?_⟩ (by omega)
   rw[←hsc];conv=>rhs;rw[scanDown]
   rw[if_pos (by simp[hh])]
  ·have:scanDown p d i j=j:=by
    cases j with
    |zero=>rw[scanDown]
    |succ j=>
     rw[scanDown,if_neg];intro hh;simp only[bc,decide_eq_true_iff]at hh;rw[hc.2 hh]at h1;cases h1
   rw[←hsc,this]at hR;exact hR _ hs2 (hu1.tr k2)
theorem QL{a e pv:Nat}(hs:SA dec M s h d)(ha:a≤pv)(hp:pv<e)(he:e≤d.size){K:Int→af→Prop}(hk:∀h',SA dec M s h' (partitionEqual (kI dec) d a e pv).2→Upd M h h'→K ((partitionEqual (kI dec) d a e pv).1:Nat) h'):
  HC PG eo [.slice s.a s.len s.cap,.int .i64 a,.int .i64 e,.int .i64 pv,qL] [.c (.int .i64)] K h:=by
 refine ly s a e pv qL ?_;unfold gm ae bS;have hsm:=hs.small;refine hs.swap (i:=a) (j:=pv) rfl rfl (by omega) (by omega) fun h0 hs0 hu0=>?_
 refine LoopP.ghost (fun(g:Nat×Nat×Array Int) (t:Int×Int) h'=>t.1=(g.1:Int)∧t.2=(g.2.1:Int)∧SA dec M s h' g.2.2∧g.2.2.size=d.size∧partEqLoop (kI dec) a g.1 g.2.1 g.2.2=partitionEqual (kI dec) d a e pv∧Upd M h h'∧g.2.1<e∧a<g.1∧g.1≤1000000000) (fun g=>g.2.1+1-g.1) (a+1,e-1,swp d a pv)
  ⟨by simp only;rw[cS (by omega)];rfl,by simp only;rw[cS (by omega)];omega,hs0,by simp,rfl,hu0,by simp only;omega,by simp,by simp only;omega⟩ ?_
 rintro I ⟨i,j,d1⟩ ⟨t1,t2⟩ h1 ⟨ht1,ht2,hs1,hz1,hr1,hu1,hj,hai,hi9⟩ hI;simp only at ht1 ht2 hs1 hz1 hr1 hj hai hi9;subst ht1 ht2;have g1:=scanUp_ge (fun x=> !(kI dec) d1[a]! x) d1 j i
 rw[partEqLoop_eq]at hr1;refine Cx (d:=d1) (p:=fun x=> !(kI dec) d1[a]! x) (i0:=i) rfl rfl (by omega) hi9 hs1 (fun k R h' hs' hk1 hk2 hR=>hs'.less (i:=a) (j:=k) rfl rfl (by omega) (by omega) fun h2 e2 hs2 k2 he2=>by rw[he2];exact hR _ hs2 k2) fun hA hsA kA=>?_
 generalize scanUp (fun x=> !(kI dec) d1[a]! x) d1 j i=i2 at g1 hr1
 have g2:=scanDown_le (fun x=>(kI dec) d1[a]! x) d1 i2 j
 refine xp (d:=d1) (p:=fun x=>(kI dec) d1[a]! x) (j0:=j) (i:=i2) rfl rfl (by omega) (by omega) hsA (fun k R h' hs' hk1 hk2 hR=>hs'.less (i:=a) (j:=k) rfl rfl (by omega) (by omega) fun h2 e2 hs2 k2 he2=>by rw[he2];exact hR _ hs2 k2) fun hB hsB kB=>?_
 generalize scanDown (fun x=>(kI dec) d1[a]! x) d1 i2 j=j2 at g2 hr1
 refine ax (fun hgt=>?_) fun hle=>?_
 ·rw[if_pos (by omega)]at hr1
  rw[←hr1]at hk;exact hk _ hsB (hu1.tr (kA.tr kB).wide)
 ·rw[if_neg (by omega)]at hr1
  refine hsB.swap (i:=i2) (j:=j2) rfl rfl (by omega) (by omega) fun h2 hs2 hu2=>?_
  exact hI (i2+1,j2-1,swp d1 i2 j2) _ _ ⟨by simp only;rw[cS (by omega)];rfl,by simp only;rw[cS (by omega)];omega,hs2,by simp[hz1],hr1,(hu1.tr (kA.tr kB).wide).tr hu2,by simp only;omega,by simp only;omega,by simp only;omega⟩ (by simp only;omega)
theorem Ua{a e pv:Nat}(hs:SA dec M s h d)(ha:a≤pv)(hp:pv<e)(he:e≤d.size){K:Int×Bool→af→Prop}
  (hk:∀h',SA dec M s h' (partition (kI dec) d a e pv).2.2→Upd M h h'→K (((partition (kI dec) d a e pv).1:Nat),(partition (kI dec) d a e pv).2.1) h'):
  HC PG fh [.slice s.a s.len s.cap,.int .i64 a,.int .i64 e,.int .i64 pv,qL] [.c (.int .i64),.c .bool] K h:=by
 refine nI s a e pv qL ?_;unfold iJ ae bS;have hsm:=hs.small;refine hs.swap (i:=a) (j:=pv) rfl rfl (by omega) (by omega) fun h0 hs0 hu0=>?_
 have hz0:(swp d a pv).size=d.size:=by simp
 have hP:partition (kI dec) d a e pv=(let d:=swp d a pv
  let i:=scanUp (fun x=>(kI dec) x d[a]!) d (e-1) (a+1)
  let j:=scanDown (fun x=> !(kI dec) x d[a]!) d i (e-1)
  if i>j then(j,true,swp d j a)else
  let r:=partLoop (kI dec) a (i+1) (j-1) (swp d i j)
  (r.1,false,swp r.2 r.1 a)):=rfl
 simp only at hP;generalize swp d a pv=d0 at hs0 hz0 hP;have we:IntKind.wrap .i64 ((e:Int)-1)=((e-1:Nat):Int):=by rw[cS (by omega)];omega
 have wa:IntKind.wrap .i64 ((a:Int)+1)=((a+1:Nat):Int):=by rw[cS (by omega)];rfl
 have g1:=scanUp_ge (fun x=>(kI dec) x d0[a]!) d0 (e-1) (a+1)
 refine Cx (d:=d0) (p:=fun x=>(kI dec) x d0[a]!) (j:=e-1) (i0:=a+1) wa we (by omega) (by omega) hs0 (fun k R h' hs' hk1 hk2 hR=>hs'.less (i:=k) (j:=a) rfl rfl (by omega) (by omega) fun h2 e2 hs2 k2 he2=>by rw[he2];exact hR _ hs2 k2) fun hA hsA kA=>?_
 generalize scanUp (fun x=>(kI dec) x d0[a]!) d0 (e-1) (a+1)=i2 at g1 hP
 have g2:=scanDown_le (fun x=> !(kI dec) x d0[a]!) d0 i2 (e-1)
 refine xp (d:=d0) (p:=fun x=> !(kI dec) x d0[a]!) (j0:=e-1) (i:=i2) we rfl (by omega) (by omega) hsA (fun k R h' hs' hk1 hk2 hR=>hs'.less (i:=k) (j:=a) rfl rfl (by omega) (by omega) fun h2 e2 hs2 k2 he2=>by rw[he2];exact hR _ hs2 k2) fun hB hsB kB=>?_
 generalize scanDown (fun x=> !(kI dec) x d0[a]!) d0 i2 (e-1)=j2 at g2 hP
 refine ax (fun hgt=>?_) fun hle=>?_
 ·rw[if_pos (by omega)]at hP
  rw[hP]at hk;exact hsB.swap (i:=j2) (j:=a) rfl rfl (by omega) (by omega) fun h2 hs2 hu2=>hk h2 hs2 ((hu0.tr (kA.tr kB).wide).tr hu2)
 ·rw[if_neg (by omega)]at hP
  refine hsB.swap (i:=i2) (j:=j2) rfl rfl (by omega) (by omega) fun h2 hs2 hu2=>?_
  refine LoopP.ghost (fun(g:Nat×Nat×Array Int) (t:Int×Int) h'=>t.1=(g.1:Int)∧t.2=(g.2.1:Int)∧SA dec M s h' g.2.2∧g.2.2.size=d.size∧partLoop (kI dec) a g.1 g.2.1 g.2.2=partLoop (kI dec) a (i2+1) (j2-1) (swp d0 i2 j2)∧Upd M h h'∧g.2.1<e∧a<g.1∧g.1≤1000000000) (fun g=>g.2.1+1-g.1) (i2+1,j2-1,swp d0 i2 j2)
   ⟨by simp only;rw[cS (by omega)];rfl,by simp only;rw[cS (by omega)];omega,hs2,by simp[hz0],rfl,(hu0.tr (kA.tr kB).wide).tr hu2,by simp only;omega,by simp only;omega,by simp only;omega⟩ ?_
  rintro I ⟨i,j,d1⟩ ⟨t1,t2⟩ h1 ⟨ht1,ht2,hs1,hz1,hr1,hu1,hj,hai,hi9⟩ hI;simp only at ht1 ht2 hs1 hz1 hr1 hj hai hi9;subst ht1 ht2;have g3:=scanUp_ge (fun x=>(kI dec) x d1[a]!) d1 j i
  rw[partLoop_eq]at hr1;refine Cx (d:=d1) (p:=fun x=>(kI dec) x d1[a]!) (i0:=i) rfl rfl (by omega) hi9 hs1 (fun k R h' hs' hk1 hk2 hR=>hs'.less (i:=k) (j:=a) rfl rfl (by omega) (by omega) fun h2 e2 hs2 k2 he2=>by rw[he2];exact hR _ hs2 k2) fun hC hsC kC=>?_
  generalize scanUp (fun x=>(kI dec) x d1[a]!) d1 j i=i3 at g3 hr1
  have g4:=scanDown_le (fun x=> !(kI dec) x d1[a]!) d1 i3 j
  refine xp (d:=d1) (p:=fun x=> !(kI dec) x d1[a]!) (j0:=j) (i:=i3) rfl rfl (by omega) (by omega) hsC (fun k R h' hs' hk1 hk2 hR=>hs'.less (i:=k) (j:=a) rfl rfl (by omega) (by omega) fun h2 e2 hs2 k2 he2=>by rw[he2];exact hR _ hs2 k2) fun hD hsD kD=>?_
  generalize scanDown (fun x=> !(kI dec) x d1[a]!) d1 i3 j=j3 at g4 hr1
  refine ax (fun hgt=>?_) fun hle3=>?_
  ·rw[if_pos (by omega)]at hr1
   rw[hP,←hr1]at hk;exact hsD.swap (i:=j3) (j:=a) rfl rfl (by omega) (by omega) fun h3 hs3 hu3=>hk h3 hs3 ((hu1.tr (kC.tr kD).wide).tr hu3)
  ·rw[if_neg (by omega)]at hr1
   refine hsD.swap (i:=i3) (j:=j3) rfl rfl (by omega) (by omega) fun h3 hs3 hu3=>?_
   exact hI (i3+1,j3-1,swp d1 i3 j3) _ _ ⟨by simp only;rw[cS (by omega)];rfl,by simp only;rw[cS (by omega)];omega,hs3,by simp[hz1],hr1,(hu1.tr (kC.tr kD).wide).tr hu3,by simp only;omega,by simp only;omega,by simp only;omega⟩ (by simp only;omega)
end Go.Proofs
namespace Go.Proofs
open Go Go.Lift Go.Sort
variable {dec:Int→Ch} {M:Nat→Prop} {s:SliceV} {h:af} {d:Array Int}
@[simp] theorem FG(lt:Int→Int→Bool):∀(j:Nat) (d:Array Int),(shiftDown lt j d).size=d.size
 |0,d=>rfl
 |j+1,d=>by rw[shiftDown];split;rfl;rw[FG lt j];simp
@[simp] theorem TY(lt:Int→Int→Bool)(e j:Nat)(d:Array Int):(shiftUp lt e j d).size=d.size:=by
 fun_induction shiftUp lt e j d<;>simp_all
theorem Hm{a e:Nat}(hs:SA dec M s h d)(ha:a<e)(he:e≤d.size){K:Bool→af→Prop}(hk:∀h',SA dec M s h' (partialInsertionSort (kI dec) d a e).1→Upd M h h'→K (partialInsertionSort (kI dec) d a e).2 h'):
  HC PG dw [.slice s.a s.len s.cap,.int .i64 a,.int .i64 e,qL] [.c .bool] K h:=by
 refine jC s a e qL ?_;unfold fq ae bS;have hsm:=hs.small;refine LoopP.ghost (fun(g:Nat×Nat×Array Int) (t:Int×Int) h'=>t.1=(g.2.1:Int)∧t.2=5-(g.1:Int)∧SA dec M s h' g.2.2∧g.2.2.size=d.size∧partialIns (kI dec) a e g.1 g.2.1 g.2.2=partialInsertionSort (kI dec) d a e∧Upd M h h'∧g.1≤5∧a<g.2.1∧g.2.1≤e) (fun g=>g.1) (5,a+1,d)
  ⟨by simp only;rw[cS (by omega)];rfl,by simp only;omega,hs,rfl,rfl,Upd.refl _ _,by simp,by simp,by simp only;omega⟩ ?_
 rintro I ⟨st,i0,d1⟩ ⟨t1,t2⟩ h1 ⟨ht1,ht2,hs1,hz1,hr1,hu1,hst,hai,hie⟩ hI;simp only at ht1 ht2 hs1 hz1 hr1 hst hai hie;subst ht1 ht2;refine ax (fun hlt=>?_) fun hge=>?_
 ·obtain⟨st,rfl⟩:∃k,st=k+1:=⟨st-1,by have:5-(st:Int)<5:=hlt;omega⟩
  refine Join.intro (fun t h'=>∃i2 d2,t=(i2:Nat)∧SA dec M s h' d2∧d2.size=d.size∧partialIns (kI dec) a e st i2 d2=partialInsertionSort (kI dec) d a e∧Upd M h h'∧a<i2∧i2≤e) (fun R hR=>?_) ?_
  ·refine LoopP.ghost (fun(i:Nat) (t:Int) h'=>t=(i:Int)∧SA dec M s h' d1∧Upd No h1 h'∧scanSorted (kI dec) d1 e i=scanSorted (kI dec) d1 e i0∧a<i∧i≤e) (fun i=>e-i) i0 ⟨rfl,hs1,Upd.refl _ _,rfl,hai,hie⟩ ?_
   rintro I2 i t h' ⟨rfl,hs2,k2,hsc,hai2,hie2⟩ hI2;refine Join.intro (fun c h''=>SA dec M s h'' d1∧Upd No h' h''∧(c=true↔i<e∧(kI dec) d1[i]! d1[i-1]! =false)) (fun R2 hR2=>?_) ?_
   ·refine ax (fun hle=>?_) fun hgt=>hR2 _ _ ⟨hs2,Upd.refl _ _,by simp;omega⟩
    exact hs2.less (i:=i) (j:=i-1) rfl (by rw[cS (by omega)];omega) (by omega) (by omega) fun h3 e3 hs3 k3 he3=>hR2 _ _ ⟨hs3,k3,by rw[he3];simp;omega⟩
   ·rintro c h'' ⟨hs3,k3,hc⟩
    have huA:=hu1.tr (k2.tr k3).wide;refine CondP.intro (fun h2=>?_) fun h2=>?_
    ·have hh:=hc.1 h2
     refine hI2 (i+1) _ _ ⟨by rw[cS (by omega)];rfl,hs3,k2.tr k3,?_,by omega,by omega⟩ (by omega)
     rw[←hsc];conv=>rhs;rw[scanSorted]
     rw[if_pos (by simp[hh])]
    ·have hsi:scanSorted (kI dec) d1 e i=i:=by
      rw[scanSorted,if_neg];intro hh;simp only[bc,decide_eq_true_iff,Bool.not_eq_eq_eq_not,Bool.not_true]at hh;rw[hc.2 hh]at h2;cases h2
     have hr2:=hr1;rw[partialIns]at hr2;simp only[←hsc,hsi]at hr2;refine CondP.intro (fun h3=>?_) fun h3=>?_
     ·have h3:i=e:=by
       have:(i:Int)=e:=by simpa using h3
       omega
      rw[if_pos h3]at hr2;rw[←hr2]at hk;exact hk _ hs3 huA
     ·have h3:i≠e:=fun e'=>by subst e';simp at h3
      rw[if_neg h3]at hr2;have we:IntKind.wrap .i64 ((e:Int)-(a:Int))=((e-a:Nat):Int):=by rw[cS (by omega)];omega
      show CondP (decide (IntKind.wrap .i64 ((e:Int)-(a:Int))<50)) _ _
      rw[we];refine ax (fun h4=>?_) fun h4=>?_
      ·rw[if_pos (by omega)]at hr2
       rw[←hr2]at hk;exact hk _ hs3 huA
      ·rw[if_neg (by omega)]at hr2
       have hi1:1≤i:=by omega
       refine hs3.swap (i:=i) (j:=i-1) rfl (by rw[cS (by omega)];omega) (by omega) (by omega) fun h5 hs5 hu5=>?_
       have hz5:(swp d1 i (i-1)).size=d.size:=by simp[hz1]
       generalize swp d1 i (i-1)=d5 at hs5 hz5 hr2;refine Join.intro (fun _ h'=>SA dec M s h' (if i-a≥2 then shiftDown (kI dec) (i-1) d5 else d5)∧Upd M h h') (fun R3 hR3=>?_) ?_
       ·have wi:IntKind.wrap .i64 ((i:Int)-(a:Int))=((i-a:Nat):Int):=by rw[cS (by omega)];omega
        show CondP (decide (IntKind.wrap .i64 ((i:Int)-(a:Int))≥2)) _ _
        rw[wi];refine ax (fun h6=>?_) fun h6=>?_
        ·rw[if_pos (by omega)]at hR3
         refine LoopP.ghost (fun(g:Nat×Array Int) (t:Int) h'=>t=(g.1:Int)∧SA dec M s h' g.2∧g.2.size=d.size∧shiftDown (kI dec) g.1 g.2=shiftDown (kI dec) (i-1) d5∧Upd M h h'∧g.1<e) (fun g=>g.1) (i-1,d5)
          ⟨by rw[cS (by omega)];simp only;omega,hs5,hz5,rfl,huA.tr hu5,by simp only;omega⟩ ?_
         rintro I4 ⟨j,d6⟩ t h7 ⟨ht,hs7,hz7,hr7,hu7,hje⟩ hI4;simp only at ht hs7 hz7 hr7 hje;subst ht;refine ax (fun h8=>?_) fun h8=>?_
         ·obtain⟨j,rfl⟩:∃k,j=k+1:=⟨j-1,by omega⟩
          have e1:IntKind.wrap .i64 (((j+1:Nat):Int)-1)=(j:Int):=by rw[cS (by omega)];omega
          rw[shiftDown]at hr7;refine hs7.less (i:=j+1) (j:=j) rfl e1 (by omega) (by omega) fun hL eL hsL kL heL=>?_
          have huL:=hu7.tr kL.wide;rw[heL];refine CondP.intro (fun h9=>?_) fun h9=>?_
          ·rw[if_pos h9]at hr7
           exact hR3 _ _ ⟨by rw[←hr7];exact hsL,huL⟩
          ·rw[if_neg (by rw[h9];simp)]at hr7
           refine hsL.swap (i:=j+1) (j:=j) rfl e1 (by omega) (by omega) fun h10 hs10 hu10=>?_
           exact hI4 (j,swp d6 (j+1) j) _ _ ⟨e1,hs10,by simp[hz7],hr7,huL.tr hu10,by simp only;omega⟩ (by simp)
         ·have:j=0:=by omega
          subst this;exact hR3 _ _ ⟨by rw[←hr7];exact hs7,hu7⟩
        ·rw[if_neg (by omega)]at hR3
         exact hR3 _ _ ⟨hs5,huA.tr hu5⟩
       ·rintro _ h6 ⟨hs6,hu6⟩
        have hz6:(if i-a≥2 then shiftDown (kI dec) (i-1) d5 else d5).size=d.size:=by split<;>simp[hz5]
        generalize (if i-a≥2 then shiftDown (kI dec) (i-1) d5 else d5)=d6 at hs6 hz6 hr2
        have wi:IntKind.wrap .i64 ((e:Int)-(i:Int))=((e-i:Nat):Int):=by rw[cS (by omega)];omega
        show CondP (decide (IntKind.wrap .i64 ((e:Int)-(i:Int))≥2)) _ _
        rw[wi];refine ax (fun h7=>?_) fun h7=>?_
        ·rw[if_pos (by omega)]at hr2
         refine LoopP.ghost (fun(g:Nat×Array Int) (t:Int) h'=>t=(g.1:Int)∧SA dec M s h' g.2∧g.2.size=d.size∧shiftUp (kI dec) e g.1 g.2=shiftUp (kI dec) e (i+1) d6∧Upd M h h'∧1≤g.1∧g.1≤e) (fun g=>e-g.1) (i+1,d6)
          ⟨by rw[cS (by omega)];rfl,hs6,hz6,rfl,hu6,by simp,by simp only;omega⟩ ?_
         rintro I4 ⟨j,d7⟩ t h8 ⟨ht,hs8,hz8,hr8,hu8,hj1,hje⟩ hI4;simp only at ht hs8 hz8 hr8 hj1 hje;subst ht;refine ax (fun h9=>?_) fun h9=>?_
         ·have e1:IntKind.wrap .i64 ((j:Int)-1)=((j-1:Nat):Int):=by rw[cS (by omega)];omega
          rw[shiftUp,if_pos (by omega)]at hr8;refine hs8.less (i:=j) (j:=j-1) rfl e1 (by omega) (by omega) fun hL eL hsL kL heL=>?_
          have huL:=hu8.tr kL.wide;rw[heL];refine CondP.intro (fun h10=>?_) fun h10=>?_
          ·rw[if_pos h10]at hr8
           exact hR _ _ ⟨i,d7,rfl,hsL,hz8,by rw[hr8];exact hr2,huL,hai2,hie2⟩
          ·rw[if_neg (by rw[h10];simp)]at hr8
           refine hsL.swap (i:=j) (j:=j-1) rfl e1 (by omega) (by omega) fun h11 hs11 hu11=>?_
           exact hI4 (j+1,swp d7 j (j-1)) _ _ ⟨by rw[cS (by omega)];rfl,hs11,by simp[hz8],hr8,huL.tr hu11,by simp,by simp only;omega⟩ (by simp only;omega)
         ·rw[shiftUp,if_neg (by omega)]at hr8
          exact hR _ _ ⟨i,d7,rfl,hs8,hz8,by rw[hr8];exact hr2,hu8,hai2,hie2⟩
        ·rw[if_neg (by omega)]at hr2
         exact hR _ _ ⟨i,d6,rfl,hs6,hz6,hr2,hu6,hai2,hie2⟩
  ·rintro t h' ⟨i2,d2,rfl,hs2,hz2,hr2,hu2,hai2,hie2⟩
   exact hI (st,i2,d2) _ _ ⟨rfl,by simp only;rw[cS (by omega)];omega,hs2,hz2,hr2,hu2,by simp only;omega,hai2,hie2⟩ (by simp)
 ·have:st=0:=by have:¬5-(st:Int)<5:=hge;omega
  subst this;rw[partialIns]at hr1;rw[←hr1]at hk;exact hk _ hs1 hu1
theorem CI{x y:Nat}(hs:SA dec M s h d)(hx:x<d.size)(hy:y<d.size){c:Nat}{n:Int}(hc:h[c]? =some (.cells #[.int .i64 n] ri (0,0))) (hcb:¬M c) {K:Int×Int→af→Prop}
  (hk:∀h' (p q:Nat) m,(p=x∧q=y∨p=y∧q=x)→SA dec M s h' d→h'[c]? =some (.cells #[.int .i64 m] ri (0,0))→Upd (· =c) h h'→K ((p:Int),(q:Int)) h'):
  HC PG dh [.slice s.a s.len s.cap,.int .i64 x,.int .i64 y,.pointer (some ⟨c,0,none⟩),qL] [.c (.int .i64),.c (.int .i64)] K h:=by
 refine pn s x y (some ⟨c,0,none⟩) qL ?_;unfold jx ae bS;refine hs.less (i:=y) (j:=x) rfl rfl hy hx fun h0 e0 hs0 k0 he0=>?_
 have hc0:=k0.get0 hc;rw[he0];refine CondP.intro (fun h1=>?_) fun h1=>?_
 ·refine⟨_,rfl,n,by rw[bf hc0];rfl,_,rfl,iR hc0 (by simp),?_⟩
  have k:Upd (· =c) h0 (hset h0 ⟨c,0,none⟩ (.int .i64 (IntKind.wrap .i64 (n+1)))):=Upd.hset _ _ rfl
  refine hk _ y x (IntKind.wrap .i64 (n+1)) (.inr ⟨rfl,rfl⟩) (hs0.updC k hcb) ?_ (k0.wide.tr k);rw[vh hc0,jB hc0];rfl
 ·exact hk _ x y _ (.inl ⟨rfl,rfl⟩) hs0 hc0 k0.wide
theorem IH{x y z:Nat}(hs:SA dec M s h d)(hx:x<d.size)(hy:y<d.size)(hz:z<d.size){c:Nat}{n:Int}(hc:h[c]? =some (.cells #[.int .i64 n] ri (0,0))) (hcb:¬M c) {K:Int→af→Prop}
  (hk:∀h' (p:Nat) m,(p=x∨p=y∨p=z)→SA dec M s h' d→h'[c]? =some (.cells #[.int .i64 m] ri (0,0))→Upd (· =c) h h'→K (p:Int) h'):
  HC PG eu [.slice s.a s.len s.cap,.int .i64 x,.int .i64 y,.int .i64 z,.pointer (some ⟨c,0,none⟩),qL] [.c (.int .i64)] K h:=by
 refine po s x y z (some ⟨c,0,none⟩) qL ?_;unfold jy;refine CI hs hx hy hc hcb fun h1 p1 q1 m1 e1 hs1 hc1 hu1=>?_
 have hq1:q1<d.size:=by omega
 have hp1:p1<d.size:=by omega
 refine CI hs1 hq1 hz hc1 hcb fun h2 p2 q2 m2 e2 hs2 hc2 hu2=>?_
 have hp2:p2<d.size:=by omega
 refine CI hs2 hp1 hp2 hc2 hcb fun h3 p3 q3 m3 e3 hs3 hc3 hu3=>?_
 exact hk _ q3 m3 (by omega) hs3 hc3 ((hu1.tr hu2).tr hu3)
theorem wd{x:Nat}(hs:SA dec M s h d)(h1:1≤x)(hx:x+1<d.size){c:Nat}{n:Int}(hc:h[c]? =some (.cells #[.int .i64 n] ri (0,0))) (hcb:¬M c) {K:Int→af→Prop}
  (hk:∀h' (p:Nat) m,(x-1≤p∧p≤x+1)→SA dec M s h' d→h'[c]? =some (.cells #[.int .i64 m] ri (0,0))→Upd (· =c) h h'→K (p:Int) h'):
  HC PG ct [.slice s.a s.len s.cap,.int .i64 x,.pointer (some ⟨c,0,none⟩),qL] [.c (.int .i64)] K h:=by
 refine lz s x (some ⟨c,0,none⟩) qL ?_;unfold gn;have hsm:=hs.small;have e1:IntKind.wrap .i64 ((x:Int)-1)=((x-1:Nat):Int):=by rw[cS (by omega)];omega
 have e2:IntKind.wrap .i64 ((x:Int)+1)=((x+1:Nat):Int):=by rw[cS (by omega)];omega
 rw[e1,e2];exact IH hs (by omega) (by omega) hx hc hcb fun h' p m hp hs' hc' hu'=>hk h' p m (by omega) hs' hc' hu'
theorem Gt{a e:Nat}(hs:SA dec M s h d)(ha:a<e)(he:e≤d.size){K:Int×Int→af→Prop}
  (hk:∀h' (p:Nat) (n:Int),a≤p→p<e→SA dec M s h' d→Upd No h h'→K ((p:Int),n) h'):
  HC PG eQ [.slice s.a s.len s.cap,.int .i64 a,.int .i64 e,qL] [.c (.int .i64),.c (.int .i64)] K h:=by
 refine mG s a e qL ?_;unfold ir;have hsm:=hs.small;have k0:=Upd.hnew No h [.int .i64 0] ri;have hc0:=bR h [.int .i64 0] ri;have hs0:=hs.upd0 k0;have hcb:¬M h.size:=fun hb=>by have:=hs.lt _ hb;omega
 simp only[At];generalize hnew h [.int .i64 0] ri=h0 at k0 hc0 hs0;have wl:IntKind.wrap .i64 ((e:Int)-(a:Int))=((e-a:Nat):Int):=by rw[cS (by omega)];omega
 have wq:IntKind.wrap .i64 (ni ((e-a:Nat):Int) 4)=(((e-a)/4:Nat):Int):=by
  rw[nh (by omega),cS (by omega)];omega
 have wm:∀k:Nat,k≤3→IntKind.wrap .i64 (((((e-a)/4:Nat):Int))*(k:Int))=(((e-a)/4*k:Nat):Int):=fun k hk=>by
  rw[Int.natCast_mul,cS];have:(e-a)/4*k≤1000000000*3:=Nat.mul_le_mul (by omega) hk;have:(((e-a)/4*k:Nat):Int)=(((e-a)/4:Nat):Int)*(k:Int):=Int.natCast_mul ..;omega
 have w1:=wm 1 (by omega);have w2:=wm 2 (by omega);have w3:=wm 3 (by omega);simp only[Int.cast_ofNat_Int]at w1 w2 w3;simp only[Bd,wl,wq];have w1':IntKind.wrap .i64 ((((e-a)/4:Nat):Int)*1)=(((e-a)/4*1:Nat):Int):=w1;have w2':IntKind.wrap .i64 ((((e-a)/4:Nat):Int)*2)=(((e-a)/4*2:Nat):Int):=w2;have w3':IntKind.wrap .i64 ((((e-a)/4:Nat):Int)*3)=(((e-a)/4*3:Nat):Int):=w3;rw[w1',w2',w3'];have wi:∀k:Nat,k≤3→IntKind.wrap .i64 ((a:Int)+(((e-a)/4*k:Nat):Int))=((a+(e-a)/4*k:Nat):Int):=fun k hk=>by
  have:(e-a)/4*k≤(e-a)/4*3:=Nat.mul_le_mul_left _ hk;rw[cS (by omega)];omega
 refine⟨by decide,by decide,by decide,?_⟩
 refine Join.intro (fun t h'=>∃p:Nat,t=(p:Int)∧a≤p∧p<e∧SA dec M s h' d∧Upd No h h'∧∃m,h'[h.size]? =some (.cells #[.int .i64 m] ri (0,0))) (fun R hR=>?_) ?_
 ·rw[wi 1 (by omega),wi 2 (by omega),wi 3 (by omega)]
  refine ax (fun h8=>?_) fun h8=>?_
  ·have h8:8≤e-a:=by omega
   refine Join.intro (fun t h'=>∃p q r:Nat,t=((p:Int),(q:Int),(r:Int))∧(a≤p∧p<e)∧(a≤q∧q<e)∧(a≤r∧r<e)∧SA dec M s h' d∧Upd No h h'∧∃m,h'[h.size]? =some (.cells #[.int .i64 m] ri (0,0))) (fun R2 hR2=>?_) ?_
   ·refine ax (fun h50=>?_) fun h50=>?_
    ·have h50:50≤e-a:=by omega
     refine wd hs0 (by omega) (by omega) hc0 hcb fun h1 p1 m1 e1 hs1 hc1 hu1=>?_
     refine wd hs1 (by omega) (by omega) hc1 hcb fun h2 p2 m2 e2 hs2 hc2 hu2=>?_
     refine wd hs2 (by omega) (by omega) hc2 hcb fun h3 p3 m3 e3 hs3 hc3 hu3=>?_
     exact hR2 _ _ ⟨p1,p2,p3,rfl,by omega,by omega,by omega,hs3,k0.trans ((hu1.tr hu2).tr hu3) fun b hb=>.inr (eP hb.symm),_,hc3⟩
    ·exact hR2 _ _ ⟨_,_,_,rfl,by omega,by omega,by omega,hs0,k0,_,hc0⟩
   ·rintro t h1 ⟨p,q,r,rfl,hp,hq,hr,hs1,hu1,m,hc1⟩
    refine IH hs1 (by omega) (by omega) (by omega) hc1 hcb fun h2 p2 m2 e2 hs2 hc2 hu2=>?_
    exact hR _ _ ⟨p2,rfl,by omega,by omega,hs2,hu1.trans hu2 fun b hb=>.inr (eP hb.symm),_,hc2⟩
  ·exact hR _ _ ⟨_,rfl,by omega,by omega,hs0,k0,_,hc0⟩
 ·rintro t h1 ⟨p,rfl,hp1,hp2,hs1,hu1,m,hc1⟩
  refine⟨m,by rw[cF,bf hc1];rfl,CondP.intro (fun _=>hk _ p _ hp1 hp2 hs1 hu1) fun _=>CondP.intro (fun _=>hk _ p _ hp1 hp2 hs1 hu1) fun _=>hk _ p _ hp1 hp2 hs1 hu1⟩
end Go.Proofs
namespace Go.Proofs
open Go Go.Lift Go.Sort
variable {dec:Int→Ch} {M:Nat→Prop} {s:SliceV} {h:af} {d:Array Int}
theorem TM(x:Int):IntKind.wrap .u64 x=x%18446744073709551616:=by
 simp[IntKind.wrap,IntKind.bits,IntKind.signed]
theorem and_le_right(x:Int){m:Int}(h0:0≤m)(hm:m<18446744073709551616):0≤IntKind.wrap .u64 ((aw (IntKind.bits .u64) x&&&aw (IntKind.bits .u64) m).toNat:Int)∧IntKind.wrap .u64 ((aw (IntKind.bits .u64) x&&&aw (IntKind.bits .u64) m).toNat:Int)≤m:=by
 have h1:(aw (IntKind.bits .u64) x&&&aw (IntKind.bits .u64) m).toNat≤(aw (IntKind.bits .u64) m).toNat:=by
  rw[BitVec.toNat_and];exact Nat.and_le_right
 have h2:((aw (IntKind.bits .u64) m).toNat:Int)=m:=by
  show((aw 64 m).toNat:Int)=m
  rw[BitVec.toNat_ofInt];have:m%((2^64:Nat):Int)=m:=Int.emod_eq_of_lt h0 (by omega);rw[this];omega
 rw[TM];omega
theorem N4{n:Nat}(h1:1≤n)(hn:n≤1000000000){K:Int→af→Prop}(hk:∀m:Nat,1≤m→m≤2*n→K (m:Int) h):HC PG kJ [.int .i64 n] [.c (.int .u64)] K h:=by
 refine vt n ?_;unfold pG;rw[show IntKind.wrap .u64 (n:Int)=(n:Int) by rw[TM];omega]
 refine Oa (by omega) fun L hL hp=>⟨by omega,?_⟩
 have:=hp h1;have e:IntKind.wrap .u64 (1*2^(min ((L:Int)).toNat (IntKind.bits .u64)))=((2^L:Nat):Int):=by
  rw[TM,show min ((L:Int)).toNat (IntKind.bits .u64)=L by simp[IntKind.bits];omega,Int.one_mul]
  have h2:(2:Int)^L=((2^L:Nat):Int):=by simp
  rw[h2];generalize 2^L=P at this⊢;omega
 rw[e];exact hk _ (Nat.one_le_two_pow) this
theorem Lc{c:Nat}{n:Int}{t:TypeId}(hc:h[c]? =some (.cells #[.int .u64 n] t (0,0))) {K:Int→af→Prop}
  (hk:∀h' m,h'[c]? =some (.cells #[.int .u64 m] t (0,0))→Upd (· =c) h h'→K m h'):HC PG ll [.pointer (some ⟨c,0,none⟩)] [.c (.int .u64)] K h:=by
 refine wL (some ⟨c,0,none⟩) ?_;unfold qa;have set:∀{h:af} {n:Int} (m:Int),h[c]? =some (.cells #[.int .u64 n] t (0,0))→(hset h ⟨c,0,none⟩ (.int .u64 m))[c]? =some (.cells #[.int .u64 m] t (0,0))∧Upd (· =c) h (hset h ⟨c,0,none⟩ (.int .u64 m))∧Wr h ⟨c,0,none⟩:=fun m hc=>by
  refine⟨?_,Upd.hset _ _ rfl,iR hc (by simp)⟩;rw[vh hc,jB hc];rfl
 have ld:∀{h:af} {n:Int},h[c]? =some (.cells #[.int .u64 n] t (0,0))→aL h ⟨c,0,none⟩=some (.int .u64 n):=fun hc=>by rw[bf hc];rfl
 refine⟨_,rfl,_,ld hc,_,rfl,_,ld hc,by omega,_,rfl,?_⟩
 obtain⟨s1,k1,w1⟩:=set _ hc;refine⟨w1,_,rfl,_,ld s1,_,rfl,_,ld s1,by omega,_,rfl,?_⟩
 obtain⟨s2,k2,w2⟩:=set _ s1;refine⟨w2,_,rfl,_,ld s2,_,rfl,_,ld s2,by omega,_,rfl,?_⟩
 obtain⟨s3,k3,w3⟩:=set _ s2;exact⟨w3,_,rfl,_,ld s3,hk _ _ s3 ((k1.tr k2).tr k3)⟩
theorem Da{a e:Nat}(hs:SA dec M s h d)(ha:a≤e)(he:e≤d.size){K:Unit→af→Prop}(hk:∀h' d',SA dec M s h' d'→PermIn a e d d'→Upd M h h'→K () h'):
  HC PG eC [.slice s.a s.len s.cap,.int .i64 a,.int .i64 e,qL] [] K h:=by
 refine lU s a e qL ?_;unfold gM ae bS;have hsm:=hs.small;have wl:IntKind.wrap .i64 ((e:Int)-(a:Int))=((e-a:Nat):Int):=by rw[cS (by omega)];omega
 rw[wl];refine ax (fun h8=>?_) fun h8=>hk h d hs (permIn_refl ..) (Upd.refl _ _)
 have h8:8≤e-a:=by omega
 have k0:=Upd.hnew No h [.int .u64 0] iE;have hc0:=bR h [.int .u64 0] iE;have hs0:=hs.upd0 k0;have hcb:¬M h.size:=fun hb=>by have:=hs.lt _ hb;omega
 simp only[At,cF];generalize hnew h [.int .u64 0] iE=h0 at k0 hc0 hs0;refine⟨iR hc0 (by simp),?_⟩;have k1:Upd (· =h.size) h0 (hset h0 ⟨h.size,0,none⟩ (.int .u64 (IntKind.wrap .u64 ((e-a:Nat):Int)))):=Upd.hset _ _ rfl
 have hc1:(hset h0 ⟨h.size,0,none⟩ (.int .u64 (IntKind.wrap .u64 ((e-a:Nat):Int))))[h.size]? =some (.cells #[.int .u64 (IntKind.wrap .u64 ((e-a:Nat):Int))] iE (0,0)):=by
  rw[vh hc0,jB hc0];rfl
 have hs1:=hs0.updC k1 hcb;generalize hset h0 ⟨h.size,0,none⟩ (.int .u64 (IntKind.wrap .u64 ((e-a:Nat):Int)))=h1 at k1 hc1 hs1;refine N4 (by omega) (by omega) fun m hm1 hm2=>⟨by decide,?_⟩
 have wq:IntKind.wrap .i64 (IntKind.wrap .i64 (ni ((e-a:Nat):Int) 4)*2)=(((e-a)/4*2:Nat):Int):=by
  rw[nh (by omega),cS (x:=((e-a:Nat):Int)/4) (by omega),cS (by omega)];omega
 simp only[Bd];rw[wq];have w0:IntKind.wrap .i64 (IntKind.wrap .i64 ((a:Int)+(((e-a)/4*2:Nat):Int))-1)=((a+(e-a)/4*2-1:Nat):Int):=by
  rw[cS (x:=(a:Int)+_) (by omega),cS (by omega)];omega
 have w2:IntKind.wrap .i64 (IntKind.wrap .i64 ((a:Int)+(((e-a)/4*2:Nat):Int))+1)=((a+(e-a)/4*2+1:Nat):Int):=by
  rw[cS (x:=(a:Int)+_) (by omega),cS (by omega)];omega
 rw[w0];refine LoopP.ghost (fun(g:Nat×Array Int) (t:Int) h'=>t=(g.1:Int)∧SA dec M s h' g.2∧PermIn a e d g.2∧Upd M h h'∧(∃n,h'[h.size]? =some (.cells #[.int .u64 n] iE (0,0)))∧a+(e-a)/4*2-1≤g.1∧g.1≤a+(e-a)/4*2+2) (fun g=>a+(e-a)/4*2+2-g.1) (a+(e-a)/4*2-1,d)
  ⟨rfl,hs1,permIn_refl ..,k0.wide.trans k1 fun x hx=>.inr (by omega),⟨_,hc1⟩,aq _,by simp only;omega⟩ ?_
 rintro I ⟨i,d1⟩ t h2 ⟨ht,hs2,hp2,hu2,⟨n2,hc2⟩,hi1,hi2⟩ hI;simp only at ht hs2 hp2 hi1 hi2;subst ht;have hz:d1.size=d.size:=hp2.1;refine⟨by decide,?_⟩;rw[w2];refine ax (fun hle=>?_) fun hgt=>hk h2 d1 hs2 hp2 hu2
 have hle:i≤a+(e-a)/4*2+1:=by omega
 refine Lc hc2 fun h3 r hc3 hu3=>?_
 have hs3:=hs2.updC hu3 hcb;have wm:IntKind.wrap .u64 ((m:Int)-1)=((m-1:Nat):Int):=by rw[TM];omega
 rw[wm];obtain⟨a0,a1⟩:=and_le_right r (m:=((m-1:Nat):Int)) (by omega) (by omega);generalize IntKind.wrap .u64 ((aw (IntKind.bits .u64) r&&&aw (IntKind.bits .u64) ((m-1:Nat):Int)).toNat:Int)=o at a0 a1;have wo:IntKind.wrap .i64 o=o:=cS (by omega);refine Join.intro (fun t h'=>h'=h3∧∃q:Nat,t=(q:Int)∧q<e-a) (fun R hR=>?_) ?_
 ·show CondP (decide (IntKind.wrap .i64 o≥((e-a:Nat):Int))) _ _
  rw[wo];refine ax (fun h4=>hR _ _ ⟨rfl,(o-((e-a:Nat):Int)).toNat,?_,by omega⟩) fun h4=>hR _ _ ⟨rfl,o.toNat,by omega,by omega⟩
  show IntKind.wrap .i64 (o-((e-a:Nat):Int))=_
  rw[cS (by omega)];omega
 ·rintro t h' ⟨rfl,q,rfl,hq⟩
  have wj:IntKind.wrap .i64 ((a:Int)+(q:Int))=((a+q:Nat):Int):=by rw[cS (by omega)];omega
  refine hs3.swap (i:=i) (j:=a+q) rfl wj (by omega) (by omega) fun h5 hs5 hu5=>?_
  refine hI (i+1,swp d1 i (a+q)) _ _ ⟨by rw[cS (by omega)];rfl,hs5,permIn_trans _ _ _ _ _ hp2 (swp_permIn d1 a e i (a+q) (by omega) (by omega) (by omega) (by omega) (by omega)),?_,⟨r,hu5.get hc3 hcb⟩,by simp only;omega,by simp only;omega⟩ (by simp only;omega)
  exact(hu2.trans hu3 fun x hx=>.inr (by omega)).tr hu5
end Go.Proofs
