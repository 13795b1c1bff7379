/- A part of the proof that the named laws of this program answer true, whatever the input. -/
import Derived.Test.YtncppacbfagpgaaGreatPart11
open List renaming getElem?_eq_getElem→ai,getElem_mem→bN
open Nat renaming zero_le→bw
namespace Go.Proofs
open Go Go.Lift
theorem TY{a b:Nat}(ha:a=0)(hb:b=0):IntKind.wrap .i64 ((a:Int)+(b:Int))=0:=by subst ha hb;decide
set_option maxRecDepth 100000 in
set_option maxHeartbeats 4000000 in
theorem D1{h:ad}{k:Int}{x:Hs}{s sm sn sg sk:SliceV}{l m n:List Pr}{g gk:List ByteArray}(hs:Sl eu 2 No h s l)(hl:l.length≤9223372036854775807)(hm:Sl eu 2 No h sm m)(hml:m.length≤9223372036854775807)(hn:Sl eu 2 No h sn n)(hnl:n.length≤9223372036854775807)(hg:Sl Ue 1 No h sg g)(hgl:g.length≤9223372036854775807)(hgk:Sl Ue 1 No h sk gk)(hkl:gk.length≤9223372036854775807)(hk0:0≤k)(hk1:k≤255):
  HC PG tl [.int .u8 k,.agg #[.int .u64 x.k0,.int .u64 x.k1,.int .u64 x.mask],.slice s.a s.len s.cap,.slice sm.a sm.len sm.cap,.slice sn.a sn.len sn.cap,.slice sg.a sg.len sg.cap,.slice sk.a sk.len sk.cap] [.c .bool] (fun b h'=>b=true∧Upd No h h') h:=by
 refine Af k (x.k0,x.k1,x.mask) s sm sn sg sk ?_;unfold tT ay cj aN cX ae aH ax bj aD au cd cp nv Dm zm jR rB oa nZ jH uT pO tY MZ kV;refine aM fun h1 b1 k1=>Nr fun h3 k3=>aj.2 ?_
 have c1:=k3.get0 b1;have k03:=k1.tr k3;refine⟨_,vc c1 0,_,vc c1 1,_,vc c1 2,?_⟩;have up:∀{α:Type} {f:α→List Value} {z:Nat} {s:SliceV} {xs:List α},Sl f z No h s xs→Sl f z No h3 s xs:=fun hs=>hs.upd k03 fun _ h=>h.elim
 refine Py (x:=x) hk0 hk1 (up hs) (up hm) (up hn) (up hg) (up hgk) (fun _ h=>h.elim) hl hml hnl hgl hkl false fun h8 t0 t1 t2 r0 r1 r2 i0 i1 i2 _ J1 J2 k8=>?_
 have f0:Few 200 (eK [] l):=(ly sM l).mono (by omega);have fF:Few 20 (if false then[]else eK [] l):=ly sM l
 have f1:Few 200 (m0 (eK (if false then[]else eK [] l) m) g):=(xQ (ly fF m) g).mono (by omega)
 have f2:Few 200 (m0 (eK (if false then[]else eK [] l) n) gk):=(xQ (ly fF n) gk).mono (by omega)
 clear fF;generalize IntKind.wrap .i64 (Int.tmod k 2)=kind at i0 i1 i2 J1 J2;generalize m0 (eK (if false then[]else eK [] l) m) g=L1 at*
 generalize m0 (eK (if false then[]else eK [] l) n) gk=L2 at*
 generalize eK [] l=L0 at*;have S1:Sl eu 2 No h8 r1.2.2.2.2 L1:=by
  obtain⟨q,e,S,_⟩:=J1;rw[e];exact S
 have S2:Sl eu 2 No h8 r2.2.2.2.2 L2:=by
  obtain⟨q,e,S,_⟩:=J2;rw[e];exact S
 clear J1 J2;refine Ut (t0:=t0) (t1:=t1) (t2:=t2) (r0:=r0) (r1:=r1) (r2:=r2) fun h10 w10 k10=>?_
 have k010:=(k03.tr k8).tr k10;have z10:=aO w10;have u0:=f0.up;have u1:=f1.up;have u2:=f2.up;have n0:=f0.len;have n1:=f1.len;have n2:=f2.len;refine Join.intro (fun t h'=>∃bo ba bb:Nat,t=(⟨bo,0,none⟩,⟨ba,0,none⟩,⟨bb,0,none⟩)∧h'[bo]? =some (.cells (fz t0).toArray aL (0,0))∧h'[ba]? =some (.cells (fz t1).toArray aL (0,0))∧h'[bb]? =some (.cells (fz t2).toArray aL (0,0))∧Upd No h10 h') (fun R hR=>?_) ?_
 ·skip
  refine⟨by decide,?_⟩;refine⟨_,bG w10 0 0 0,_,bG w10 0 0 1,_,bG w10 0 0 2,_,bG w10 0 0 3,_,bG w10 0 0 4,_,bG w10 0 0 5,?_⟩;refine⟨by decide,?_⟩;refine⟨_,bG w10 0 6 0,_,bG w10 0 6 1,_,bG w10 0 6 2,_,bG w10 0 6 3,_,bG w10 0 6 4,_,bG w10 0 6 5,?_⟩;refine⟨by decide,?_⟩;refine⟨_,bG w10 0 12 0,_,bG w10 0 12 1,_,bG w10 0 12 2,_,bG w10 0 12 3,_,bG w10 0 12 4,_,bG w10 0 12 5,?_⟩;constructor
  ·refine aM fun h84 b84 k84=>?_
   have s84:=k84.size;have z84:=aO b84;have w10:=k84.get0 w10;refine⟨⟨bG w10 0 12 0,bG w10 0 12 1,bG w10 0 12 2,bG w10 0 12 3,bG w10 0 12 4,bG w10 0 12 5⟩,?_⟩;refine⟨⟨bG w10 0 6 0,bG w10 0 6 1,bG w10 0 6 2,bG w10 0 6 3,bG w10 0 6 4,bG w10 0 6 5⟩,?_⟩;refine⟨⟨bG w10 0 0 0,bG w10 0 0 1,bG w10 0 0 2,bG w10 0 0 3,bG w10 0 0 4,bG w10 0 0 5⟩,?_⟩;constructor
   ·refine aM fun h85 b85 k85=>?_
    have s85:=k85.size;have z85:=aO b85;have w10:=k85.get0 w10;refine⟨⟨bG w10 0 12 0,bG w10 0 12 1,bG w10 0 12 2,bG w10 0 12 3,bG w10 0 12 4,bG w10 0 12 5⟩,?_⟩;refine⟨⟨bG w10 0 6 0,bG w10 0 6 1,bG w10 0 6 2,bG w10 0 6 3,bG w10 0 6 4,bG w10 0 6 5⟩,?_⟩;refine⟨⟨bG w10 0 0 0,bG w10 0 0 1,bG w10 0 0 2,bG w10 0 0 3,bG w10 0 0 4,bG w10 0 0 5⟩,?_⟩;refine aM fun h86 b86 k86=>?_
    have s86:=k86.size;have z86:=aO b86;have w10:=k86.get0 w10;refine⟨⟨bG w10 0 12 0,bG w10 0 12 1,bG w10 0 12 2,bG w10 0 12 3,bG w10 0 12 4,bG w10 0 12 5⟩,?_⟩;refine⟨⟨bG w10 0 6 0,bG w10 0 6 1,bG w10 0 6 2,bG w10 0 6 3,bG w10 0 6 4,bG w10 0 6 5⟩,?_⟩;refine⟨⟨bG w10 0 0 0,bG w10 0 0 1,bG w10 0 0 2,bG w10 0 0 3,bG w10 0 0 4,bG w10 0 0 5⟩,?_⟩;refine be (c:=fz sH) (vs:=fz t0) (k86.get0 (k85.get0 b84)) rfl fun h87 c87 hu87=>?_
    have s87:=hu87.size;have w10:=hu87.oth w10 (by omega);refine⟨⟨bG w10 0 12 0,bG w10 0 12 1,bG w10 0 12 2,bG w10 0 12 3,bG w10 0 12 4,bG w10 0 12 5⟩,?_⟩;refine⟨⟨bG w10 0 6 0,bG w10 0 6 1,bG w10 0 6 2,bG w10 0 6 3,bG w10 0 6 4,bG w10 0 6 5⟩,?_⟩;refine be (c:=fz sH) (vs:=fz t1) (hu87.oth (k86.get0 b85) (by omega)) rfl fun h88 c88 hu88=>?_
    have s88:=hu88.size;have w10:=hu88.oth w10 (by omega);refine⟨⟨bG w10 0 12 0,bG w10 0 12 1,bG w10 0 12 2,bG w10 0 12 3,bG w10 0 12 4,bG w10 0 12 5⟩,?_⟩;refine be (c:=fz sH) (vs:=fz t2) (hu88.oth (hu87.oth b86 (by omega)) (by omega)) rfl fun h89 c89 hu89=>?_
    have s89:=hu89.size;exact hR _ _ ⟨_,_,_,rfl,(hu89.oth (hu88.oth c87 (by omega)) (by omega)),(hu89.oth c88 (by omega)),c89,(((((k84.tr k85).tr k86).own hu87 (by omega)).own hu88 (by omega)).own hu89 (by omega))⟩
   ·refine aM fun h90 b90 k90=>?_
    have s90:=k90.size;have z90:=aO b90;have w10:=k90.get0 w10;refine⟨⟨bG w10 0 12 0,bG w10 0 12 1,bG w10 0 12 2,bG w10 0 12 3,bG w10 0 12 4,bG w10 0 12 5⟩,?_⟩;refine⟨⟨bG w10 0 6 0,bG w10 0 6 1,bG w10 0 6 2,bG w10 0 6 3,bG w10 0 6 4,bG w10 0 6 5⟩,?_⟩;refine⟨⟨bG w10 0 0 0,bG w10 0 0 1,bG w10 0 0 2,bG w10 0 0 3,bG w10 0 0 4,bG w10 0 0 5⟩,?_⟩;refine aM fun h91 b91 k91=>?_
    have s91:=k91.size;have z91:=aO b91;have w10:=k91.get0 w10;refine⟨⟨bG w10 0 12 0,bG w10 0 12 1,bG w10 0 12 2,bG w10 0 12 3,bG w10 0 12 4,bG w10 0 12 5⟩,?_⟩;refine⟨⟨bG w10 0 6 0,bG w10 0 6 1,bG w10 0 6 2,bG w10 0 6 3,bG w10 0 6 4,bG w10 0 6 5⟩,?_⟩;refine⟨⟨bG w10 0 0 0,bG w10 0 0 1,bG w10 0 0 2,bG w10 0 0 3,bG w10 0 0 4,bG w10 0 0 5⟩,?_⟩;refine be (c:=fz sH) (vs:=fz t0) (k91.get0 (k90.get0 b84)) rfl fun h92 c92 hu92=>?_
    have s92:=hu92.size;have w10:=hu92.oth w10 (by omega);refine⟨⟨bG w10 0 12 0,bG w10 0 12 1,bG w10 0 12 2,bG w10 0 12 3,bG w10 0 12 4,bG w10 0 12 5⟩,?_⟩;refine⟨⟨bG w10 0 6 0,bG w10 0 6 1,bG w10 0 6 2,bG w10 0 6 3,bG w10 0 6 4,bG w10 0 6 5⟩,?_⟩;refine be (c:=fz sH) (vs:=fz t1) (hu92.oth b91 (by omega)) rfl fun h93 c93 hu93=>?_
    have s93:=hu93.size;have w10:=hu93.oth w10 (by omega);refine⟨⟨bG w10 0 12 0,bG w10 0 12 1,bG w10 0 12 2,bG w10 0 12 3,bG w10 0 12 4,bG w10 0 12 5⟩,?_⟩;refine be (c:=fz sH) (vs:=fz t2) (hu93.oth (hu92.oth (k91.get0 b90) (by omega)) (by omega)) rfl fun h94 c94 hu94=>?_
    have s94:=hu94.size;exact hR _ _ ⟨_,_,_,rfl,(hu94.oth (hu93.oth c92 (by omega)) (by omega)),(hu94.oth c93 (by omega)),c94,(((((k84.tr k90).tr k91).own hu92 (by omega)).own hu93 (by omega)).own hu94 (by omega))⟩
  ·constructor
   ·refine aM fun h95 b95 k95=>?_
    have s95:=k95.size;have z95:=aO b95;have w10:=k95.get0 w10;refine⟨⟨bG w10 0 12 0,bG w10 0 12 1,bG w10 0 12 2,bG w10 0 12 3,bG w10 0 12 4,bG w10 0 12 5⟩,?_⟩;refine⟨⟨bG w10 0 6 0,bG w10 0 6 1,bG w10 0 6 2,bG w10 0 6 3,bG w10 0 6 4,bG w10 0 6 5⟩,?_⟩;refine⟨⟨bG w10 0 0 0,bG w10 0 0 1,bG w10 0 0 2,bG w10 0 0 3,bG w10 0 0 4,bG w10 0 0 5⟩,?_⟩;constructor
    ·refine aM fun h96 b96 k96=>?_
     have s96:=k96.size;have z96:=aO b96;have w10:=k96.get0 w10;refine⟨⟨bG w10 0 12 0,bG w10 0 12 1,bG w10 0 12 2,bG w10 0 12 3,bG w10 0 12 4,bG w10 0 12 5⟩,?_⟩;refine⟨⟨bG w10 0 6 0,bG w10 0 6 1,bG w10 0 6 2,bG w10 0 6 3,bG w10 0 6 4,bG w10 0 6 5⟩,?_⟩;refine⟨⟨bG w10 0 0 0,bG w10 0 0 1,bG w10 0 0 2,bG w10 0 0 3,bG w10 0 0 4,bG w10 0 0 5⟩,?_⟩;refine aM fun h97 b97 k97=>?_
     have s97:=k97.size;have z97:=aO b97;have w10:=k97.get0 w10;refine⟨⟨bG w10 0 12 0,bG w10 0 12 1,bG w10 0 12 2,bG w10 0 12 3,bG w10 0 12 4,bG w10 0 12 5⟩,?_⟩;refine⟨⟨bG w10 0 6 0,bG w10 0 6 1,bG w10 0 6 2,bG w10 0 6 3,bG w10 0 6 4,bG w10 0 6 5⟩,?_⟩;refine⟨⟨bG w10 0 0 0,bG w10 0 0 1,bG w10 0 0 2,bG w10 0 0 3,bG w10 0 0 4,bG w10 0 0 5⟩,?_⟩;refine be (c:=fz sH) (vs:=fz t0) (k97.get0 b96) rfl fun h98 c98 hu98=>?_
     have s98:=hu98.size;have w10:=hu98.oth w10 (by omega);refine⟨⟨bG w10 0 12 0,bG w10 0 12 1,bG w10 0 12 2,bG w10 0 12 3,bG w10 0 12 4,bG w10 0 12 5⟩,?_⟩;refine⟨⟨bG w10 0 6 0,bG w10 0 6 1,bG w10 0 6 2,bG w10 0 6 3,bG w10 0 6 4,bG w10 0 6 5⟩,?_⟩;refine be (c:=fz sH) (vs:=fz t1) (hu98.oth (k97.get0 (k96.get0 b95)) (by omega)) rfl fun h99 c99 hu99=>?_
     have s99:=hu99.size;have w10:=hu99.oth w10 (by omega);refine⟨⟨bG w10 0 12 0,bG w10 0 12 1,bG w10 0 12 2,bG w10 0 12 3,bG w10 0 12 4,bG w10 0 12 5⟩,?_⟩;refine be (c:=fz sH) (vs:=fz t2) (hu99.oth (hu98.oth b97 (by omega)) (by omega)) rfl fun h100 c100 hu100=>?_
     have s100:=hu100.size;exact hR _ _ ⟨_,_,_,rfl,(hu100.oth (hu99.oth c98 (by omega)) (by omega)),(hu100.oth c99 (by omega)),c100,(((((k95.tr k96).tr k97).own hu98 (by omega)).own hu99 (by omega)).own hu100 (by omega))⟩
    ·refine aM fun h101 b101 k101=>?_
     have s101:=k101.size;have z101:=aO b101;have w10:=k101.get0 w10;refine⟨⟨bG w10 0 12 0,bG w10 0 12 1,bG w10 0 12 2,bG w10 0 12 3,bG w10 0 12 4,bG w10 0 12 5⟩,?_⟩;refine⟨⟨bG w10 0 6 0,bG w10 0 6 1,bG w10 0 6 2,bG w10 0 6 3,bG w10 0 6 4,bG w10 0 6 5⟩,?_⟩;refine⟨⟨bG w10 0 0 0,bG w10 0 0 1,bG w10 0 0 2,bG w10 0 0 3,bG w10 0 0 4,bG w10 0 0 5⟩,?_⟩;refine aM fun h102 b102 k102=>?_
     have s102:=k102.size;have z102:=aO b102;have w10:=k102.get0 w10;refine⟨⟨bG w10 0 12 0,bG w10 0 12 1,bG w10 0 12 2,bG w10 0 12 3,bG w10 0 12 4,bG w10 0 12 5⟩,?_⟩;refine⟨⟨bG w10 0 6 0,bG w10 0 6 1,bG w10 0 6 2,bG w10 0 6 3,bG w10 0 6 4,bG w10 0 6 5⟩,?_⟩;refine⟨⟨bG w10 0 0 0,bG w10 0 0 1,bG w10 0 0 2,bG w10 0 0 3,bG w10 0 0 4,bG w10 0 0 5⟩,?_⟩;refine be (c:=fz sH) (vs:=fz t0) b102 rfl fun h103 c103 hu103=>?_
     have s103:=hu103.size;have w10:=hu103.oth w10 (by omega);refine⟨⟨bG w10 0 12 0,bG w10 0 12 1,bG w10 0 12 2,bG w10 0 12 3,bG w10 0 12 4,bG w10 0 12 5⟩,?_⟩;refine⟨⟨bG w10 0 6 0,bG w10 0 6 1,bG w10 0 6 2,bG w10 0 6 3,bG w10 0 6 4,bG w10 0 6 5⟩,?_⟩;refine be (c:=fz sH) (vs:=fz t1) (hu103.oth (k102.get0 (k101.get0 b95)) (by omega)) rfl fun h104 c104 hu104=>?_
     have s104:=hu104.size;have w10:=hu104.oth w10 (by omega);refine⟨⟨bG w10 0 12 0,bG w10 0 12 1,bG w10 0 12 2,bG w10 0 12 3,bG w10 0 12 4,bG w10 0 12 5⟩,?_⟩;refine be (c:=fz sH) (vs:=fz t2) (hu104.oth (hu103.oth (k102.get0 b101) (by omega)) (by omega)) rfl fun h105 c105 hu105=>?_
     have s105:=hu105.size;exact hR _ _ ⟨_,_,_,rfl,(hu105.oth (hu104.oth c103 (by omega)) (by omega)),(hu105.oth c104 (by omega)),c105,(((((k95.tr k101).tr k102).own hu103 (by omega)).own hu104 (by omega)).own hu105 (by omega))⟩
   ·refine aM fun h106 b106 k106=>?_
    have s106:=k106.size;have z106:=aO b106;have w10:=k106.get0 w10;refine⟨⟨bG w10 0 12 0,bG w10 0 12 1,bG w10 0 12 2,bG w10 0 12 3,bG w10 0 12 4,bG w10 0 12 5⟩,?_⟩;refine⟨⟨bG w10 0 6 0,bG w10 0 6 1,bG w10 0 6 2,bG w10 0 6 3,bG w10 0 6 4,bG w10 0 6 5⟩,?_⟩;refine⟨⟨bG w10 0 0 0,bG w10 0 0 1,bG w10 0 0 2,bG w10 0 0 3,bG w10 0 0 4,bG w10 0 0 5⟩,?_⟩;constructor
    ·refine aM fun h107 b107 k107=>?_
     have s107:=k107.size;have z107:=aO b107;have w10:=k107.get0 w10;refine⟨⟨bG w10 0 12 0,bG w10 0 12 1,bG w10 0 12 2,bG w10 0 12 3,bG w10 0 12 4,bG w10 0 12 5⟩,?_⟩;refine⟨⟨bG w10 0 6 0,bG w10 0 6 1,bG w10 0 6 2,bG w10 0 6 3,bG w10 0 6 4,bG w10 0 6 5⟩,?_⟩;refine⟨⟨bG w10 0 0 0,bG w10 0 0 1,bG w10 0 0 2,bG w10 0 0 3,bG w10 0 0 4,bG w10 0 0 5⟩,?_⟩;refine aM fun h108 b108 k108=>?_
     have s108:=k108.size;have z108:=aO b108;have w10:=k108.get0 w10;refine⟨⟨bG w10 0 12 0,bG w10 0 12 1,bG w10 0 12 2,bG w10 0 12 3,bG w10 0 12 4,bG w10 0 12 5⟩,?_⟩;refine⟨⟨bG w10 0 6 0,bG w10 0 6 1,bG w10 0 6 2,bG w10 0 6 3,bG w10 0 6 4,bG w10 0 6 5⟩,?_⟩;refine⟨⟨bG w10 0 0 0,bG w10 0 0 1,bG w10 0 0 2,bG w10 0 0 3,bG w10 0 0 4,bG w10 0 0 5⟩,?_⟩;refine be (c:=fz sH) (vs:=fz t0) (k108.get0 b107) rfl fun h109 c109 hu109=>?_
     have s109:=hu109.size;have w10:=hu109.oth w10 (by omega);refine⟨⟨bG w10 0 12 0,bG w10 0 12 1,bG w10 0 12 2,bG w10 0 12 3,bG w10 0 12 4,bG w10 0 12 5⟩,?_⟩;refine⟨⟨bG w10 0 6 0,bG w10 0 6 1,bG w10 0 6 2,bG w10 0 6 3,bG w10 0 6 4,bG w10 0 6 5⟩,?_⟩;refine be (c:=fz sH) (vs:=fz t1) (hu109.oth b108 (by omega)) rfl fun h110 c110 hu110=>?_
     have s110:=hu110.size;have w10:=hu110.oth w10 (by omega);refine⟨⟨bG w10 0 12 0,bG w10 0 12 1,bG w10 0 12 2,bG w10 0 12 3,bG w10 0 12 4,bG w10 0 12 5⟩,?_⟩;refine be (c:=fz sH) (vs:=fz t2) (hu110.oth (hu109.oth (k108.get0 (k107.get0 b106)) (by omega)) (by omega)) rfl fun h111 c111 hu111=>?_
     have s111:=hu111.size;exact hR _ _ ⟨_,_,_,rfl,(hu111.oth (hu110.oth c109 (by omega)) (by omega)),(hu111.oth c110 (by omega)),c111,(((((k106.tr k107).tr k108).own hu109 (by omega)).own hu110 (by omega)).own hu111 (by omega))⟩
    ·refine aM fun h112 b112 k112=>?_
     have s112:=k112.size;have z112:=aO b112;have w10:=k112.get0 w10;refine⟨⟨bG w10 0 12 0,bG w10 0 12 1,bG w10 0 12 2,bG w10 0 12 3,bG w10 0 12 4,bG w10 0 12 5⟩,?_⟩;refine⟨⟨bG w10 0 6 0,bG w10 0 6 1,bG w10 0 6 2,bG w10 0 6 3,bG w10 0 6 4,bG w10 0 6 5⟩,?_⟩;refine⟨⟨bG w10 0 0 0,bG w10 0 0 1,bG w10 0 0 2,bG w10 0 0 3,bG w10 0 0 4,bG w10 0 0 5⟩,?_⟩;refine aM fun h113 b113 k113=>?_
     have s113:=k113.size;have z113:=aO b113;have w10:=k113.get0 w10;refine⟨⟨bG w10 0 12 0,bG w10 0 12 1,bG w10 0 12 2,bG w10 0 12 3,bG w10 0 12 4,bG w10 0 12 5⟩,?_⟩;refine⟨⟨bG w10 0 6 0,bG w10 0 6 1,bG w10 0 6 2,bG w10 0 6 3,bG w10 0 6 4,bG w10 0 6 5⟩,?_⟩;refine⟨⟨bG w10 0 0 0,bG w10 0 0 1,bG w10 0 0 2,bG w10 0 0 3,bG w10 0 0 4,bG w10 0 0 5⟩,?_⟩;refine be (c:=fz sH) (vs:=fz t0) b113 rfl fun h114 c114 hu114=>?_
     have s114:=hu114.size;have w10:=hu114.oth w10 (by omega);refine⟨⟨bG w10 0 12 0,bG w10 0 12 1,bG w10 0 12 2,bG w10 0 12 3,bG w10 0 12 4,bG w10 0 12 5⟩,?_⟩;refine⟨⟨bG w10 0 6 0,bG w10 0 6 1,bG w10 0 6 2,bG w10 0 6 3,bG w10 0 6 4,bG w10 0 6 5⟩,?_⟩;refine be (c:=fz sH) (vs:=fz t1) (hu114.oth (k113.get0 b112) (by omega)) rfl fun h115 c115 hu115=>?_
     have s115:=hu115.size;have w10:=hu115.oth w10 (by omega);refine⟨⟨bG w10 0 12 0,bG w10 0 12 1,bG w10 0 12 2,bG w10 0 12 3,bG w10 0 12 4,bG w10 0 12 5⟩,?_⟩;refine be (c:=fz sH) (vs:=fz t2) (hu115.oth (hu114.oth (k113.get0 (k112.get0 b106)) (by omega)) (by omega)) rfl fun h116 c116 hu116=>?_
     have s116:=hu116.size;exact hR _ _ ⟨_,_,_,rfl,(hu116.oth (hu115.oth c114 (by omega)) (by omega)),(hu116.oth c115 (by omega)),c116,(((((k106.tr k112).tr k113).own hu114 (by omega)).own hu115 (by omega)).own hu116 (by omega))⟩
 rintro _ h118 ⟨bo,ba,bb,rfl,co,ca,cb,k118⟩;have w118:=k118.get0 w10;have i0:=(i0.upd0 k10).upd0 k118;have i1:=(i1.upd0 k10).upd0 k118;have i2:=(i2.upd0 k10).upd0 k118;have S1:=(S1.upd k10 fun _ h=>h.elim).upd k118 fun _ h=>h.elim
 have S2:=(S2.upd k10 fun _ h=>h.elim).upd k118 fun _ h=>h.elim
 have k0118:=k010.tr k118;have hN:∀{h':ad} (y:Nat),No y→y<h'.size:=fun _ h=>h.elim
 have lC:=um u0 u2;have fM:Few 600 (pY L0 L1 L2 0):=(zJ (p:=0) f0 f1 f2 (l:=iM L0 L2) (fun c hc=>(Dd f0 f2 c hc).1) f1).mono (by omega)
 have lM:=fM.len;refine⟨_,vc co 0,_,vc co 1,_,vc co 2,_,vc co 3,_,vc co 4,_,vc co 5,_,vc ca 0,_,vc ca 1,_,vc ca 2,_,vc ca 3,_,vc ca 4,_,vc ca 5,_,vc cb 0,_,vc cb 1,_,vc cb 2,_,vc cb 3,_,vc cb 4,_,vc cb 5,?_⟩;refine Fc (p:=0) i0 i1 i2 hN f0 f1 f2 (by omega) (by omega) (by omega) (by omega) (by omega) (fun _ hne h138 s1 os1 k138=>?_) fun hc0 h138 p1 s1 j1 os1 k138=>?_
 ·refine uV (t:=t1) fun h140 c140 k140=>?_
  refine av.2 (av.2 ⟨decide_eq_true ?_,(k0118.tr k138).tr k140⟩);have h1:=os1.len;rw[List.length_map]at h1;have h2:(tC L0 L1 L2 0).length≠0:=fun e=>hne (List.length_eq_zero_iff.1 e)
  simp only;omega
 have hc:=hc0 rfl;rw[hc]at os1;refine uV (t:=p1) fun h140 cT0 k140=>?_
 have v140:=k138.tr k140;refine aj.2 ⟨_,vc (v140.get0 co) 0,_,vc (v140.get0 co) 1,_,vc (v140.get0 co) 2,_,vc (v140.get0 co) 3,_,vc (v140.get0 co) 4,_,vc (v140.get0 co) 5,_,vc (v140.get0 cb) 0,_,vc (v140.get0 cb) 1,_,vc (v140.get0 cb) 2,_,vc (v140.get0 cb) 3,_,vc (v140.get0 cb) 4,_,vc (v140.get0 cb) 5,_,vc (v140.get0 ca) 0,_,vc (v140.get0 ca) 1,_,vc (v140.get0 ca) 2,_,vc (v140.get0 ca) 3,_,vc (v140.get0 ca) 4,_,vc (v140.get0 ca) 5,?_⟩
 have hc':tC L0 L2 L1 0= []:=(show tC L0 L2 L1 0=tC L0 L1 L2 0 from PO (p:=0) u0 u1 u2).trans hc
 refine Fc (p:=0) (i0.upd0 v140) (i2.upd0 v140) (i1.upd0 v140) hN f0 f2 f1 (by omega) (by omega) (by omega) (by omega) (by omega) (fun _ hne=>absurd hc' hne) fun _ h160 p2 s2 j2 os2 k160=>?_
 rw[hc']at os2;rw[show pY L0 L2 L1 0=pY L0 L1 L2 0 from MN (p:=0) u0 u1 u2]at j2
 refine uV (t:=p2) fun h162 cp2 k162=>?_
 have k142:=k160.tr k162;have v162:=v140.tr k142;have w162:=v162.get0 w118;have S2':=S2.upd v162 fun _ h=>h.elim
 refine⟨by decide,r2.2.2.2.2,bG w162 18 10 4,?_⟩;have hlen1:=S2'.len;refine LoopP.ghost (fun(i:Nat) (t:Int) h'=>t=(i:Int)∧i≤L2.length∧Upd No h162 h') (fun i=>L2.length-i) 0 ⟨rfl,bw _,Upd.refl _ _⟩ ?_
 rintro I1 i t h166 ⟨rfl,hi,hu1⟩ hI1;refine aA (fun hlt=>?_) fun _=>?_
 ·have hlt:i<L2.length:=by omega
  obtain⟨a,ha,_,hv⟩:=(S2'.upd hu1 fun _ h=>h.elim).at (ai hlt)
  refine⟨⟨by omega,by omega⟩,a,ha,L2[i].1,hv 0 _ rfl,L2[i].2,hv 1 _ rfl,?_⟩
  have hp:look L2 L2[i].1=some L2[i].2:=qS u2 (bN hlt);generalize L2[i]=p at hp⊢;refine xD (p:=p) fun h171 b171 k171=>?_
  have vB:=(v162.tr hu1).tr k171;have ba1:=vB.get0 co;have bb1:=vB.get0 ca;have bc1:=vB.get0 cb;have io1:=i0.upd0 vB;have ia1:=i1.upd0 vB;have ib1:=i2.upd0 vB;refine Join.intro (fun t h'=>∃x1 x2:Nat,t=(⟨x1,0,none⟩,⟨x2,0,none⟩)∧h'[x1]? =some (.cells (qD (jI (look L0 p.1))).toArray bf (0,0))∧h'[x2]? =some (.cells (qD (jI (look L1 p.1))).toArray bf (0,0))∧Upd No h171 h') (fun R hR=>?_) ?_
  ·skip
   refine⟨_,vc ba1 0,_,vc ba1 1,_,vc ba1 2,_,vc ba1 3,_,vc ba1 4,_,vc ba1 5,_,vc b171 0,_,vc bb1 0,_,vc bb1 1,_,vc bb1 2,_,vc bb1 3,_,vc bb1 4,_,vc bb1 5,_,vc b171 0,?_⟩;constructor
   ·refine dE (io1.upd0 (Upd.refl _ _)) (fun _ h=>h.elim) f0.up (by have:=f0.len;omega) p.1 fun h279 k279=>?_
    have s279:=k279.size;have b171:=k279.get0 b171;refine⟨vc b171 0,?_⟩;have bb1:=k279.get0 bb1;refine⟨⟨vc bb1 0,vc bb1 1,vc bb1 2,vc bb1 3,vc bb1 4,vc bb1 5⟩,?_⟩;constructor
    ·refine dE (ia1.upd0 k279) (fun _ h=>h.elim) f1.up (by have:=f1.len;omega) p.1 fun h281 k281=>?_
     have s281:=k281.size;constructor
     ·refine aM fun h282 b282 k282=>?_
      have s282:=k282.size;have z282:=aO b282;refine aM fun h283 b283 k283=>?_
      have s283:=k283.size;have z283:=aO b283;refine be (c:= [.string (⟨#[]⟩:ByteArray),.bool false]) (vs:=qD (jI (look L0 p.1))) (k283.get0 b282) rfl fun h284 c284 hu284=>?_
      have s284:=hu284.size;refine be (c:= [.string (⟨#[]⟩:ByteArray),.bool false]) (vs:=qD (jI (look L1 p.1))) (hu284.oth b283 (by omega)) rfl fun h285 c285 hu285=>?_
      have s285:=hu285.size;exact hR _ _ ⟨_,_,rfl,(hu285.oth c284 (by omega)),c285,(((((k279.tr k281).tr k282).tr k283).own hu284 (by omega)).own hu285 (by omega))⟩
     ·refine aM fun h286 b286 k286=>?_
      have s286:=k286.size;have z286:=aO b286;refine aM fun h287 b287 k287=>?_
      have s287:=k287.size;have z287:=aO b287;refine be (c:= [.string (⟨#[]⟩:ByteArray),.bool false]) (vs:=qD (jI (look L0 p.1))) b287 rfl fun h288 c288 hu288=>?_
      have s288:=hu288.size;refine be (c:= [.string (⟨#[]⟩:ByteArray),.bool false]) (vs:=qD (jI (look L1 p.1))) (hu288.oth (k287.get0 b286) (by omega)) rfl fun h289 c289 hu289=>?_
      have s289:=hu289.size;exact hR _ _ ⟨_,_,rfl,(hu289.oth c288 (by omega)),c289,(((((k279.tr k281).tr k286).tr k287).own hu288 (by omega)).own hu289 (by omega))⟩
    ·constructor
     ·refine aM fun h290 b290 k290=>?_
      have s290:=k290.size;have z290:=aO b290;have b171:=k290.get0 b171;refine⟨vc b171 0,?_⟩;have bb1:=k290.get0 bb1;refine⟨⟨vc bb1 0,vc bb1 1,vc bb1 2,vc bb1 3,vc bb1 4,vc bb1 5⟩,?_⟩;constructor
      ·refine dE (ia1.upd0 (k279.tr k290)) (fun _ h=>h.elim) f1.up (by have:=f1.len;omega) p.1 fun h292 k292=>?_
       have s292:=k292.size;refine aM fun h293 b293 k293=>?_
       have s293:=k293.size;have z293:=aO b293;refine be (c:= [.string (⟨#[]⟩:ByteArray),.bool false]) (vs:=qD (jI (look L0 p.1))) (k293.get0 (k292.get0 b290)) rfl fun h294 c294 hu294=>?_
       have s294:=hu294.size;refine be (c:= [.string (⟨#[]⟩:ByteArray),.bool false]) (vs:=qD (jI (look L1 p.1))) (hu294.oth b293 (by omega)) rfl fun h295 c295 hu295=>?_
       have s295:=hu295.size;exact hR _ _ ⟨_,_,rfl,(hu295.oth c294 (by omega)),c295,(((((k279.tr k290).tr k292).tr k293).own hu294 (by omega)).own hu295 (by omega))⟩
      ·refine aM fun h296 b296 k296=>?_
       have s296:=k296.size;have z296:=aO b296;have b171:=k296.get0 b171;refine⟨vc b171 0,?_⟩;have bb1:=k296.get0 bb1;refine⟨⟨vc bb1 0,vc bb1 1,vc bb1 2,vc bb1 3,vc bb1 4,vc bb1 5⟩,?_⟩;refine dE (ia1.upd0 ((k279.tr k290).tr k296)) (fun _ h=>h.elim) f1.up (by have:=f1.len;omega) p.1 fun h298 k298=>?_
       have s298:=k298.size;refine be (c:= [.string (⟨#[]⟩:ByteArray),.bool false]) (vs:=qD (jI (look L0 p.1))) (k298.get0 (k296.get0 b290)) rfl fun h299 c299 hu299=>?_
       have s299:=hu299.size;refine be (c:= [.string (⟨#[]⟩:ByteArray),.bool false]) (vs:=qD (jI (look L1 p.1))) (hu299.oth (k298.get0 b296) (by omega)) rfl fun h300 c300 hu300=>?_
       have s300:=hu300.size;exact hR _ _ ⟨_,_,rfl,(hu300.oth c299 (by omega)),c300,(((((k279.tr k290).tr k296).tr k298).own hu299 (by omega)).own hu300 (by omega))⟩
     ·refine aM fun h301 b301 k301=>?_
      have s301:=k301.size;have z301:=aO b301;have b171:=k301.get0 b171;refine⟨vc b171 0,?_⟩;have bb1:=k301.get0 bb1;refine⟨⟨vc bb1 0,vc bb1 1,vc bb1 2,vc bb1 3,vc bb1 4,vc bb1 5⟩,?_⟩;constructor
      ·refine dE (ia1.upd0 (k279.tr k301)) (fun _ h=>h.elim) f1.up (by have:=f1.len;omega) p.1 fun h303 k303=>?_
       have s303:=k303.size;refine aM fun h304 b304 k304=>?_
       have s304:=k304.size;have z304:=aO b304;refine be (c:= [.string (⟨#[]⟩:ByteArray),.bool false]) (vs:=qD (jI (look L0 p.1))) b304 rfl fun h305 c305 hu305=>?_
       have s305:=hu305.size;refine be (c:= [.string (⟨#[]⟩:ByteArray),.bool false]) (vs:=qD (jI (look L1 p.1))) (hu305.oth (k304.get0 (k303.get0 b301)) (by omega)) rfl fun h306 c306 hu306=>?_
       have s306:=hu306.size;exact hR _ _ ⟨_,_,rfl,(hu306.oth c305 (by omega)),c306,(((((k279.tr k301).tr k303).tr k304).own hu305 (by omega)).own hu306 (by omega))⟩
      ·refine aM fun h307 b307 k307=>?_
       have s307:=k307.size;have z307:=aO b307;have b171:=k307.get0 b171;refine⟨vc b171 0,?_⟩;have bb1:=k307.get0 bb1;refine⟨⟨vc bb1 0,vc bb1 1,vc bb1 2,vc bb1 3,vc bb1 4,vc bb1 5⟩,?_⟩;refine dE (ia1.upd0 ((k279.tr k301).tr k307)) (fun _ h=>h.elim) f1.up (by have:=f1.len;omega) p.1 fun h309 k309=>?_
       have s309:=k309.size;refine be (c:= [.string (⟨#[]⟩:ByteArray),.bool false]) (vs:=qD (jI (look L0 p.1))) (k309.get0 b307) rfl fun h310 c310 hu310=>?_
       have s310:=hu310.size;refine be (c:= [.string (⟨#[]⟩:ByteArray),.bool false]) (vs:=qD (jI (look L1 p.1))) (hu310.oth (k309.get0 (k307.get0 b301)) (by omega)) rfl fun h311 c311 hu311=>?_
       have s311:=hu311.size;exact hR _ _ ⟨_,_,rfl,(hu311.oth c310 (by omega)),c311,(((((k279.tr k301).tr k307).tr k309).own hu310 (by omega)).own hu311 (by omega))⟩
   ·constructor
    ·refine aM fun h312 b312 k312=>?_
     have s312:=k312.size;have z312:=aO b312;have b171:=k312.get0 b171;refine⟨vc b171 0,?_⟩;have bb1:=k312.get0 bb1;refine⟨⟨vc bb1 0,vc bb1 1,vc bb1 2,vc bb1 3,vc bb1 4,vc bb1 5⟩,?_⟩;refine⟨vc b171 0,?_⟩;have ba1:=k312.get0 ba1;refine⟨⟨vc ba1 0,vc ba1 1,vc ba1 2,vc ba1 3,vc ba1 4,vc ba1 5⟩,?_⟩;constructor
     ·refine dE (io1.upd0 k312) (fun _ h=>h.elim) f0.up (by have:=f0.len;omega) p.1 fun h314 k314=>?_
      have s314:=k314.size;have b171:=k314.get0 b171;refine⟨vc b171 0,?_⟩;have bb1:=k314.get0 bb1;refine⟨⟨vc bb1 0,vc bb1 1,vc bb1 2,vc bb1 3,vc bb1 4,vc bb1 5⟩,?_⟩;constructor
      ·refine dE (ia1.upd0 (k312.tr k314)) (fun _ h=>h.elim) f1.up (by have:=f1.len;omega) p.1 fun h316 k316=>?_
       have s316:=k316.size;refine aM fun h317 b317 k317=>?_
       have s317:=k317.size;have z317:=aO b317;refine be (c:= [.string (⟨#[]⟩:ByteArray),.bool false]) (vs:=qD (jI (look L0 p.1))) (k317.get0 (k316.get0 (k314.get0 b312))) rfl fun h318 c318 hu318=>?_
       have s318:=hu318.size;refine be (c:= [.string (⟨#[]⟩:ByteArray),.bool false]) (vs:=qD (jI (look L1 p.1))) (hu318.oth b317 (by omega)) rfl fun h319 c319 hu319=>?_
       have s319:=hu319.size;exact hR _ _ ⟨_,_,rfl,(hu319.oth c318 (by omega)),c319,(((((k312.tr k314).tr k316).tr k317).own hu318 (by omega)).own hu319 (by omega))⟩
      ·refine aM fun h320 b320 k320=>?_
       have s320:=k320.size;have z320:=aO b320;have b171:=k320.get0 b171;refine⟨vc b171 0,?_⟩;have bb1:=k320.get0 bb1;refine⟨⟨vc bb1 0,vc bb1 1,vc bb1 2,vc bb1 3,vc bb1 4,vc bb1 5⟩,?_⟩;refine dE (ia1.upd0 ((k312.tr k314).tr k320)) (fun _ h=>h.elim) f1.up (by have:=f1.len;omega) p.1 fun h322 k322=>?_
       have s322:=k322.size;refine be (c:= [.string (⟨#[]⟩:ByteArray),.bool false]) (vs:=qD (jI (look L0 p.1))) (k322.get0 (k320.get0 (k314.get0 b312))) rfl fun h323 c323 hu323=>?_
       have s323:=hu323.size;refine be (c:= [.string (⟨#[]⟩:ByteArray),.bool false]) (vs:=qD (jI (look L1 p.1))) (hu323.oth (k322.get0 b320) (by omega)) rfl fun h324 c324 hu324=>?_
       have s324:=hu324.size;exact hR _ _ ⟨_,_,rfl,(hu324.oth c323 (by omega)),c324,(((((k312.tr k314).tr k320).tr k322).own hu323 (by omega)).own hu324 (by omega))⟩
     ·refine aM fun h325 b325 k325=>?_
      have s325:=k325.size;have z325:=aO b325;have b171:=k325.get0 b171;refine⟨vc b171 0,?_⟩;have bb1:=k325.get0 bb1;refine⟨⟨vc bb1 0,vc bb1 1,vc bb1 2,vc bb1 3,vc bb1 4,vc bb1 5⟩,?_⟩;refine⟨vc b171 0,?_⟩;have ba1:=k325.get0 ba1;refine⟨⟨vc ba1 0,vc ba1 1,vc ba1 2,vc ba1 3,vc ba1 4,vc ba1 5⟩,?_⟩;refine dE (io1.upd0 (k312.tr k325)) (fun _ h=>h.elim) f0.up (by have:=f0.len;omega) p.1 fun h327 k327=>?_
      have s327:=k327.size;have b171:=k327.get0 b171;refine⟨vc b171 0,?_⟩;have bb1:=k327.get0 bb1;refine⟨⟨vc bb1 0,vc bb1 1,vc bb1 2,vc bb1 3,vc bb1 4,vc bb1 5⟩,?_⟩;refine dE (ia1.upd0 ((k312.tr k325).tr k327)) (fun _ h=>h.elim) f1.up (by have:=f1.len;omega) p.1 fun h329 k329=>?_
      have s329:=k329.size;refine be (c:= [.string (⟨#[]⟩:ByteArray),.bool false]) (vs:=qD (jI (look L0 p.1))) (k329.get0 (k327.get0 (k325.get0 b312))) rfl fun h330 c330 hu330=>?_
      have s330:=hu330.size;refine be (c:= [.string (⟨#[]⟩:ByteArray),.bool false]) (vs:=qD (jI (look L1 p.1))) (hu330.oth (k329.get0 (k327.get0 b325)) (by omega)) rfl fun h331 c331 hu331=>?_
      have s331:=hu331.size;exact hR _ _ ⟨_,_,rfl,(hu331.oth c330 (by omega)),c331,(((((k312.tr k325).tr k327).tr k329).own hu330 (by omega)).own hu331 (by omega))⟩
    ·refine aM fun h332 b332 k332=>?_
     have s332:=k332.size;have z332:=aO b332;have b171:=k332.get0 b171;refine⟨vc b171 0,?_⟩;have bb1:=k332.get0 bb1;refine⟨⟨vc bb1 0,vc bb1 1,vc bb1 2,vc bb1 3,vc bb1 4,vc bb1 5⟩,?_⟩;refine⟨vc b171 0,?_⟩;have ba1:=k332.get0 ba1;refine⟨⟨vc ba1 0,vc ba1 1,vc ba1 2,vc ba1 3,vc ba1 4,vc ba1 5⟩,?_⟩;constructor
     ·refine dE (io1.upd0 k332) (fun _ h=>h.elim) f0.up (by have:=f0.len;omega) p.1 fun h334 k334=>?_
      have s334:=k334.size;have b171:=k334.get0 b171;refine⟨vc b171 0,?_⟩;have bb1:=k334.get0 bb1;refine⟨⟨vc bb1 0,vc bb1 1,vc bb1 2,vc bb1 3,vc bb1 4,vc bb1 5⟩,?_⟩;constructor
      ·refine dE (ia1.upd0 (k332.tr k334)) (fun _ h=>h.elim) f1.up (by have:=f1.len;omega) p.1 fun h336 k336=>?_
       have s336:=k336.size;refine aM fun h337 b337 k337=>?_
       have s337:=k337.size;have z337:=aO b337;refine be (c:= [.string (⟨#[]⟩:ByteArray),.bool false]) (vs:=qD (jI (look L0 p.1))) b337 rfl fun h338 c338 hu338=>?_
       have s338:=hu338.size;refine be (c:= [.string (⟨#[]⟩:ByteArray),.bool false]) (vs:=qD (jI (look L1 p.1))) (hu338.oth (k337.get0 (k336.get0 (k334.get0 b332))) (by omega)) rfl fun h339 c339 hu339=>?_
       have s339:=hu339.size;exact hR _ _ ⟨_,_,rfl,(hu339.oth c338 (by omega)),c339,(((((k332.tr k334).tr k336).tr k337).own hu338 (by omega)).own hu339 (by omega))⟩
      ·refine aM fun h340 b340 k340=>?_
       have s340:=k340.size;have z340:=aO b340;have b171:=k340.get0 b171;refine⟨vc b171 0,?_⟩;have bb1:=k340.get0 bb1;refine⟨⟨vc bb1 0,vc bb1 1,vc bb1 2,vc bb1 3,vc bb1 4,vc bb1 5⟩,?_⟩;refine dE (ia1.upd0 ((k332.tr k334).tr k340)) (fun _ h=>h.elim) f1.up (by have:=f1.len;omega) p.1 fun h342 k342=>?_
       have s342:=k342.size;refine be (c:= [.string (⟨#[]⟩:ByteArray),.bool false]) (vs:=qD (jI (look L0 p.1))) (k342.get0 b340) rfl fun h343 c343 hu343=>?_
       have s343:=hu343.size;refine be (c:= [.string (⟨#[]⟩:ByteArray),.bool false]) (vs:=qD (jI (look L1 p.1))) (hu343.oth (k342.get0 (k340.get0 (k334.get0 b332))) (by omega)) rfl fun h344 c344 hu344=>?_
       have s344:=hu344.size;exact hR _ _ ⟨_,_,rfl,(hu344.oth c343 (by omega)),c344,(((((k332.tr k334).tr k340).tr k342).own hu343 (by omega)).own hu344 (by omega))⟩
     ·refine aM fun h345 b345 k345=>?_
      have s345:=k345.size;have z345:=aO b345;have b171:=k345.get0 b171;refine⟨vc b171 0,?_⟩;have bb1:=k345.get0 bb1;refine⟨⟨vc bb1 0,vc bb1 1,vc bb1 2,vc bb1 3,vc bb1 4,vc bb1 5⟩,?_⟩;refine⟨vc b171 0,?_⟩;have ba1:=k345.get0 ba1;refine⟨⟨vc ba1 0,vc ba1 1,vc ba1 2,vc ba1 3,vc ba1 4,vc ba1 5⟩,?_⟩;refine dE (io1.upd0 (k332.tr k345)) (fun _ h=>h.elim) f0.up (by have:=f0.len;omega) p.1 fun h347 k347=>?_
      have s347:=k347.size;have b171:=k347.get0 b171;refine⟨vc b171 0,?_⟩;have bb1:=k347.get0 bb1;refine⟨⟨vc bb1 0,vc bb1 1,vc bb1 2,vc bb1 3,vc bb1 4,vc bb1 5⟩,?_⟩;refine dE (ia1.upd0 ((k332.tr k345).tr k347)) (fun _ h=>h.elim) f1.up (by have:=f1.len;omega) p.1 fun h349 k349=>?_
      have s349:=k349.size;refine be (c:= [.string (⟨#[]⟩:ByteArray),.bool false]) (vs:=qD (jI (look L0 p.1))) (k349.get0 (k347.get0 b345)) rfl fun h350 c350 hu350=>?_
      have s350:=hu350.size;refine be (c:= [.string (⟨#[]⟩:ByteArray),.bool false]) (vs:=qD (jI (look L1 p.1))) (hu350.oth (k349.get0 (k347.get0 (k345.get0 b332))) (by omega)) rfl fun h351 c351 hu351=>?_
      have s351:=hu351.size;exact hR _ _ ⟨_,_,rfl,(hu351.oth c350 (by omega)),c351,(((((k332.tr k345).tr k347).tr k349).own hu350 (by omega)).own hu351 (by omega))⟩
  rintro _ h353 ⟨x1,x2,rfl,q1,q3,kC⟩;have bC:=kC.get0 b171;have uC:=(k142.tr ((hu1.tr k171).tr kC));refine Join.intro (fun t h'=>t=false∧Upd No h353 h') (fun R hR=>?_) ?_
  ·refine⟨(jI (look L0 p.1)).1,vc q1 0,(jI (look L0 p.1)).2,vc q1 1,(jI (look L1 p.1)).1,vc q3 0,(jI (look L1 p.1)).2,vc q3 1,?_⟩
   rw[QT (jI (look L0 p.1)) (jI (look L1 p.1))];refine aA (fun e=>?_) fun _=>hR _ _ ⟨rfl,Upd.refl _ _⟩
   have e:=Iq.1 e;have cT:=uC.get0 cT0;refine⟨_,vc cT 0,_,vc cT 1,_,vc cT 2,_,vc cT 3,_,vc cT 4,_,vc cT 5,p.1,vc bC 0,p.2,vc bC 1,?_⟩;refine dE (j1.upd0 (k140.tr uC)) (fun _ h=>h.elim) fM.up (by omega) p.1 fun hG kG=>?_
   rw[KH u0 u2 e,hp];exact⟨vc (kG.get0 bC) 1,⟨vc (kG.get0 q3) 0,vc (kG.get0 q3) 1⟩,⟨vc (kG.get0 q1) 0,vc (kG.get0 q1) 1⟩,hR _ _ ⟨by show(!((p.2.toList==p.2.toList)&&((true==true)&&true)))=false;simp,kG⟩⟩
  ·rintro t hE ⟨rfl,kE⟩
   refine aj.2 ?_;rw[gR hlt (by omega)];exact hI1 (i+1) _ _ ⟨rfl,hlt,((hu1.tr k171).tr kC).tr kE⟩ (by omega)
 ·have w166:=hu1.get0 w162
  have S1':=S1.upd (v162.tr hu1) fun _ h=>h.elim
  refine⟨by decide,r1.2.2.2.2,bG w166 18 5 4,?_⟩;have hlen2:=S1'.len;refine LoopP.ghost (fun(i:Nat) (t:Int) h'=>t=(i:Int)∧i≤L1.length∧Upd No h166 h') (fun i=>L1.length-i) 0 ⟨rfl,bw _,Upd.refl _ _⟩ ?_
  rintro I2 i t h374 ⟨rfl,hi,hu2⟩ hI2;refine aA (fun hlt=>?_) fun _=>?_
  ·have hlt:i<L1.length:=by omega
   obtain⟨a,ha,_,hv⟩:=(S1'.upd hu2 fun _ h=>h.elim).at (ai hlt)
   refine⟨⟨by omega,by omega⟩,a,ha,L1[i].1,hv 0 _ rfl,L1[i].2,hv 1 _ rfl,?_⟩
   have hp:look L1 L1[i].1=some L1[i].2:=qS u1 (bN hlt);generalize L1[i]=p at hp⊢;refine xD (p:=p) fun h379 b379 k379=>?_
   have vB:=((v162.tr hu1).tr hu2).tr k379;have ba2:=vB.get0 co;have bb2:=vB.get0 ca;have bc2:=vB.get0 cb;have io2:=i0.upd0 vB;have ia2:=i1.upd0 vB;have ib2:=i2.upd0 vB;refine Join.intro (fun t h'=>∃x1 x2:Nat,t=(⟨x1,0,none⟩,⟨x2,0,none⟩)∧h'[x1]? =some (.cells (qD (jI (look L0 p.1))).toArray bf (0,0))∧h'[x2]? =some (.cells (qD (jI (look L2 p.1))).toArray bf (0,0))∧Upd No h379 h') (fun R hR=>?_) ?_
   ·skip
    refine⟨_,vc ba2 0,_,vc ba2 1,_,vc ba2 2,_,vc ba2 3,_,vc ba2 4,_,vc ba2 5,_,vc b379 0,_,vc bc2 0,_,vc bc2 1,_,vc bc2 2,_,vc bc2 3,_,vc bc2 4,_,vc bc2 5,_,vc b379 0,?_⟩;constructor
    ·refine dE (io2.upd0 (Upd.refl _ _)) (fun _ h=>h.elim) f0.up (by have:=f0.len;omega) p.1 fun h487 k487=>?_
     have s487:=k487.size;have b379:=k487.get0 b379;refine⟨vc b379 0,?_⟩;have bc2:=k487.get0 bc2;refine⟨⟨vc bc2 0,vc bc2 1,vc bc2 2,vc bc2 3,vc bc2 4,vc bc2 5⟩,?_⟩;constructor
     ·refine dE (ib2.upd0 k487) (fun _ h=>h.elim) f2.up (by have:=f2.len;omega) p.1 fun h489 k489=>?_
      have s489:=k489.size;constructor
      ·refine aM fun h490 b490 k490=>?_
       have s490:=k490.size;have z490:=aO b490;refine aM fun h491 b491 k491=>?_
       have s491:=k491.size;have z491:=aO b491;refine be (c:= [.string (⟨#[]⟩:ByteArray),.bool false]) (vs:=qD (jI (look L0 p.1))) (k491.get0 b490) rfl fun h492 c492 hu492=>?_
       have s492:=hu492.size;refine be (c:= [.string (⟨#[]⟩:ByteArray),.bool false]) (vs:=qD (jI (look L2 p.1))) (hu492.oth b491 (by omega)) rfl fun h493 c493 hu493=>?_
       have s493:=hu493.size;exact hR _ _ ⟨_,_,rfl,(hu493.oth c492 (by omega)),c493,(((((k487.tr k489).tr k490).tr k491).own hu492 (by omega)).own hu493 (by omega))⟩
      ·refine aM fun h494 b494 k494=>?_
       have s494:=k494.size;have z494:=aO b494;refine aM fun h495 b495 k495=>?_
       have s495:=k495.size;have z495:=aO b495;refine be (c:= [.string (⟨#[]⟩:ByteArray),.bool false]) (vs:=qD (jI (look L0 p.1))) b495 rfl fun h496 c496 hu496=>?_
       have s496:=hu496.size;refine be (c:= [.string (⟨#[]⟩:ByteArray),.bool false]) (vs:=qD (jI (look L2 p.1))) (hu496.oth (k495.get0 b494) (by omega)) rfl fun h497 c497 hu497=>?_
       have s497:=hu497.size;exact hR _ _ ⟨_,_,rfl,(hu497.oth c496 (by omega)),c497,(((((k487.tr k489).tr k494).tr k495).own hu496 (by omega)).own hu497 (by omega))⟩
     ·constructor
      ·refine aM fun h498 b498 k498=>?_
       have s498:=k498.size;have z498:=aO b498;have b379:=k498.get0 b379;refine⟨vc b379 0,?_⟩;have bc2:=k498.get0 bc2;refine⟨⟨vc bc2 0,vc bc2 1,vc bc2 2,vc bc2 3,vc bc2 4,vc bc2 5⟩,?_⟩;constructor
       ·refine dE (ib2.upd0 (k487.tr k498)) (fun _ h=>h.elim) f2.up (by have:=f2.len;omega) p.1 fun h500 k500=>?_
        have s500:=k500.size;refine aM fun h501 b501 k501=>?_
        have s501:=k501.size;have z501:=aO b501;refine be (c:= [.string (⟨#[]⟩:ByteArray),.bool false]) (vs:=qD (jI (look L0 p.1))) (k501.get0 (k500.get0 b498)) rfl fun h502 c502 hu502=>?_
        have s502:=hu502.size;refine be (c:= [.string (⟨#[]⟩:ByteArray),.bool false]) (vs:=qD (jI (look L2 p.1))) (hu502.oth b501 (by omega)) rfl fun h503 c503 hu503=>?_
        have s503:=hu503.size;exact hR _ _ ⟨_,_,rfl,(hu503.oth c502 (by omega)),c503,(((((k487.tr k498).tr k500).tr k501).own hu502 (by omega)).own hu503 (by omega))⟩
       ·refine aM fun h504 b504 k504=>?_
        have s504:=k504.size;have z504:=aO b504;have b379:=k504.get0 b379;refine⟨vc b379 0,?_⟩;have bc2:=k504.get0 bc2;refine⟨⟨vc bc2 0,vc bc2 1,vc bc2 2,vc bc2 3,vc bc2 4,vc bc2 5⟩,?_⟩;refine dE (ib2.upd0 ((k487.tr k498).tr k504)) (fun _ h=>h.elim) f2.up (by have:=f2.len;omega) p.1 fun h506 k506=>?_
        have s506:=k506.size;refine be (c:= [.string (⟨#[]⟩:ByteArray),.bool false]) (vs:=qD (jI (look L0 p.1))) (k506.get0 (k504.get0 b498)) rfl fun h507 c507 hu507=>?_
        have s507:=hu507.size;refine be (c:= [.string (⟨#[]⟩:ByteArray),.bool false]) (vs:=qD (jI (look L2 p.1))) (hu507.oth (k506.get0 b504) (by omega)) rfl fun h508 c508 hu508=>?_
        have s508:=hu508.size;exact hR _ _ ⟨_,_,rfl,(hu508.oth c507 (by omega)),c508,(((((k487.tr k498).tr k504).tr k506).own hu507 (by omega)).own hu508 (by omega))⟩
      ·refine aM fun h509 b509 k509=>?_
       have s509:=k509.size;have z509:=aO b509;have b379:=k509.get0 b379;refine⟨vc b379 0,?_⟩;have bc2:=k509.get0 bc2;refine⟨⟨vc bc2 0,vc bc2 1,vc bc2 2,vc bc2 3,vc bc2 4,vc bc2 5⟩,?_⟩;constructor
       ·refine dE (ib2.upd0 (k487.tr k509)) (fun _ h=>h.elim) f2.up (by have:=f2.len;omega) p.1 fun h511 k511=>?_
        have s511:=k511.size;refine aM fun h512 b512 k512=>?_
        have s512:=k512.size;have z512:=aO b512;refine be (c:= [.string (⟨#[]⟩:ByteArray),.bool false]) (vs:=qD (jI (look L0 p.1))) b512 rfl fun h513 c513 hu513=>?_
        have s513:=hu513.size;refine be (c:= [.string (⟨#[]⟩:ByteArray),.bool false]) (vs:=qD (jI (look L2 p.1))) (hu513.oth (k512.get0 (k511.get0 b509)) (by omega)) rfl fun h514 c514 hu514=>?_
        have s514:=hu514.size;exact hR _ _ ⟨_,_,rfl,(hu514.oth c513 (by omega)),c514,(((((k487.tr k509).tr k511).tr k512).own hu513 (by omega)).own hu514 (by omega))⟩
       ·refine aM fun h515 b515 k515=>?_
        have s515:=k515.size;have z515:=aO b515;have b379:=k515.get0 b379;refine⟨vc b379 0,?_⟩;have bc2:=k515.get0 bc2;refine⟨⟨vc bc2 0,vc bc2 1,vc bc2 2,vc bc2 3,vc bc2 4,vc bc2 5⟩,?_⟩;refine dE (ib2.upd0 ((k487.tr k509).tr k515)) (fun _ h=>h.elim) f2.up (by have:=f2.len;omega) p.1 fun h517 k517=>?_
        have s517:=k517.size;refine be (c:= [.string (⟨#[]⟩:ByteArray),.bool false]) (vs:=qD (jI (look L0 p.1))) (k517.get0 b515) rfl fun h518 c518 hu518=>?_
        have s518:=hu518.size;refine be (c:= [.string (⟨#[]⟩:ByteArray),.bool false]) (vs:=qD (jI (look L2 p.1))) (hu518.oth (k517.get0 (k515.get0 b509)) (by omega)) rfl fun h519 c519 hu519=>?_
        have s519:=hu519.size;exact hR _ _ ⟨_,_,rfl,(hu519.oth c518 (by omega)),c519,(((((k487.tr k509).tr k515).tr k517).own hu518 (by omega)).own hu519 (by omega))⟩
    ·constructor
     ·refine aM fun h520 b520 k520=>?_
      have s520:=k520.size;have z520:=aO b520;have b379:=k520.get0 b379;refine⟨vc b379 0,?_⟩;have bc2:=k520.get0 bc2;refine⟨⟨vc bc2 0,vc bc2 1,vc bc2 2,vc bc2 3,vc bc2 4,vc bc2 5⟩,?_⟩;refine⟨vc b379 0,?_⟩;have ba2:=k520.get0 ba2;refine⟨⟨vc ba2 0,vc ba2 1,vc ba2 2,vc ba2 3,vc ba2 4,vc ba2 5⟩,?_⟩;constructor
      ·refine dE (io2.upd0 k520) (fun _ h=>h.elim) f0.up (by have:=f0.len;omega) p.1 fun h522 k522=>?_
       have s522:=k522.size;have b379:=k522.get0 b379;refine⟨vc b379 0,?_⟩;have bc2:=k522.get0 bc2;refine⟨⟨vc bc2 0,vc bc2 1,vc bc2 2,vc bc2 3,vc bc2 4,vc bc2 5⟩,?_⟩;constructor
       ·refine dE (ib2.upd0 (k520.tr k522)) (fun _ h=>h.elim) f2.up (by have:=f2.len;omega) p.1 fun h524 k524=>?_
        have s524:=k524.size;refine aM fun h525 b525 k525=>?_
        have s525:=k525.size;have z525:=aO b525;refine be (c:= [.string (⟨#[]⟩:ByteArray),.bool false]) (vs:=qD (jI (look L0 p.1))) (k525.get0 (k524.get0 (k522.get0 b520))) rfl fun h526 c526 hu526=>?_
        have s526:=hu526.size;refine be (c:= [.string (⟨#[]⟩:ByteArray),.bool false]) (vs:=qD (jI (look L2 p.1))) (hu526.oth b525 (by omega)) rfl fun h527 c527 hu527=>?_
        have s527:=hu527.size;exact hR _ _ ⟨_,_,rfl,(hu527.oth c526 (by omega)),c527,(((((k520.tr k522).tr k524).tr k525).own hu526 (by omega)).own hu527 (by omega))⟩
       ·refine aM fun h528 b528 k528=>?_
        have s528:=k528.size;have z528:=aO b528;have b379:=k528.get0 b379;refine⟨vc b379 0,?_⟩;have bc2:=k528.get0 bc2;refine⟨⟨vc bc2 0,vc bc2 1,vc bc2 2,vc bc2 3,vc bc2 4,vc bc2 5⟩,?_⟩;refine dE (ib2.upd0 ((k520.tr k522).tr k528)) (fun _ h=>h.elim) f2.up (by have:=f2.len;omega) p.1 fun h530 k530=>?_
        have s530:=k530.size;refine be (c:= [.string (⟨#[]⟩:ByteArray),.bool false]) (vs:=qD (jI (look L0 p.1))) (k530.get0 (k528.get0 (k522.get0 b520))) rfl fun h531 c531 hu531=>?_
        have s531:=hu531.size;refine be (c:= [.string (⟨#[]⟩:ByteArray),.bool false]) (vs:=qD (jI (look L2 p.1))) (hu531.oth (k530.get0 b528) (by omega)) rfl fun h532 c532 hu532=>?_
        have s532:=hu532.size;exact hR _ _ ⟨_,_,rfl,(hu532.oth c531 (by omega)),c532,(((((k520.tr k522).tr k528).tr k530).own hu531 (by omega)).own hu532 (by omega))⟩
      ·refine aM fun h533 b533 k533=>?_
       have s533:=k533.size;have z533:=aO b533;have b379:=k533.get0 b379;refine⟨vc b379 0,?_⟩;have bc2:=k533.get0 bc2;refine⟨⟨vc bc2 0,vc bc2 1,vc bc2 2,vc bc2 3,vc bc2 4,vc bc2 5⟩,?_⟩;refine⟨vc b379 0,?_⟩;have ba2:=k533.get0 ba2;refine⟨⟨vc ba2 0,vc ba2 1,vc ba2 2,vc ba2 3,vc ba2 4,vc ba2 5⟩,?_⟩;refine dE (io2.upd0 (k520.tr k533)) (fun _ h=>h.elim) f0.up (by have:=f0.len;omega) p.1 fun h535 k535=>?_
       have s535:=k535.size;have b379:=k535.get0 b379;refine⟨vc b379 0,?_⟩;have bc2:=k535.get0 bc2;refine⟨⟨vc bc2 0,vc bc2 1,vc bc2 2,vc bc2 3,vc bc2 4,vc bc2 5⟩,?_⟩;refine dE (ib2.upd0 ((k520.tr k533).tr k535)) (fun _ h=>h.elim) f2.up (by have:=f2.len;omega) p.1 fun h537 k537=>?_
       have s537:=k537.size;refine be (c:= [.string (⟨#[]⟩:ByteArray),.bool false]) (vs:=qD (jI (look L0 p.1))) (k537.get0 (k535.get0 (k533.get0 b520))) rfl fun h538 c538 hu538=>?_
       have s538:=hu538.size;refine be (c:= [.string (⟨#[]⟩:ByteArray),.bool false]) (vs:=qD (jI (look L2 p.1))) (hu538.oth (k537.get0 (k535.get0 b533)) (by omega)) rfl fun h539 c539 hu539=>?_
       have s539:=hu539.size;exact hR _ _ ⟨_,_,rfl,(hu539.oth c538 (by omega)),c539,(((((k520.tr k533).tr k535).tr k537).own hu538 (by omega)).own hu539 (by omega))⟩
     ·refine aM fun h540 b540 k540=>?_
      have s540:=k540.size;have z540:=aO b540;have b379:=k540.get0 b379;refine⟨vc b379 0,?_⟩;have bc2:=k540.get0 bc2;refine⟨⟨vc bc2 0,vc bc2 1,vc bc2 2,vc bc2 3,vc bc2 4,vc bc2 5⟩,?_⟩;refine⟨vc b379 0,?_⟩;have ba2:=k540.get0 ba2;refine⟨⟨vc ba2 0,vc ba2 1,vc ba2 2,vc ba2 3,vc ba2 4,vc ba2 5⟩,?_⟩;constructor
      ·refine dE (io2.upd0 k540) (fun _ h=>h.elim) f0.up (by have:=f0.len;omega) p.1 fun h542 k542=>?_
       have s542:=k542.size;have b379:=k542.get0 b379;refine⟨vc b379 0,?_⟩;have bc2:=k542.get0 bc2;refine⟨⟨vc bc2 0,vc bc2 1,vc bc2 2,vc bc2 3,vc bc2 4,vc bc2 5⟩,?_⟩;constructor
       ·refine dE (ib2.upd0 (k540.tr k542)) (fun _ h=>h.elim) f2.up (by have:=f2.len;omega) p.1 fun h544 k544=>?_
        have s544:=k544.size;refine aM fun h545 b545 k545=>?_
        have s545:=k545.size;have z545:=aO b545;refine be (c:= [.string (⟨#[]⟩:ByteArray),.bool false]) (vs:=qD (jI (look L0 p.1))) b545 rfl fun h546 c546 hu546=>?_
        have s546:=hu546.size;refine be (c:= [.string (⟨#[]⟩:ByteArray),.bool false]) (vs:=qD (jI (look L2 p.1))) (hu546.oth (k545.get0 (k544.get0 (k542.get0 b540))) (by omega)) rfl fun h547 c547 hu547=>?_
        have s547:=hu547.size;exact hR _ _ ⟨_,_,rfl,(hu547.oth c546 (by omega)),c547,(((((k540.tr k542).tr k544).tr k545).own hu546 (by omega)).own hu547 (by omega))⟩
       ·refine aM fun h548 b548 k548=>?_
        have s548:=k548.size;have z548:=aO b548;have b379:=k548.get0 b379;refine⟨vc b379 0,?_⟩;have bc2:=k548.get0 bc2;refine⟨⟨vc bc2 0,vc bc2 1,vc bc2 2,vc bc2 3,vc bc2 4,vc bc2 5⟩,?_⟩;refine dE (ib2.upd0 ((k540.tr k542).tr k548)) (fun _ h=>h.elim) f2.up (by have:=f2.len;omega) p.1 fun h550 k550=>?_
        have s550:=k550.size;refine be (c:= [.string (⟨#[]⟩:ByteArray),.bool false]) (vs:=qD (jI (look L0 p.1))) (k550.get0 b548) rfl fun h551 c551 hu551=>?_
        have s551:=hu551.size;refine be (c:= [.string (⟨#[]⟩:ByteArray),.bool false]) (vs:=qD (jI (look L2 p.1))) (hu551.oth (k550.get0 (k548.get0 (k542.get0 b540))) (by omega)) rfl fun h552 c552 hu552=>?_
        have s552:=hu552.size;exact hR _ _ ⟨_,_,rfl,(hu552.oth c551 (by omega)),c552,(((((k540.tr k542).tr k548).tr k550).own hu551 (by omega)).own hu552 (by omega))⟩
      ·refine aM fun h553 b553 k553=>?_
       have s553:=k553.size;have z553:=aO b553;have b379:=k553.get0 b379;refine⟨vc b379 0,?_⟩;have bc2:=k553.get0 bc2;refine⟨⟨vc bc2 0,vc bc2 1,vc bc2 2,vc bc2 3,vc bc2 4,vc bc2 5⟩,?_⟩;refine⟨vc b379 0,?_⟩;have ba2:=k553.get0 ba2;refine⟨⟨vc ba2 0,vc ba2 1,vc ba2 2,vc ba2 3,vc ba2 4,vc ba2 5⟩,?_⟩;refine dE (io2.upd0 (k540.tr k553)) (fun _ h=>h.elim) f0.up (by have:=f0.len;omega) p.1 fun h555 k555=>?_
       have s555:=k555.size;have b379:=k555.get0 b379;refine⟨vc b379 0,?_⟩;have bc2:=k555.get0 bc2;refine⟨⟨vc bc2 0,vc bc2 1,vc bc2 2,vc bc2 3,vc bc2 4,vc bc2 5⟩,?_⟩;refine dE (ib2.upd0 ((k540.tr k553).tr k555)) (fun _ h=>h.elim) f2.up (by have:=f2.len;omega) p.1 fun h557 k557=>?_
       have s557:=k557.size;refine be (c:= [.string (⟨#[]⟩:ByteArray),.bool false]) (vs:=qD (jI (look L0 p.1))) (k557.get0 (k555.get0 b553)) rfl fun h558 c558 hu558=>?_
       have s558:=hu558.size;refine be (c:= [.string (⟨#[]⟩:ByteArray),.bool false]) (vs:=qD (jI (look L2 p.1))) (hu558.oth (k557.get0 (k555.get0 (k553.get0 b540))) (by omega)) rfl fun h559 c559 hu559=>?_
       have s559:=hu559.size;exact hR _ _ ⟨_,_,rfl,(hu559.oth c558 (by omega)),c559,(((((k540.tr k553).tr k555).tr k557).own hu558 (by omega)).own hu559 (by omega))⟩
   rintro _ h561 ⟨x1,x2,rfl,q1,q3,kC⟩;have bC:=kC.get0 b379;have uC:=((k142.tr hu1).tr ((hu2.tr k379).tr kC));refine Join.intro (fun t h'=>t=false∧Upd No h561 h') (fun R hR=>?_) ?_
   ·refine⟨(jI (look L0 p.1)).1,vc q1 0,(jI (look L0 p.1)).2,vc q1 1,(jI (look L2 p.1)).1,vc q3 0,(jI (look L2 p.1)).2,vc q3 1,?_⟩
    rw[QT (jI (look L0 p.1)) (jI (look L2 p.1))];refine aA (fun e=>?_) fun _=>hR _ _ ⟨rfl,Upd.refl _ _⟩
    have e:=Iq.1 e;have cT:=uC.get0 cT0;refine⟨_,vc cT 0,_,vc cT 1,_,vc cT 2,_,vc cT 3,_,vc cT 4,_,vc cT 5,p.1,vc bC 0,p.2,vc bC 1,?_⟩;refine dE (j1.upd0 (k140.tr uC)) (fun _ h=>h.elim) fM.up (by omega) p.1 fun hG kG=>?_
    rw[PB u0 u2 e,hp];exact⟨vc (kG.get0 bC) 1,⟨vc (kG.get0 q3) 0,vc (kG.get0 q3) 1⟩,⟨vc (kG.get0 q1) 0,vc (kG.get0 q1) 1⟩,hR _ _ ⟨by show(!((p.2.toList==p.2.toList)&&((true==true)&&true)))=false;simp,kG⟩⟩
   ·rintro t hE ⟨rfl,kE⟩
    refine aj.2 ?_;rw[gR hlt (by omega)];exact hI2 (i+1) _ _ ⟨rfl,hlt,((hu2.tr k379).tr kC).tr kE⟩ (by omega)
  ·refine av.2 ?_
   simp only;rw[TY os1.len os2.len];have uu:=(k142.tr hu1).tr hu2;have jT:=j1.upd0 (k140.tr uu);have jU:=j2.upd0 ((k162.tr hu1).tr hu2);refine av.2 ⟨_,vc (uu.get0 cT0) 0,_,vc (uu.get0 cT0) 1,_,vc (uu.get0 cT0) 2,_,vc (uu.get0 cT0) 3,_,vc (uu.get0 cT0) 4,_,vc (uu.get0 cT0) 5,_,vc ((hu1.tr hu2).get0 cp2) 0,_,vc ((hu1.tr hu2).get0 cp2) 1,_,vc ((hu1.tr hu2).get0 cp2) 2,_,vc ((hu1.tr hu2).get0 cp2) 3,_,vc ((hu1.tr hu2).get0 cp2) 4,_,vc ((hu1.tr hu2).get0 cp2) 5,?_⟩
   refine QJ jT jU fM.up fM.fits (by omega) fM.up fM.fits (by omega) fun h592 k592=>?_
   rw[yy jT jU,decide_eq_true rfl];exact⟨rfl,((k0118.tr v140).tr uu).tr k592⟩
end Go.Proofs
