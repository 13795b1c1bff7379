/- A part of the proof that the named laws of this program answer true, whatever the input. -/
import Derived.Test.YtajpljopgikpgaaGreatDoorTryInt
import Derived.Test.YtajpljopgikpgaaGreatDoorPart12
open List renaming getElem?_eq_getElem→af,cons→eO
namespace Go.Proofs.YtajpljopgikpgaaGreatDoor
open Go Go.Lift Go.Proofs Go.ChangeShapes Go.WideShapes Go.ChangeAt Go.RowKit
theorem Qr:Tryz.prog.underlying js=some (.slice pC):=by kernel_rfl
theorem VV:∃f0 f1 f2 f3 f4:Field,Tryz.prog.underlying pC=some (.struct #[f0,f1,f2,f3,f4])∧(f0.type=cr∧f0.offset=0)∧(f1.type=ar∧f1.offset=1)∧(f2.type=cr∧f2.offset=3)∧(f3.type=Gn∧f3.offset=4)∧f4.type=Gn∧f4.offset=5:=
 ⟨_,_,_,_,_,(by kernel_rfl:Tryz.prog.underlying pC=some (.struct #[{name:= "Do",pkgPath:= "",type:=cr,tag:= "",embedded:=false,offset:=0,byteOffset:=0},{name:= "P",pkgPath:= "",type:=ar,tag:= "",embedded:=false,offset:=1,byteOffset:=8},{name:= "At",pkgPath:= "",type:=cr,tag:= "",embedded:=false,offset:=3,byteOffset:=40},{name:= "Key",pkgPath:= "",type:=Gn,tag:= "",embedded:=false,offset:=4,byteOffset:=42},{name:= "Value",pkgPath:= "",type:=Gn,tag:= "",embedded:=false,offset:=5,byteOffset:=44}])),⟨rfl,rfl⟩,⟨rfl,rfl⟩,⟨rfl,rfl⟩,⟨rfl,rfl⟩,rfl,rfl⟩
theorem Uw:Tryz.prog.cellsOf Gn=1:=by kernel_rfl
theorem Wt:Tryz.prog.cellsOf pC=6:=by kernel_rfl
theorem VD(a:Ac):(Qc a).length=6∧0<6:=⟨rfl,by omega⟩
section
variable {H:Type} {enc:TypeId×Value→H} {w:World} {sp:Nat→Bool} {held:Bool}
set_option maxRecDepth 100000 in
theorem Q1{fuel:Nat}{a:List Value}{y:DataW H×List MemPlace}(O:a.length=6)(z:DataW.trod enc Tryz.prog w 0 sp held fuel pC a=some y):∃c:Ac,a=Qc c∧Xg c:=by
 obtain⟨S,T,U,E,J,P,⟨M,I⟩,⟨F,Q⟩,⟨L,v⟩,⟨B,C⟩,V,G⟩:=VV;obtain⟨xs,n,rfl,_,_,d,b⟩:=DataW.trod_struct P z;have d:xs.length=5:=d;match a,O with
 | [v0,v1,v2,v3,v4,v5],_=>
 have j:=b 0 S rfl;have k:=b 1 T rfl;have m:=b 2 U rfl;have s:=b 3 E rfl;have o:=b 4 J rfl;rw[M,I,Vu,af (by omega)]at j;rw[F,Q,Wq,af (by omega)]at k;rw[L,v,Vu,af (by omega)]at m;rw[B,C,Uw,af (by omega)]at s;rw[V,G,Uw,af (by omega)]at o;obtain⟨n0,i,_,K⟩:=DataW.trod_int SZ j
 obtain⟨p,e⟩:=N3 rfl k;obtain⟨x,q,_,N⟩:=DataW.trod_int SZ m;obtain⟨R,t,_,A⟩:=DataW.trod_int Uc s;obtain⟨D,g,_,u⟩:=DataW.trod_int Uc o;simp only[List.drop_zero,List.take_succ_cons,List.take_zero,List.drop_succ_cons,eO.injEq,and_true]at i e q t g;obtain⟨e,f⟩:=e;subst i e f q t g;exact⟨(n0,p.1,p.2,x,R,D),rfl,uq K,uq N,uq A,uq u⟩
set_option maxRecDepth 100000 in
theorem KJ{j:Nat}{v:Value}{d:DataW H}{p:List MemPlace}(b:Value.okWide Tryz.prog w .any j js v)(h:DataW.Trod enc Tryz.prog w 0 sp held js v d p):
  ∃(s:SliceV) (l:List Ac),v=.slice s.a s.len s.cap∧Sl Qc 6 No w.heap s l∧l.length≤9223372036854775807∧∀a∈l,Xg a:=by
 obtain⟨a,q,c,rfl⟩:=okWide_slice Qr b;obtain⟨fuel,m⟩:=h;obtain⟨s,xs,f,o,hm,g,k⟩:=NP Qr m Qc Wt VD Xg fun fuel e y i n=>Q1 i n
 simp only[Value.cells,eO.injEq,and_true]at f;have:=g.len;simp only[maxLen]at hm;exact⟨s,xs,f,g,by omega,k⟩
end
end Go.Proofs.YtajpljopgikpgaaGreatDoor
