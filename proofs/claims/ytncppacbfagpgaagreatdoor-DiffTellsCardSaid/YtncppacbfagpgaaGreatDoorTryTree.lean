/- A part of the proof that the named laws of this program answer true, whatever the input. -/
import Derived.Test.YtncppacbfagpgaaGreatDoorRows
import Derived.Test.YtncppacbfagpgaaGreatDoorPart1
import Derived.Test.YtncppacbfagpgaaGreatDoorPart0
open List renaming getElem?_eq_getElem→ae,drop_zero→cO,take_succ_cons→eA,take_zero→tg,drop_succ_cons→iV,cons→fi
namespace Go.Proofs.YtncppacbfagpgaaGreatDoor
open Go Go.Lift Go.Proofs Go.ChangeShapes Go.WideShapes Go.ChangeAt Go.RowKit
theorem Tryz.own:ownKnob Tryz.prog.godebug=none:=by kernel_rfl
theorem Tryz.laidOut:laidOutB Tryz.prog=true:=by kernel_rfl
theorem acu:Tryz.prog.underlying cP=some (.int .u8):=by kernel_rfl
theorem XQ:Tryz.prog.underlying rW=some (.int .u64):=by kernel_rfl
theorem XS:Tryz.prog.underlying IS=some .string:=by kernel_rfl
theorem XT:Tryz.prog.underlying rX=some .bool:=by kernel_rfl
theorem aa8:Tryz.prog.underlying cD=some (.slice ao):=by kernel_rfl
theorem ade:∃f0 f1:Field,Tryz.prog.underlying ao=some (.struct #[f0,f1])∧(f0.type=IS∧f0.offset=0)∧f1.type=IS∧f1.offset=1:=
 ⟨_,_,(by kernel_rfl:Tryz.prog.underlying ao=some (.struct #[{name:= "Key",pkgPath:= "",type:=IS,tag:= "",embedded:=false,offset:=0,byteOffset:=0},{name:= "Value",pkgPath:= "",type:=IS,tag:= "",embedded:=false,offset:=1,byteOffset:=16}])),⟨rfl,rfl⟩,rfl,rfl⟩
theorem acv:∃f0 f1:Field,Tryz.prog.underlying nZ=some (.struct #[f0,f1])∧(f0.type=rW∧f0.offset=0)∧f1.type=rW∧f1.offset=1:=
 ⟨_,_,(by kernel_rfl:Tryz.prog.underlying nZ=some (.struct #[{name:= "K0",pkgPath:= "",type:=rW,tag:= "",embedded:=false,offset:=0,byteOffset:=0},{name:= "K1",pkgPath:= "",type:=rW,tag:= "",embedded:=false,offset:=1,byteOffset:=8}])),⟨rfl,rfl⟩,rfl,rfl⟩
theorem adf:∃f0 f1:Field,Tryz.prog.underlying cE=some (.struct #[f0,f1])∧(f0.type=nZ∧f0.offset=0)∧f1.type=rW∧f1.offset=2:=
 ⟨_,_,(by kernel_rfl:Tryz.prog.underlying cE=some (.struct #[{name:= "Key",pkgPath:= "",type:=nZ,tag:= "",embedded:=false,offset:=0,byteOffset:=0},{name:= "Mask",pkgPath:= "",type:=rW,tag:= "",embedded:=false,offset:=2,byteOffset:=16}])),⟨rfl,rfl⟩,rfl,rfl⟩
theorem adI:Tryz.prog.cellsOf cP=1:=by kernel_rfl
theorem Ze:Tryz.prog.cellsOf rW=1:=by kernel_rfl
theorem Zf:Tryz.prog.cellsOf IS=1:=by kernel_rfl
theorem adJ:Tryz.prog.cellsOf ao=2:=by kernel_rfl
theorem acZ:Tryz.prog.cellsOf nZ=2:=by kernel_rfl
theorem adK:Tryz.prog.cellsOf cE=3:=by kernel_rfl
theorem VQ{k:IntKind}{n:Int}(h:(Lit.int k n).wf=true):k.min≤n∧n≤k.max:=by
 simpa only[Lit.wf,Bool.and_eq_true,decide_eq_true_iff]using h
section
variable {H:Type} {enc:TypeId×Value→H} {w:World} {sp:Nat→Bool} {held:Bool}
set_option maxRecDepth 100000 in
theorem aav{fuel:Nat}{a:List Value}{y:DataW H×List MemPlace}(v:a.length=2)(m:DataW.trod enc Tryz.prog w 0 sp held fuel ao a=some y):∃p:Pr,a=eu p:=by
 obtain⟨o,i,k,⟨x,u⟩,q,t⟩:=ade;obtain⟨xs,n,rfl,_,_,b,g⟩:=DataW.trod_struct k m;have b:xs.length=2:=b;match a,v with
 | [v0,v1],_=>
 have f:=g 0 o rfl;have e:=g 1 i rfl;rw[x,u,Zf,ae (by omega)]at f;rw[q,t,Zf,ae (by omega)]at e;obtain⟨s,c,_⟩:=DataW.trod_string XS f;obtain⟨j,d,_⟩:=DataW.trod_string XS e;simp only[cO,eA,tg,iV,fi.injEq,and_true]at c d;subst c d;exact⟨(s,j),rfl⟩
set_option maxRecDepth 100000 in
theorem ND{k:Nat}{v:Value}{d:DataW H}{p:List MemPlace}(b:Value.okWide Tryz.prog w .any k cD v)(h:DataW.Trod enc Tryz.prog w 0 sp held cD v d p):
  ∃(s:SliceV) (l:List Pr),v=.slice s.a s.len s.cap∧Sl eu 2 No w.heap s l∧l.length≤9223372036854775807∧s.len≤s.cap:=by
 obtain⟨a,o,c,rfl⟩:=okWide_slice aa8 b;obtain⟨fuel,m⟩:=h;obtain⟨s,xs,g,h2,hm,i,_⟩:=UQ aa8 m eu adJ gu (fun _=>True) fun fuel f y n j=>by
  obtain⟨p,e⟩:=aav n j;exact⟨p,e,trivial⟩
 simp only[Value.cells,fi.injEq,and_true]at g;have:=i.len;simp only[maxLen]at hm;exact⟨s,xs,g,i,by omega,h2⟩
set_option maxRecDepth 100000 in
theorem acd{I:Nat}{v:Value}{d:DataW H}{p:List MemPlace}(e:Value.okWide Tryz.prog w .any I cE v)(h:DataW.Trod enc Tryz.prog w 0 sp held cE v d p):
  ∃x:Hs,v=.agg #[.int .u64 x.k0,.int .u64 x.k1,.int .u64 x.mask]:=by
 obtain⟨C,J,k,⟨A,z⟩,y,E⟩:=adf;obtain⟨cs,rfl,a⟩:=okWide_struct k e;rw[adK]at a;obtain⟨fuel,f⟩:=h;obtain⟨xs,n,rfl,_,_,b,f⟩:=DataW.trod_struct k f;have b:xs.length=2:=b;obtain⟨l,rfl⟩:∃l:List Value,cs=l.toArray:=⟨cs.toList,rfl⟩;match l,a with
 | [v0,v1,v2],_=>
 have j:=f 0 C rfl;have i:=f 1 J rfl;rw[A,z,acZ,ae (by omega)]at j;rw[y,E,Ze,ae (by omega)]at i;simp only[Value.cells,cO,eA,tg,iV]at j i;obtain⟨G,u,g,⟨B,F⟩,L,D⟩:=acv;obtain⟨ys,o,rfl,_,_,c,m⟩:=DataW.trod_struct g j;have c:ys.length=2:=c;have k0:=m 0 G rfl;have k1:=m 1 u rfl
 rw[B,F,Ze,ae (by omega)]at k0;rw[L,D,Ze,ae (by omega)]at k1;obtain⟨n0,s,_⟩:=DataW.trod_int XQ k0;obtain⟨K,q,_⟩:=DataW.trod_int XQ k1;obtain⟨o,t,_⟩:=DataW.trod_int XQ i;simp only[cO,eA,tg,iV,fi.injEq,and_true]at s q t;subst s q t;exact⟨⟨n0,K,o⟩,rfl⟩
set_option maxRecDepth 100000 in
theorem acb{c:Nat}{v:Value}{d:DataW H}{p:List MemPlace}(a:Value.okWide Tryz.prog w .any c cP v)(h:DataW.Trod enc Tryz.prog w 0 sp held cP v d p):
  ∃n:Int,v=.int .u8 n∧0≤n∧n≤255:=by
 obtain⟨n,e,_,_,b⟩:=open_int acu a h;exact⟨n,e,VQ b⟩
set_option maxRecDepth 100000 in
theorem Zm{c:Nat}{v:Value}{d:DataW H}{p:List MemPlace}(a:Value.okWide Tryz.prog w .any c rX v)(_:DataW.Trod enc Tryz.prog w 0 sp held rX v d p):∃b:Bool,v=.bool b:=okWide_bool XT a
end
end Go.Proofs.YtncppacbfagpgaaGreatDoor
