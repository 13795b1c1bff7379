/- A part of the proof that the named laws of this program answer true, whatever the input. -/
import Derived.Test.YtajpljopgikpgaaGreatDoorRows
import Derived.Test.YtajpljopgikpgaaGreatDoorPart1
import Derived.Test.YtajpljopgikpgaaGreatDoorPart0
open List renaming getElem?_eq_getElem→af,drop_zero→cP,take_succ_cons→cZ,take_zero→pk,drop_succ_cons→iH,cons→eO
namespace Go.Proofs.YtajpljopgikpgaaGreatDoor
open Go Go.Lift Go.Proofs Go.ChangeShapes Go.WideShapes Go.ChangeAt Go.RowKit
theorem Tryz.own:ownKnob Tryz.prog.godebug=none:=by kernel_rfl
theorem Tryz.laidOut:laidOutB Tryz.prog=true:=by kernel_rfl
theorem SZ:Tryz.prog.underlying cr=some (.int .u8):=by kernel_rfl
theorem Qq:Tryz.prog.underlying oB=some (.int .u64):=by kernel_rfl
theorem Ud:Tryz.prog.underlying Gp=some .string:=by kernel_rfl
theorem UH:Tryz.prog.underlying tR=some .bool:=by kernel_rfl
theorem Ue:Tryz.prog.underlying cq=some (.slice ar):=by kernel_rfl
theorem WJ:∃f0 f1:Field,Tryz.prog.underlying ar=some (.struct #[f0,f1])∧(f0.type=Gp∧f0.offset=0)∧f1.type=Gp∧f1.offset=1:=
 ⟨_,_,(by kernel_rfl:Tryz.prog.underlying ar=some (.struct #[{name:= "Key",pkgPath:= "",type:=Gp,tag:= "",embedded:=false,offset:=0,byteOffset:=0},{name:= "Value",pkgPath:= "",type:=Gp,tag:= "",embedded:=false,offset:=1,byteOffset:=16}])),⟨rfl,rfl⟩,rfl,rfl⟩
theorem VU:∃f0 f1:Field,Tryz.prog.underlying lj=some (.struct #[f0,f1])∧(f0.type=oB∧f0.offset=0)∧f1.type=oB∧f1.offset=1:=
 ⟨_,_,(by kernel_rfl:Tryz.prog.underlying lj=some (.struct #[{name:= "K0",pkgPath:= "",type:=oB,tag:= "",embedded:=false,offset:=0,byteOffset:=0},{name:= "K1",pkgPath:= "",type:=oB,tag:= "",embedded:=false,offset:=1,byteOffset:=8}])),⟨rfl,rfl⟩,rfl,rfl⟩
theorem WL:∃f0 f1:Field,Tryz.prog.underlying cM=some (.struct #[f0,f1])∧(f0.type=lj∧f0.offset=0)∧f1.type=oB∧f1.offset=2:=
 ⟨_,_,(by kernel_rfl:Tryz.prog.underlying cM=some (.struct #[{name:= "Key",pkgPath:= "",type:=lj,tag:= "",embedded:=false,offset:=0,byteOffset:=0},{name:= "Mask",pkgPath:= "",type:=oB,tag:= "",embedded:=false,offset:=2,byteOffset:=16}])),⟨rfl,rfl⟩,rfl,rfl⟩
theorem Vu:Tryz.prog.cellsOf cr=1:=by kernel_rfl
theorem Sa:Tryz.prog.cellsOf oB=1:=by kernel_rfl
theorem Ux:Tryz.prog.cellsOf Gp=1:=by kernel_rfl
theorem Wq:Tryz.prog.cellsOf ar=2:=by kernel_rfl
theorem Ws:Tryz.prog.cellsOf lj=2:=by kernel_rfl
theorem Xb:Tryz.prog.cellsOf cM=3:=by kernel_rfl
theorem uq{k:IntKind}{n:Int}(h:(Lit.int k n).wf=true):k.min≤n∧n≤k.max:=by
 simpa only[Lit.wf,Bool.and_eq_true,decide_eq_true_iff]using h
section
variable {H:Type} {enc:TypeId×Value→H} {w:World} {sp:Nat→Bool} {held:Bool}
set_option maxRecDepth 100000 in
theorem N3{fuel:Nat}{a:List Value}{y:DataW H×List MemPlace}(q:a.length=2)(x:DataW.trod enc Tryz.prog w 0 sp held fuel ar a=some y):∃p:Pr,a=eg p:=by
 obtain⟨j,o,u,⟨m,i⟩,t,k⟩:=WJ;obtain⟨xs,n,rfl,_,_,b,f⟩:=DataW.trod_struct u x;have b:xs.length=2:=b;match a,q with
 | [v0,v1],_=>
 have e:=f 0 j rfl;have g:=f 1 o rfl;rw[m,i,Ux,af (by omega)]at e;rw[t,k,Ux,af (by omega)]at g;obtain⟨v,d,_⟩:=DataW.trod_string Ud e;obtain⟨s,c,_⟩:=DataW.trod_string Ud g;simp only[cP,cZ,pk,iH,eO.injEq,and_true]at d c;subst d c;exact⟨(v,s),rfl⟩
set_option maxRecDepth 100000 in
theorem PR{m:Nat}{v:Value}{d:DataW H}{p:List MemPlace}(b:Value.okWide Tryz.prog w .any m cq v)(h:DataW.Trod enc Tryz.prog w 0 sp held cq v d p):
  ∃(s:SliceV) (l:List Pr),v=.slice s.a s.len s.cap∧Sl eg 2 No w.heap s l∧l.length≤9223372036854775807∧s.len≤s.cap:=by
 obtain⟨a,q,c,rfl⟩:=okWide_slice Ue b;obtain⟨fuel,n⟩:=h;obtain⟨s,xs,g,j,hm,i,_⟩:=NP Ue n eg Wq g9 (fun _=>True) fun fuel f y k o=>by
  obtain⟨p,e⟩:=N3 k o;exact⟨p,e,trivial⟩
 simp only[Value.cells,eO.injEq,and_true]at g;have:=i.len;simp only[maxLen]at hm;exact⟨s,xs,g,i,by omega,j⟩
set_option maxRecDepth 100000 in
theorem Vz{G:Nat}{v:Value}{d:DataW H}{p:List MemPlace}(b:Value.okWide Tryz.prog w .any G cM v)(h:DataW.Trod enc Tryz.prog w 0 sp held cM v d p):
  ∃x:Hs,v=.agg #[.int .u64 x.k0,.int .u64 x.k1,.int .u64 x.mask]:=by
 obtain⟨K,L,q,⟨F,D⟩,A,J⟩:=WL;obtain⟨cs,rfl,c⟩:=okWide_struct q b;rw[Xb]at c;obtain⟨fuel,f⟩:=h;obtain⟨xs,n,rfl,_,_,e,f⟩:=DataW.trod_struct q f;have e:xs.length=2:=e;obtain⟨l,rfl⟩:∃l:List Value,cs=l.toArray:=⟨cs.toList,rfl⟩;match l,c with
 | [v0,v1,v2],_=>
 have g:=f 0 K rfl;have i:=f 1 L rfl;rw[F,D,Ws,af (by omega)]at g;rw[A,J,Sa,af (by omega)]at i;simp only[Value.cells,cP,cZ,pk,iH]at g i;obtain⟨E,u,j,⟨y,I⟩,C,z⟩:=VU;obtain⟨ys,k,rfl,_,_,a,m⟩:=DataW.trod_struct j g;have a:ys.length=2:=a;have k0:=m 0 E rfl;have k1:=m 1 u rfl
 rw[y,I,Sa,af (by omega)]at k0;rw[C,z,Sa,af (by omega)]at k1;obtain⟨n0,o,_⟩:=DataW.trod_int Qq k0;obtain⟨B,t,_⟩:=DataW.trod_int Qq k1;obtain⟨k,s,_⟩:=DataW.trod_int Qq i;simp only[cP,cZ,pk,iH,eO.injEq,and_true]at o t s;subst o t s;exact⟨⟨n0,B,k⟩,rfl⟩
set_option maxRecDepth 100000 in
theorem Vy{c:Nat}{v:Value}{d:DataW H}{p:List MemPlace}(a:Value.okWide Tryz.prog w .any c cr v)(h:DataW.Trod enc Tryz.prog w 0 sp held cr v d p):
  ∃n:Int,v=.int .u8 n∧0≤n∧n≤255:=by
 obtain⟨n,e,_,_,b⟩:=open_int SZ a h;exact⟨n,e,uq b⟩
end
end Go.Proofs.YtajpljopgikpgaaGreatDoor
