/- A part of the proof that the named laws of this program answer true, whatever the input. -/
import Derived.Test.YtajpljopgikpgaaGreatDoorRows
import Derived.Test.YtajpljopgikpgaaGreatDoorPart1
import Derived.Test.YtajpljopgikpgaaGreatDoorPart0
open List renaming getElem?_eq_getElem→af,drop_zero→di,take_succ_cons→dw,take_zero→qT,drop_succ_cons→ja,cons→fi
namespace Go.Proofs.YtajpljopgikpgaaGreatDoor
open Go Go.Lift Go.Proofs Go.ChangeShapes Go.WideShapes Go.ChangeAt Go.RowKit
theorem Tryz.own:ownKnob Tryz.prog.godebug=none:=by kernel_rfl
theorem Tryz.laidOut:laidOutB Tryz.prog=true:=by kernel_rfl
theorem Tv:Tryz.prog.underlying cp=some (.int .u8):=by kernel_rfl
theorem Oc:Tryz.prog.underlying ny=some (.int .u64):=by kernel_rfl
theorem Oe:Tryz.prog.underlying ql=some .string:=by kernel_rfl
theorem RR:Tryz.prog.underlying qm=some .bool:=by kernel_rfl
theorem Rp:Tryz.prog.underlying cR=some (.slice aw):=by kernel_rfl
theorem Ub:∃f0 f1:Field,Tryz.prog.underlying aw=some (.struct #[f0,f1])∧(f0.type=ql∧f0.offset=0)∧f1.type=ql∧f1.offset=1:=
 ⟨_,_,(by kernel_rfl:Tryz.prog.underlying aw=some (.struct #[{name:= "Key",pkgPath:= "",type:=ql,tag:= "",embedded:=false,offset:=0,byteOffset:=0},{name:= "Value",pkgPath:= "",type:=ql,tag:= "",embedded:=false,offset:=1,byteOffset:=16}])),⟨rfl,rfl⟩,rfl,rfl⟩
theorem Tx:∃f0 f1:Field,Tryz.prog.underlying ko=some (.struct #[f0,f1])∧(f0.type=ny∧f0.offset=0)∧f1.type=ny∧f1.offset=1:=
 ⟨_,_,(by kernel_rfl:Tryz.prog.underlying ko=some (.struct #[{name:= "K0",pkgPath:= "",type:=ny,tag:= "",embedded:=false,offset:=0,byteOffset:=0},{name:= "K1",pkgPath:= "",type:=ny,tag:= "",embedded:=false,offset:=1,byteOffset:=8}])),⟨rfl,rfl⟩,rfl,rfl⟩
theorem Uc:∃f0 f1:Field,Tryz.prog.underlying cH=some (.struct #[f0,f1])∧(f0.type=ko∧f0.offset=0)∧f1.type=ny∧f1.offset=2:=
 ⟨_,_,(by kernel_rfl:Tryz.prog.underlying cH=some (.struct #[{name:= "Key",pkgPath:= "",type:=ko,tag:= "",embedded:=false,offset:=0,byteOffset:=0},{name:= "Mask",pkgPath:= "",type:=ny,tag:= "",embedded:=false,offset:=2,byteOffset:=16}])),⟨rfl,rfl⟩,rfl,rfl⟩
theorem UD:Tryz.prog.cellsOf cp=1:=by kernel_rfl
theorem PH:Tryz.prog.cellsOf ny=1:=by kernel_rfl
theorem PI:Tryz.prog.cellsOf ql=1:=by kernel_rfl
theorem UE:Tryz.prog.cellsOf aw=2:=by kernel_rfl
theorem TW:Tryz.prog.cellsOf ko=2:=by kernel_rfl
theorem UF:Tryz.prog.cellsOf cH=3:=by kernel_rfl
theorem EH{k:IntKind}{n:Int}(h:(Lit.int k n).wf=true):k.min≤n∧n≤k.max:=by
 simpa only[Lit.wf,Bool.and_eq_true,decide_eq_true_iff]using h
section
variable {H:Type} {enc:TypeId×Value→H} {w:World} {sp:Nat→Bool} {held:Bool}
set_option maxRecDepth 100000 in
theorem QP{fuel:Nat}{a:List Value}{y:DataW H×List MemPlace}(m:a.length=2)(o:DataW.trod enc Tryz.prog w 0 sp held fuel aw a=some y):∃p:Pr,a=fP p:=by
 obtain⟨g,i,j,⟨k,q⟩,s,o1⟩:=Ub;obtain⟨xs,n,rfl,_,_,b,c⟩:=DataW.trod_struct j o;have b:xs.length=2:=b;match a,m with
 | [v0,v1],_=>
 have g0:=c 0 g rfl;have d:=c 1 i rfl;rw[k,q,PI,af (by omega)]at g0;rw[s,o1,PI,af (by omega)]at d;obtain⟨s0,e,_⟩:=DataW.trod_string Oe g0;obtain⟨s1,f,_⟩:=DataW.trod_string Oe d;simp only[di,dw,qT,ja,fi.injEq,and_true]at e f;subst e f;exact⟨(s0,s1),rfl⟩
set_option maxRecDepth 100000 in
theorem FF{n:Nat}{v:Value}{d:DataW H}{p:List MemPlace}(b:Value.okWide Tryz.prog w .any n cR v)(h:DataW.Trod enc Tryz.prog w 0 sp held cR v d p):
  ∃(s:SliceV) (l:List Pr),v=.slice s.a s.len s.cap∧Sl fP 2 No w.heap s l∧l.length≤9223372036854775807∧s.len≤s.cap:=by
 obtain⟨a,q,c,rfl⟩:=okWide_slice Rp b;obtain⟨fuel,j⟩:=h;obtain⟨s,xs,i,o,hm,g,_⟩:=LJ Rp j fP UE gX (fun _=>True) fun fuel f y k m=>by
  obtain⟨p,e⟩:=QP k m;exact⟨p,e,trivial⟩
 simp only[Value.cells,fi.injEq,and_true]at i;have:=g.len;simp only[maxLen]at hm;exact⟨s,xs,i,g,by omega,o⟩
set_option maxRecDepth 100000 in
theorem S8{E:Nat}{v:Value}{d:DataW H}{p:List MemPlace}(a:Value.okWide Tryz.prog w .any E cH v)(h:DataW.Trod enc Tryz.prog w 0 sp held cH v d p):
  ∃x:Hs,v=.agg #[.int .u64 x.k0,.int .u64 x.k1,.int .u64 x.mask]:=by
 obtain⟨t,z,s,⟨G,B⟩,J,o1⟩:=Uc;obtain⟨cs,rfl,e⟩:=okWide_struct s a;rw[UF]at e;obtain⟨fuel,f⟩:=h;obtain⟨xs,n,rfl,_,_,b,f⟩:=DataW.trod_struct s f;have b:xs.length=2:=b;obtain⟨l,rfl⟩:∃l:List Value,cs=l.toArray:=⟨cs.toList,rfl⟩;match l,e with
 | [v0,v1,v2],_=>
 have g0:=f 0 t rfl;have i:=f 1 z rfl;rw[G,B,TW,af (by omega)]at g0;rw[J,o1,PH,af (by omega)]at i;simp only[Value.cells,di,dw,qT,ja]at g0 i;obtain⟨I,A,g,⟨F,C⟩,u,p1⟩:=Tx;obtain⟨ys,k,rfl,_,_,c,o⟩:=DataW.trod_struct g g0;have c:ys.length=2:=c;have k0:=o 0 I rfl;have k1:=o 1 A rfl
 rw[F,C,PH,af (by omega)]at k0;rw[u,p1,PH,af (by omega)]at k1;obtain⟨y,j,_⟩:=DataW.trod_int Oc k0;obtain⟨D,q,_⟩:=DataW.trod_int Oc k1;obtain⟨k,m,_⟩:=DataW.trod_int Oc i;simp only[di,dw,qT,ja,fi.injEq,and_true]at j q m;subst j q m;exact⟨⟨y,D,k⟩,rfl⟩
set_option maxRecDepth 100000 in
theorem S7{c:Nat}{v:Value}{d:DataW H}{p:List MemPlace}(a:Value.okWide Tryz.prog w .any c cp v)(h:DataW.Trod enc Tryz.prog w 0 sp held cp v d p):
  ∃n:Int,v=.int .u8 n∧0≤n∧n≤255:=by
 obtain⟨n,e,_,_,b⟩:=open_int Tv a h;exact⟨n,e,EH b⟩
end
end Go.Proofs.YtajpljopgikpgaaGreatDoor
