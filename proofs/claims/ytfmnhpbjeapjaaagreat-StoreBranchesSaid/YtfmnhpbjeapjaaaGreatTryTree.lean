/- A part of the proof that the named laws of this program answer true, whatever the input. -/
import Derived.Test.YtfmnhpbjeapjaaaGreatRows
import Derived.Test.YtfmnhpbjeapjaaaGreatPart0
open List renaming getElem?_eq_getElem→ag,drop_zero→dA,take_succ_cons→gc,take_zero→p6,drop_succ_cons→il,cons→mZ
namespace Go.Proofs.YtfmnhpbjeapjaaaGreat
open Go Go.Lift Go.Proofs Go.ChangeShapes Go.WideShapes Go.ChangeAt Go.RowKit
theorem Tryz.own:ownKnob Tryz.prog.godebug=none:=by kernel_rfl
theorem Tryz.laidOut:laidOutB Tryz.prog=true:=by kernel_rfl
theorem OG:Tryz.prog.underlying Aq=some (.int .u8):=by kernel_rfl
theorem Kt:Tryz.prog.underlying yO=some (.int .u64):=by kernel_rfl
theorem Ng:Tryz.prog.underlying ux=some .string:=by kernel_rfl
theorem NF:Tryz.prog.underlying rH=some .bool:=by kernel_rfl
theorem Nh:Tryz.prog.underlying cE=some (.slice af):=by kernel_rfl
theorem Py:∃f0 f1:Field,Tryz.prog.underlying af=some (.struct #[f0,f1])∧(f0.type=ux∧f0.offset=0)∧f1.type=ux∧f1.offset=1:=
 ⟨_,_,(by kernel_rfl:Tryz.prog.underlying af=some (.struct #[{name:= "Key",pkgPath:= "",type:=ux,tag:= "",embedded:=false,offset:=0,byteOffset:=0},{name:= "Value",pkgPath:= "",type:=ux,tag:= "",embedded:=false,offset:=1,byteOffset:=16}])),⟨rfl,rfl⟩,rfl,rfl⟩
theorem OH:∃f0 f1:Field,Tryz.prog.underlying jh=some (.struct #[f0,f1])∧(f0.type=yO∧f0.offset=0)∧f1.type=yO∧f1.offset=1:=
 ⟨_,_,(by kernel_rfl:Tryz.prog.underlying jh=some (.struct #[{name:= "K0",pkgPath:= "",type:=yO,tag:= "",embedded:=false,offset:=0,byteOffset:=0},{name:= "K1",pkgPath:= "",type:=yO,tag:= "",embedded:=false,offset:=1,byteOffset:=8}])),⟨rfl,rfl⟩,rfl,rfl⟩
theorem Pz:∃f0 f1:Field,Tryz.prog.underlying cx=some (.struct #[f0,f1])∧(f0.type=jh∧f0.offset=0)∧f1.type=yO∧f1.offset=2:=
 ⟨_,_,(by kernel_rfl:Tryz.prog.underlying cx=some (.struct #[{name:= "Key",pkgPath:= "",type:=jh,tag:= "",embedded:=false,offset:=0,byteOffset:=0},{name:= "Mask",pkgPath:= "",type:=yO,tag:= "",embedded:=false,offset:=2,byteOffset:=16}])),⟨rfl,rfl⟩,rfl,rfl⟩
theorem PX:Tryz.prog.cellsOf Aq=1:=by kernel_rfl
theorem LD:Tryz.prog.cellsOf yO=1:=by kernel_rfl
theorem Nv:Tryz.prog.cellsOf ux=1:=by kernel_rfl
theorem PY:Tryz.prog.cellsOf af=2:=by kernel_rfl
theorem Ph:Tryz.prog.cellsOf jh=2:=by kernel_rfl
theorem PZ:Tryz.prog.cellsOf cx=3:=by kernel_rfl
theorem Cw{k:IntKind}{n:Int}(h:(Lit.int k n).wf=true):k.min≤n∧n≤k.max:=by
 simpa only[Lit.wf,Bool.and_eq_true,decide_eq_true_iff]using h
section
variable {H:Type} {enc:TypeId×Value→H} {w:World} {sp:Nat→Bool} {held:Bool}
set_option maxRecDepth 100000 in
theorem Mv{b:Nat}{a:List Value}{y:DataW H×List MemPlace}(x:a.length=2)(s:DataW.trod enc Tryz.prog w 0 sp held b af a=some y):∃p:Pr,a=eA p:=by
 obtain⟨t,z,u,⟨o,k⟩,v,q⟩:=Py;obtain⟨xs,n,rfl,_,_,c,g⟩:=DataW.trod_struct u s;have c:xs.length=2:=c;match a,x with
 | [v0,v1],_=>
 have f:=g 0 t rfl;have i:=g 1 z rfl;rw[o,k,Nv,ag (by omega)]at f;rw[v,q,Nv,ag (by omega)]at i;obtain⟨j,d,_⟩:=DataW.trod_string Ng f;obtain⟨m,e,_⟩:=DataW.trod_string Ng i;simp only[dA,gc,p6,il,mZ.injEq,and_true]at d e;subst d e;exact⟨(j,m),rfl⟩
set_option maxRecDepth 100000 in
theorem JM{k:Nat}{v:Value}{d:DataW H}{p:List MemPlace}(f:Value.okWide Tryz.prog w .any k cE v)(h:DataW.Trod enc Tryz.prog w 0 sp held cE v d p):
  ∃(s:SliceV) (l:List Pr),v=.slice s.a s.len s.cap∧Sl eA 2 No w.heap s l∧l.length≤9223372036854775807∧s.len≤s.cap:=by
 obtain⟨a,t,c,rfl⟩:=okWide_slice Nh f;obtain⟨b,n⟩:=h;obtain⟨s,xs,i,o,hm,j,_⟩:=H8 Nh n eA PY ia (fun _=>True) fun b g y m q=>by
  obtain⟨p,e⟩:=Mv m q;exact⟨p,e,trivial⟩
 simp only[Value.cells,mZ.injEq,and_true]at i;have:=j.len;simp only[maxLen]at hm;exact⟨s,xs,i,j,by omega,o⟩
set_option maxRecDepth 100000 in
theorem Oh{J:Nat}{v:Value}{d:DataW H}{p:List MemPlace}(c:Value.okWide Tryz.prog w .any J cx v)(h:DataW.Trod enc Tryz.prog w 0 sp held cx v d p):
  ∃x:Hs,v=.agg #[.int .u64 x.k0,.int .u64 x.k1,.int .u64 x.mask]:=by
 obtain⟨I,L,t,⟨B,z⟩,K,F⟩:=Pz;obtain⟨cs,rfl,a⟩:=okWide_struct t c;rw[PZ]at a;obtain⟨m,f⟩:=h;obtain⟨xs,n,rfl,_,_,e,f⟩:=DataW.trod_struct t f;have e:xs.length=2:=e;obtain⟨l,rfl⟩:∃l:List Value,cs=l.toArray:=⟨cs.toList,rfl⟩;match l,a with
 | [v0,v1,v2],_=>
 have i:=f 0 I rfl;have j:=f 1 L rfl;rw[B,z,Ph,ag (by omega)]at i;rw[K,F,LD,ag (by omega)]at j;simp only[Value.cells,dA,gc,p6,il]at i j;obtain⟨C,A,g,⟨G,N⟩,D,y⟩:=OH;obtain⟨ys,u,rfl,_,_,b,o⟩:=DataW.trod_struct g i;have b:ys.length=2:=b;have k0:=o 0 C rfl;have k1:=o 1 A rfl
 rw[G,N,LD,ag (by omega)]at k0;rw[D,y,LD,ag (by omega)]at k1;obtain⟨n0,k,_⟩:=DataW.trod_int Kt k0;obtain⟨E,s,_⟩:=DataW.trod_int Kt k1;obtain⟨u,q,_⟩:=DataW.trod_int Kt j;simp only[dA,gc,p6,il,mZ.injEq,and_true]at k s q;subst k s q;exact⟨⟨n0,E,u⟩,rfl⟩
set_option maxRecDepth 100000 in
theorem Og{c:Nat}{v:Value}{d:DataW H}{p:List MemPlace}(a:Value.okWide Tryz.prog w .any c Aq v)(h:DataW.Trod enc Tryz.prog w 0 sp held Aq v d p):
  ∃n:Int,v=.int .u8 n∧0≤n∧n≤255:=by
 obtain⟨n,e,_,_,b⟩:=open_int OG a h;exact⟨n,e,Cw b⟩
end
end Go.Proofs.YtfmnhpbjeapjaaaGreat
