/- A part of the proof that the named laws of this program answer true, whatever the input. -/
import Derived.Test.YtfmnhpbjeapjaaaGreatTryTree
import Derived.Test.YtfmnhpbjeapjaaaGreatPart2
open UInt8 renaming ofNat→ll
namespace Go.Proofs.YtfmnhpbjeapjaaaGreat
open Go Go.Lift Go.Proofs Go.ChangeShapes Go.WideShapes Go.ChangeAt Go.RowKit
theorem Pj:Tryz.prog.underlying FF=some (.slice Em):=by kernel_rfl
section
variable {H:Type} {enc:TypeId×Value→H} {w:World} {sp:Nat→Bool} {held:Bool}
set_option maxRecDepth 100000 in
theorem Pa{m:Nat}{v:Value}{d:DataW H}{p:List MemPlace}(f:Value.okWide Tryz.prog w .any m FF v)(h:DataW.Trod enc Tryz.prog w 0 sp held FF v d p):
  ∃(s:SliceV) (l:List UInt8),v=.slice s.a s.len s.cap∧Sl Ry 1 No w.heap s l:=by
 obtain⟨a,u,c,rfl⟩:=okWide_slice Pj f;obtain⟨fuel,q⟩:=h;obtain⟨s,xs,i,x,hm,t,_⟩:=Og Pj q Ry Sb Qt (fun _=>True) fun fuel b y k o=>by
  match b,k with
  | [v0],_=>
  obtain⟨n,e,_,g⟩:=DataW.trod_int QO o;have e:v0=.int .u8 n:=by simpa using e
  subst e;have g:IntKind.min .u8≤n∧n≤IntKind.max .u8:=EO g;have j:(0:Int)≤n:=g.1;have i:n≤(255:Int):=g.2;refine⟨ll n.toNat,?_,trivial⟩;have:(ll n.toNat).toNat=n.toNat:=by
   rw[UInt8.toNat_ofNat'];omega
  show[Value.int .u8 n]= [Value.int .u8 ((ll n.toNat).toNat:Int)]
  rw[this,Int.toNat_of_nonneg j]
 simp only[Value.cells,List.cons.injEq,and_true]at i;exact⟨s,xs,i,t⟩
end
end Go.Proofs.YtfmnhpbjeapjaaaGreat
