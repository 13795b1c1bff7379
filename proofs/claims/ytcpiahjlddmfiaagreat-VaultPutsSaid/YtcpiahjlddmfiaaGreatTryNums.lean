/- A part of the proof that the named laws of this program answer true, whatever the input. -/
import Derived.Test.YtcpiahjlddmfiaaGreatTryTree
import Derived.Test.YtcpiahjlddmfiaaGreatPart9
open List renaming cons→fj
namespace Go.Proofs.YtcpiahjlddmfiaaGreat
open Go Go.Lift Go.Proofs Go.ChangeShapes Go.WideShapes Go.ChangeAt Go.RowKit
theorem Sm:Tryz.prog.underlying eM=some (.int .u32):=by kernel_rfl
theorem OA:Tryz.prog.underlying uk=some (.slice eM):=by kernel_rfl
theorem LQ:Tryz.prog.underlying wO=some (.slice uk):=by kernel_rfl
theorem S0:Tryz.prog.cellsOf eM=1:=by kernel_rfl
theorem S1:Tryz.prog.cellsOf uk=1:=by kernel_rfl
section
variable {H:Type} {enc:TypeId×Value→H} {w:World} {sp:Nat→Bool} {held:Bool}
theorem Fi{a:Nat}{cs:List Value}{x:DataW H×List MemPlace}(h:DataW.trod enc Tryz.prog w 0 sp held a uk cs=some x):
  ∃(s:SliceV) (xs:List Int),cs= [.slice s.a s.len s.cap]∧s.len≤s.cap∧Nums No w.heap s xs∧∀p∈xs,0≤p:=by
 obtain⟨s,xs,f,d,_,g,e⟩:=LS OA h u32 S0 qV (fun p=>0≤p) fun a b y j i=>by
  obtain⟨n,rfl,_,c⟩:=DataW.trod_int Sm i;have:=E2 c;exact⟨n,rfl,this.1⟩
 exact⟨s,xs,f,d,g,e⟩
set_option maxRecDepth 100000 in
theorem PX{g:Nat}{v:Value}{d:DataW H}{p:List MemPlace}(b:Value.okWide Tryz.prog w .any g uk v)(h:DataW.Trod enc Tryz.prog w 0 sp held uk v d p):
  ∃(s:SliceV) (xs:List Int),v=.slice s.a s.len s.cap∧Nums No w.heap s xs∧∀p∈xs,0≤p:=by
 obtain⟨a,l,c,rfl⟩:=okWide_slice OA b;obtain⟨f,j⟩:=h;obtain⟨s,xs,e,_,i,k⟩:=Fi j;simp only[Value.cells,fj.injEq,and_true]at e;exact⟨s,xs,e,i,k⟩
set_option maxRecDepth 100000 in
theorem NN{k:Nat}{v:Value}{d:DataW H}{p:List MemPlace}(f:Value.okWide Tryz.prog w .any k wO v)(h:DataW.Trod enc Tryz.prog w 0 sp held wO v d p):
  ∃(s:SliceV) (xs:List SliceV),v=.slice s.a s.len s.cap∧Sl Uq 1 No w.heap s xs∧∀q∈xs,∃ps,Nums No w.heap q ps∧q.len≤q.cap:=by
 obtain⟨a,l,c,rfl⟩:=okWide_slice LQ f;obtain⟨b,m⟩:=h;obtain⟨s,xs,i,_,_,o,n⟩:=LS LQ m Uq S1 (fun _=>⟨rfl,by omega⟩) (fun q=>∃ps,Nums No w.heap q ps∧q.len≤q.cap) fun b g y u t=>by
  obtain⟨q,ps,e,hc,j,_⟩:=Fi t;exact⟨q,e,ps,j,hc⟩
 simp only[Value.cells,fj.injEq,and_true]at i;exact⟨s,xs,i,o,n⟩
set_option maxRecDepth 100000 in
theorem RN{b:Nat}{v:Value}{d:DataW H}{p:List MemPlace}(a:Value.okWide Tryz.prog w .any b LY v)(_:DataW.Trod enc Tryz.prog w 0 sp held LY v d p):∃s:ByteArray,v=.string s:=okWide_string Tq a
end
end Go.Proofs.YtcpiahjlddmfiaaGreat
